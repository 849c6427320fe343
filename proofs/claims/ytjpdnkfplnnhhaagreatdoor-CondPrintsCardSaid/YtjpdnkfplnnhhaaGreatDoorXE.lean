/- A part of SX: symbolic and concrete runs of the program, with contracts of functions; lemmas without further conditions. -/
import Derived.Test.YtjpdnkfplnnhhaaGreatDoorXD
set_option linter.unusedVariables false
set_option linter.unusedSimpArgs false
set_option linter.unusedSectionVars false
/- SX: operations that touch memory, behind guards whose value is known. -/
set_option linter.unusedVariables false
set_option linter.unusedSimpArgs false
namespace Go.Proofs.YtjpdnkfplnnhhaaGreatDoor
namespace SX
open Go
section
variable {P : Program} {T : Tb} {ops : Array Oper} {o : Oper}
theorem wp_bare (a : Act) (w : World) (K : Act → World → Prop) (Q : Exit → Act → World → Prop) : ({ o with guard := none } : Oper).wp P a w K Q = o.wp P a w K Q := rfl
/-- Its guards say yes: as if it had none. -/
theorem OpC.guardT (hT : TabOk P T) {K : St → Prop} {t : List SV} {h : List SB} {p : List (Nat × Bool)} (hg : guardOf ops t o = some p) (hb : gB t p = true) (hK : sop P T ops { o with guard := none } K ⟨t, h⟩) : OpC P T ops o K ⟨t, h⟩ := by
  refine ⟨fun C E m a w hr => ?_⟩
  have h1 := (sop_sound hT hK).out C E m a w hr
  obtain ⟨g, hgv, hw⟩ := guardOf_spec hr hg
  have hg1 : g = true := by rw [← GV_gB hgv]; exact hb
  unfold opW at h1 ⊢
  rw [hw, hg1, if_pos rfl]
  rw [show Region.wanted { o with guard := none } (yielded ops a.tmps) = true by simp [Region.wanted], if_pos rfl] at h1
  exact h1
/-- Its guards say no: nothing is done; its slot may be told as what would have been there. -/
theorem OpC.skipG {K : St → Prop} {t : List SV} {h : List SB} {p : List (Nat × Bool)} (hg : guardOf ops t o = some p) (hb : gB t p = false) (x : SV) (hK : putK t h o.dst (wrapG p o.dst x) K) : OpC P T ops o K ⟨t, h⟩ := by
  rw [putK_eq] at hK
  refine ⟨fun C E m a w hr => ?_⟩
  obtain ⟨g, hgv, hw⟩ := guardOf_spec hr hg
  have hg1 : g = false := by rw [← GV_gB hgv]; exact hb
  subst hg1
  unfold opW
  rw [hw]
  simp only [Bool.false_eq_true, if_false]
  exact ⟨E, m, _, hK, .refl .., hr.putG (x := x) hgv (fun h => by cases h) (fun _ => rfl)⟩
def notB : SV → Bool
  | .b _ => false
  | .grd _ _ => false
  | .dead => false
  | _ => true
theorem Rep.open {E C m t h a w} (hr : Rep E C m ⟨t, h⟩ a w) {j : Nat} {q : List (Nat × Bool)} {y : SV} (hj : t[j]? = some (.grd q y)) (hb : gB t q = true) (hy : notB y = true) : Rep E C m ⟨t.set j y, h⟩ a w := by
  have hlt : j < t.length := (List.getElem?_eq_some_iff.1 hj).1
  have hn : (∀ b, SV.grd q y ≠ .b b) ∧ ∀ q' b, SV.grd q y ≠ .grd q' (.b b) := ⟨fun b => by simp, fun q' b e => by cases e; cases hy⟩
  refine ⟨by simpa using hr.sz, ?_, hr.df, hr.rel⟩
  intro i x v hx hv
  by_cases hi : i = j
  · subst hi
    rw [List.getElem?_set_self hlt] at hx
    cases hx
    obtain ⟨g, hgv, h1, _⟩ := hr.sl i _ v hj hv
    obtain ⟨h2, h3, h4⟩ := h1 (by rw [← GV_gB hgv]; exact hb)
    rw [h4]
    exact SlotOk_live ⟨h2, h3⟩
  · rw [List.getElem?_set_ne (Ne.symm hi)] at hx
    exact (hr.sl i x v hx hv).set_plain hj hn
/-- A slot behind guards that say yes. -/
theorem OpC.open {K : St → Prop} {t : List SV} {h : List SB} (j : Nat) {q : List (Nat × Bool)} {y : SV} (hj : t[j]? = some (.grd q y)) (hb : gB t q = true) (hy : notB y = true) (hK : OpC P T ops o K ⟨t.set j y, h⟩) : OpC P T ops o K ⟨t, h⟩ :=
  OpC.from fun C E m a w hr => ⟨E, m, _, hK, .refl .., hr.open hj hb hy⟩
/-! ### In a region whose order is drawn -/
theorem Yld.bare {S : St} {e : Eff} {p : List (Nat × Bool)} (hg : guardOf ops S.t o = some p) (hb : gB S.t p = true) (hy : Yld P ops { o with guard := none } e S) : Yld P ops o { e with rs := e.rs ++ p.map (·.1) } S := by
  refine ⟨fun S' l1 l2 h1 h2 h3 C E m a w hr => ?_⟩
  have h4 := hy.out S' l1 l2 (fun n hn => h1 n (List.mem_append_left _ hn)) h2 h3 C E m a w hr
  have hlk : Like (p.map (·.1)) S.t S'.t := fun n hn => h1 n (List.mem_append_right _ hn)
  obtain ⟨g, hgv, hw⟩ := guardOf_spec hr (guardOf_like hg hlk)
  have hg1 : g = true := by rw [← GV_gB hgv, gB_like hlk]; exact hb
  unfold opW at h4 ⊢
  rw [hw, hg1, if_pos rfl]
  rw [show Region.wanted { o with guard := none } (yielded ops a.tmps) = true by simp [Region.wanted], if_pos rfl] at h4
  exact h4
/-- Its guards say yes: as if it had none. -/
theorem OpD.guardT (hT : TabOk P T) {n : Nat} {K : Eff → Nat → St → Prop} {t : List SV} {h : List SB} {p : List (Nat × Bool)} (hg : guardOf ops t o = some p) (hb : gB t p = true) (hK : dop P T ops { o with guard := none } n (fun e n' S' => K { e with rs := e.rs ++ p.map (·.1) } n' S') ⟨t, h⟩) : OpD P ops o n K ⟨t, h⟩ := by
  obtain ⟨e, n', h1, h2, h3, h4, h5⟩ := (dop_sound hT hK).out
  exact ⟨⟨{ e with rs := e.rs ++ p.map (·.1) }, n', h1, h2.bare hg hb, fun n hn => List.mem_append_left _ (h3 n hn), h4, h5⟩⟩
theorem Rep.close {E C m t h a w} {j : Nat} {q : List (Nat × Bool)} {y : SV} (hr : Rep E C m ⟨t.set j y, h⟩ a w) (hj : t[j]? = some (.grd q y)) (hb : GV t q true) (hy : notB y = true) : Rep E C m ⟨t, h⟩ a w := by
  have hlt : j < t.length := (List.getElem?_eq_some_iff.1 hj).1
  have hn : (∀ b, y ≠ .b b) ∧ ∀ q' b, y ≠ .grd q' (.b b) := ⟨fun b e => (by subst e; cases hy), fun q' b e => (by subst e; cases hy)⟩
  have hset : (t.set j y).set j (.grd q y) = t := by
    rw [List.set_set]
    refine List.ext_getElem? fun i => ?_
    by_cases hi : i = j
    · subst hi; rw [List.getElem?_set_self hlt, hj]
    · rw [List.getElem?_set_ne (Ne.symm hi)]
  have hself : (t.set j y)[j]? = some y := by rw [List.getElem?_set_self hlt]
  refine ⟨by simpa using hr.sz, ?_, hr.df, hr.rel⟩
  intro i x v hx hv
  by_cases hi : i = j
  · subst hi
    have hx2 : x = .grd q y := by rw [hj] at hx; exact (Option.some.inj hx).symm
    subst hx2
    have h0 := hr.sl i y v hself hv
    refine ⟨true, hb, fun _ => ?_, fun h => by cases h⟩
    cases y <;> first | (cases hy; done) | exact ⟨h0.1, rfl, h0.2⟩
  · have h0 := hr.sl i x v (by rw [List.getElem?_set_ne (Ne.symm hi)]; exact hx) hv
    have h1 := h0.set_plain (y := .grd q y) hself hn
    rwa [hset] at h1
/-- A slot behind guards that say yes, read by this operation. -/
theorem Yld.open {t : List SV} {h : List SB} {e : Eff} (j : Nat) {q : List (Nat × Bool)} {y : SV} (hj : t[j]? = some (.grd q y)) (hb : gB t q = true) (hy : notB y = true) (hY : Yld P ops o e ⟨t.set j y, h⟩) : Yld P ops o { e with rs := e.rs ++ j :: q.map (·.1) } ⟨t, h⟩ := by
  have hlt : j < t.length := (List.getElem?_eq_some_iff.1 hj).1
  refine ⟨fun S' l1 l2 h1 h2 h3 C E m a w hr => ?_⟩
  obtain ⟨t', h'⟩ := S'
  have hlt' : j < t'.length := by rw [show t'.length = t.length from l1]; exact hlt
  have hlk : Like (q.map (·.1)) t t' := fun n hn => h1 n (List.mem_append_right _ (List.mem_cons_of_mem _ hn))
  have hj' : t'[j]? = some (.grd q y) := by rw [← hj]; exact h1 j (List.mem_append_right _ (List.mem_cons_self ..))
  have hb' : gB t' q = true := by rw [gB_like hlk]; exact hb
  have hgv : GV t' q true := by
    have hlt2 : j < a.tmps.size := by rw [hr.sz]; exact hlt'
    obtain ⟨g, hgv, _⟩ := hr.sl j _ (a.tmps[j]) hj' (Array.getElem?_eq_getElem hlt2)
    have : g = true := by rw [← GV_gB hgv]; exact hb'
    rwa [this] at hgv
  have hnk : ∀ d, killG d y = y := fun d => by cases y <;> first | rfl | cases hy
  have h4 := hY.out ⟨t'.set j y, h'⟩ (by simpa using l1) l2 (fun n hn => ?_) h2 (fun d hd => ?_) C E m a w (hr.open hj' hb' hy)
  rotate_left
  · by_cases hnj : n = j
    · subst hnj; simp only; rw [List.getElem?_set_self hlt', List.getElem?_set_self hlt]
    · simp only; rw [List.getElem?_set_ne (Ne.symm hnj), List.getElem?_set_ne (Ne.symm hnj)]
      exact h1 n (List.mem_append_left _ hn)
  · have := h3 d hd
    simp only [killL, List.map_set, hnk] at this ⊢
    rw [this]
  have next : ∀ a' w', (∃ E' m', Ext E m (vers h') E' m' (vers (e.put ⟨t'.set j y, h'⟩).h) ∧ Rep E' C m' (e.put ⟨t'.set j y, h'⟩) a' w') →
      ∃ E' m', Ext E m (vers h') E' m' (vers (({ e with rs := e.rs ++ j :: q.map (·.1) } : Eff).put ⟨t', h'⟩).h) ∧ Rep E' C m' (({ e with rs := e.rs ++ j :: q.map (·.1) } : Eff).put ⟨t', h'⟩) a' w' := by
    rintro a' w' ⟨E', m', k1, k2⟩
    refine ⟨E', m', k1, ?_⟩
    simp only [Eff.put] at k2 ⊢
    cases hd : e.d with
    | none =>
      rw [hd] at k2
      exact Rep.close k2 hj' hgv hy
    | some d =>
      rw [hd] at k2
      simp only [setT] at k2 ⊢
      by_cases hdj : d = j
      · subst hdj; rwa [List.set_set] at k2
      · rw [List.set_comm _ _ (Ne.symm hdj)] at k2
        refine Rep.close k2 (by rw [List.getElem?_set_ne hdj]; exact hj') (GV_slots hgv fun n z hn hz _ => ?_) hy
        have hnd : n ≠ d := fun e0 => by
          subst e0
          have h6 := congrArg (fun l => l[j]?) (h3 n hd)
          simp only [killL, List.getElem?_map, hj', Option.map_some, killG, hn, cond_true] at h6
          cases h6
        simp only [List.getD_eq_getElem?_getD, List.getElem?_set_ne (Ne.symm hnd)]
        simpa only [List.getD_eq_getElem?_getD] using hz
  unfold opW at h4 ⊢
  split
  · rename_i hw; rw [if_pos hw] at h4; exact wp_onlyN h4 next
  · rename_i hw; rw [if_neg hw] at h4; exact next _ _ h4
end
end SX
end Go.Proofs.YtjpdnkfplnnhhaaGreatDoor

/- SX: string(bytes), symbolic. -/
set_option linter.unusedVariables false
set_option linter.unusedSimpArgs false
namespace Go.Proofs.YtjpdnkfplnnhhaaGreatDoor
namespace SX
open Go
section
variable {P : Program} {T : Tb} {ops : Array Oper} {o : Oper}
theorem OpC.str (hT : TabOk P T) {K : St → Prop} {t : List SV} {h : List SB} {src dst : TypeId} {x : Operand} (hop : o.op = .convert src dst x) (hg : guardOf ops t o = some []) (hl : live (evG [] t x) = true) {r : SV} {rb : List Nat} (hs : strR T h src dst (evG [] t x) = some (r, rb)) (hK : putK t h o.dst r K) : OpC P T ops o K ⟨t, h⟩ := by
  rw [putK_eq] at hK
  refine OpC.value (S := ⟨t, h⟩) (p := []) hg (x := r) (fun C E m a w hr hgv => ?_) hK
  obtain ⟨gx, rx⟩ := (hr.evs hgv).live (o := x) hl
  obtain ⟨r1, r2⟩ := strR_ok hT hr.rel gx hs
  exact ⟨_, by simp only [execOp, hop, rx, Sem.run_bind, r1, Result.andThen_ok, Sem.run_pure], .inr ⟨r2, rfl⟩⟩
end
end SX
end Go.Proofs.YtjpdnkfplnnhhaaGreatDoor

/- SX: a struct that is not written any more stays as it is, and so does a literal that points to it. -/
set_option linter.unusedVariables false
set_option linter.unusedSimpArgs false
namespace Go.Proofs.YtjpdnkfplnnhhaaGreatDoor
namespace SX
open Go
/-- A block's units are told otherwise. -/
theorem Rep.same {E C m t h a w} (hr : Rep E C m ⟨t, h⟩ a w) {j : Nat} {ty : TypeId} {s s' : List SV} {ver : Nat} (hj : h[j]? = some (.mem ty s ver 0)) (hc : cellsL E s' = cellsL E s) (ho : OkL m (vers h) s') :
    Ext E m (vers h) E m (vers (h.set j (.mem ty s' ver 0))) ∧ Rep E C m ⟨t, h.set j (.mem ty s' ver 0)⟩ a w := by
  have hvs : vers (h.set j (.mem ty s' ver 0)) = vers h := vers_set (B' := .mem ty s' ver 0) hj rfl
  have hjl : j < h.length := (List.getElem?_eq_some_iff.1 hj).1
  have hgj : (h.set j (.mem ty s' ver 0))[j]? = some (.mem ty s' ver 0) := by simp [List.getElem?_set, hjl]
  have hge : ∀ i, i ≠ j → (h.set j (.mem ty s' ver 0))[i]? = h[i]? := fun i hi => List.getElem?_set_ne (Ne.symm hi)
  have hblk : ∀ i b, BlkAt E (h.set j (.mem ty s' ver 0)) i b → BlkAt E h i b := by
    rintro i b ⟨B', hB', hb⟩
    by_cases hi : i = j
    · subst hi; rw [hgj] at hB'; cases hB'; exact ⟨_, hj, hb⟩
    · rw [hge i hi] at hB'; exact ⟨B', hB', hb⟩
  have hx : Ext E m (vers h) E m (vers (h.set j (.mem ty s' ver 0))) := ⟨fun _ _ h => h, fun _ _ h => by rw [hvs]; exact h, fun _ _ _ => rfl⟩
  refine ⟨hx, hr.up hx ?_⟩
  refine ⟨hr.rel.os, hr.rel.tape, hr.rel.output, hr.rel.im, hr.rel.fr, hr.rel.mf, ?_, ?_, fun i b hb => hr.rel.sp i b (hblk i b hb), fun i i2 b h1 h2 => hr.rel.inj i i2 b (hblk i b h1) (hblk i2 b h2)⟩
  · intro i B' hB'
    by_cases hi : i = j
    · subst hi; rw [hgj] at hB'; cases hB'
      obtain ⟨e0, b, c, e1, e2, _⟩ := hr.rel.bl i _ hj
      exact ⟨e0, b, c, e1, by rw [hc]; exact e2, by rw [hvs]; exact ho⟩
    · rw [hge i hi] at hB'
      exact (hr.rel.bl i B' hB').mono hx (fun _ _ => rfl) (fun _ _ => rfl)
  · rw [hvs]; exact hr.rel.nn
/-- A struct's block stays. -/
theorem stillB_base {E C m t h a w} (hr : Rep E C m ⟨t, h⟩ a w) {k : Nat} {ty : TypeId} {segs : List SV} (hk : h[k]? = some (.mem ty segs 1 0)) :
    ∃ m' b c, Ext E m (vers h) E m' (vers (h.set k (.gone 1))) ∧ Rep E C m' ⟨t, h.set k (.gone 1)⟩ a w ∧ E k 1 = some (b, c) ∧ m' b = some (.cells (cellsL E segs).toArray ty (0, 0)) ∧ OkL m' (vers h) segs := by
  have hvs : vers (h.set k (.gone 1)) = vers h := vers_set (B' := .gone 1) hk rfl
  have hkl : k < h.length := (List.getElem?_eq_some_iff.1 hk).1
  have hgk : (h.set k (.gone 1))[k]? = some (.gone 1) := by simp [List.getElem?_set, hkl]
  have hge : ∀ j, j ≠ k → (h.set k (.gone 1))[j]? = h[j]? := fun j hj => List.getElem?_set_ne (Ne.symm hj)
  have hblk : ∀ j b, BlkAt E (h.set k (.gone 1)) j b → j ≠ k ∧ BlkAt E h j b := by
    rintro j b ⟨B', hB', hb⟩
    by_cases hj : j = k
    · subst hj; rw [hgk] at hB'; cases hB'; exact hb.elim
    · rw [hge j hj] at hB'; exact ⟨hj, B', hB', hb⟩
  obtain ⟨_, b, c, e1, e2, o1⟩ := hr.rel.bl k _ hk
  have hat : BlkAt E h k b := ⟨_, hk, by decide, c, e1⟩
  obtain ⟨s1, s2⟩ := hr.rel.sp k b hat
  have hm1 : ∀ b' o, m b' = some o → (fun b' => if b' = b then some (.cells (cellsL E segs).toArray ty (0, 0)) else m b') b' = some o := fun b' o ho => by
    have : b' ≠ b := fun e => by subst e; rw [s1] at ho; cases ho
    simp only [if_neg this]; exact ho
  have hx : Ext E m (vers h) E (fun b' => if b' = b then some (.cells (cellsL E segs).toArray ty (0, 0)) else m b') (vers (h.set k (.gone 1))) := ⟨hm1, fun _ _ h => by rw [hvs]; exact h, fun _ _ _ => rfl⟩
  refine ⟨_, b, c, hx, hr.up hx ?_, e1, if_pos rfl, OkL.mono hm1 _ _ _ (fun _ _ h => h) o1⟩
  refine ⟨hr.rel.os, hr.rel.tape, hr.rel.output, ?_, hr.rel.fr, ⟨?_, hr.rel.mf.2.mono hm1⟩, ?_, ?_, ?_, ?_⟩
  · intro b' o ho
    by_cases hb : b' = b
    · subst hb; simp only [if_true] at ho; cases ho; exact e2
    · simp only [if_neg hb] at ho; exact hr.rel.im b' o ho
  · intro b' o ho
    have : b' ≠ b := fun e => by subst e; rw [s2] at ho; cases ho
    simp only [if_neg this]; exact hr.rel.mf.1 b' o ho
  · intro j B' hB'
    by_cases hj : j = k
    · subst hj; rw [hgk] at hB'; cases hB'; trivial
    · rw [hge j hj] at hB'
      exact (hr.rel.bl j B' hB').mono hx (fun _ _ => rfl) (fun _ _ => rfl)
  · rw [hvs]; exact hr.rel.nn
  · intro j b' hb
    obtain ⟨h1, h2⟩ := hblk j b' hb
    have : b' ≠ b := fun e => by subst e; exact h1 (hr.rel.inj j k _ h2 hat)
    simp only [if_neg this]; exact hr.rel.sp j b' h2
  · intro i j b' h1 h2; exact hr.rel.inj i j b' (hblk i b' h1).2 (hblk j b' h2).2
/-- The pointer to a struct that stays. -/
def ptrT (n : Nat) (segs : List SV) (ad : Addr) : SV := .ipt Unit () n (fun _ => segs) [()] ad 0 0 []
theorem ptrT_ok {m : Mem} {E : Env} {V : List Nat} {b : Nat} {ty : TypeId} {segs : List SV} {n : Nat} (hb : m b = some (.cells (cellsL E segs).toArray ty (0, 0))) (ho : OkL m V segs) (hn : wdL segs = n) (hnm : nmL segs = true) : Ok m [] (ptrT n segs ⟨b, 0, none⟩) := by
  have ho' : OkL m [] segs := nm_okL segs hnm ho
  have hs : cellsL E0 segs = cellsL E segs := cellsL_stable (m := m) (V := []) (fun k v hv => (Vle_nil hv).elim) segs ho'
  unfold ptrT
  simp only [Ok]
  refine ⟨by simp, fun _ => ⟨_, _, ty, (0, 0), rfl, rfl, hb, fun j hj u c hu => ?_⟩, fun _ => hn, fun j _ => ho'⟩
  have : j = 0 := by simpa using hj
  subst this
  rw [hs] at hu
  simpa using hu
section
variable {P : Program} {T : Tb} {ops : Array Oper} {o : Oper}
/-- A literal that points to a struct: the struct stays. -/
theorem OpC.stillP {K : St → Prop} {t : List SV} {h : List SB} (k j : Nat) {ty ty2 : TypeId} {segs : List SV} {n : Nat} (hk : h[k]? = some (.mem ty segs 1 0)) (hj : h[j]? = some (.mem ty2 [.ptr k 1 0 []] 1 0)) (hjk : j ≠ k) (hn : wdL segs = n) (hnm : nmL segs = true)
    (hK : ∀ ad, OpC P T ops o K ⟨t, (h.set k (.gone 1)).set j (.mem ty2 [ptrT n segs ad] 1 0)⟩) : OpC P T ops o K ⟨t, h⟩ := by
  refine OpC.from fun C E m a w hr => ?_
  obtain ⟨m', b, c, h1, h2, h3, h4, h5⟩ := stillB_base hr hk
  have hvs : vers (h.set k (.gone 1)) = vers h := vers_set (B' := .gone 1) hk rfl
  have hok := ptrT_ok h4 h5 hn hnm
  have hj' : (h.set k (.gone 1))[j]? = some (.mem ty2 [.ptr k 1 0 []] 1 0) := by rw [List.getElem?_set_ne (Ne.symm hjk)]; exact hj
  obtain ⟨h6, h7⟩ := h2.same hj' (s' := [ptrT n segs ⟨b, 0, none⟩]) (by simp [ptrT, cellsL, cells, ofs, Env.blk, h3]) (by
    simp only [OkL, and_true]
    exact ⟨rfl, Ok.mono (fun _ _ h => h) _ _ _ (fun k v hv => (Vle_nil hv).elim) hok⟩)
  exact ⟨E, m', _, hK _, h1.trans h6, h7⟩
end
end SX
end Go.Proofs.YtjpdnkfplnnhhaaGreatDoor
