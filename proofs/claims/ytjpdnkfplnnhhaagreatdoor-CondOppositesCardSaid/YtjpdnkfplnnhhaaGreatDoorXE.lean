/- A part of SX: symbolic and concrete runs of the program, with contracts of functions; lemmas without further conditions. -/
import Derived.Test.YtjpdnkfplnnhhaaGreatDoorXD
set_option linter.unusedVariables false
set_option linter.unusedSimpArgs false
set_option linter.unusedSectionVars false
/- SX: operations that touch memory, behind guards whose value is known. -/
set_option linter.unusedVariables false
set_option linter.unusedSimpArgs false
namespace Go.Proofs.YtjpdnkfplnnhhaaGreatDoor
namespace SX
open Go
section
variable {P : Program} {T : Tb} {ops : Array Oper} {o : Oper}
theorem wp_bare (a : Act) (w : World) (K : Act → World → Prop) (Q : Exit → Act → World → Prop) : ({ o with guard := none } : Oper).wp P a w K Q = o.wp P a w K Q := rfl
/-- Its guards say yes: as if it had none. -/
theorem OpC.guardT (hT : TabOk P T) {K : St → Prop} {t : List SV} {h : List SB} {p : List (Nat × Bool)} (hg : guardOf ops t o = some p) (hb : gB t p = true) (hK : sop P T ops { o with guard := none } K ⟨t, h⟩) : OpC P T ops o K ⟨t, h⟩ := by
  refine ⟨fun C E m a w hr => ?_⟩
  have h1 := (sop_sound hT hK).out C E m a w hr
  obtain ⟨g, hgv, hw⟩ := guardOf_spec hr hg
  have hg1 : g = true := by rw [← GV_gB hgv]; exact hb
  unfold opW at h1 ⊢
  rw [hw, hg1, if_pos rfl]
  rw [show Region.wanted { o with guard := none } (yielded ops a.tmps) = true by simp [Region.wanted], if_pos rfl] at h1
  exact h1
/-- Its guards say no: nothing is done; its slot may be told as what would have been there. -/
theorem OpC.skipG {K : St → Prop} {t : List SV} {h : List SB} {p : List (Nat × Bool)} (hg : guardOf ops t o = some p) (hb : gB t p = false) (x : SV) (hK : putK t h o.dst (wrapG p o.dst x) K) : OpC P T ops o K ⟨t, h⟩ := by
  rw [putK_eq] at hK
  refine ⟨fun C E m a w hr => ?_⟩
  obtain ⟨g, hgv, hw⟩ := guardOf_spec hr hg
  have hg1 : g = false := by rw [← GV_gB hgv]; exact hb
  subst hg1
  unfold opW
  rw [hw]
  simp only [Bool.false_eq_true, if_false]
  exact ⟨E, m, _, hK, .refl .., hr.putG (x := x) hgv (fun h => by cases h) (fun _ => rfl)⟩
def notB : SV → Bool
  | .b _ => false
  | .grd _ _ => false
  | .dead => false
  | _ => true
theorem Rep.open {E C m t h a w} (hr : Rep E C m ⟨t, h⟩ a w) {j : Nat} {q : List (Nat × Bool)} {y : SV} (hj : t[j]? = some (.grd q y)) (hb : gB t q = true) (hy : notB y = true) : Rep E C m ⟨t.set j y, h⟩ a w := by
  have hlt : j < t.length := (List.getElem?_eq_some_iff.1 hj).1
  have hn : (∀ b, SV.grd q y ≠ .b b) ∧ ∀ q' b, SV.grd q y ≠ .grd q' (.b b) := ⟨fun b => by simp, fun q' b e => by cases e; cases hy⟩
  refine ⟨by simpa using hr.sz, ?_, hr.df, hr.rel⟩
  intro i x v hx hv
  by_cases hi : i = j
  · subst hi
    rw [List.getElem?_set_self hlt] at hx
    cases hx
    obtain ⟨g, hgv, h1, _⟩ := hr.sl i _ v hj hv
    obtain ⟨h2, h3, h4⟩ := h1 (by rw [← GV_gB hgv]; exact hb)
    rw [h4]
    exact SlotOk_live ⟨h2, h3⟩
  · rw [List.getElem?_set_ne (Ne.symm hi)] at hx
    exact (hr.sl i x v hx hv).set_plain hj hn
/-- A slot behind guards that say yes. -/
theorem OpC.open {K : St → Prop} {t : List SV} {h : List SB} (j : Nat) {q : List (Nat × Bool)} {y : SV} (hj : t[j]? = some (.grd q y)) (hb : gB t q = true) (hy : notB y = true) (hK : OpC P T ops o K ⟨t.set j y, h⟩) : OpC P T ops o K ⟨t, h⟩ :=
  OpC.from fun C E m a w hr => ⟨E, m, _, hK, .refl .., hr.open hj hb hy⟩
/-! ### In a region whose order is drawn -/
theorem Yld.bare {S : St} {e : Eff} {p : List (Nat × Bool)} (hg : guardOf ops S.t o = some p) (hb : gB S.t p = true) (hy : Yld P ops { o with guard := none } e S) : Yld P ops o { e with rs := e.rs ++ p.map (·.1) } S := by
  refine ⟨fun S' l1 l2 h1 h2 h3 C E m a w hr => ?_⟩
  have h4 := hy.out S' l1 l2 (fun n hn => h1 n (List.mem_append_left _ hn)) h2 h3 C E m a w hr
  have hlk : Like (p.map (·.1)) S.t S'.t := fun n hn => h1 n (List.mem_append_right _ hn)
  obtain ⟨g, hgv, hw⟩ := guardOf_spec hr (guardOf_like hg hlk)
  have hg1 : g = true := by rw [← GV_gB hgv, gB_like hlk]; exact hb
  unfold opW at h4 ⊢
  rw [hw, hg1, if_pos rfl]
  rw [show Region.wanted { o with guard := none } (yielded ops a.tmps) = true by simp [Region.wanted], if_pos rfl] at h4
  exact h4
/-- Its guards say yes: as if it had none. -/
theorem OpD.guardT (hT : TabOk P T) {n : Nat} {K : Eff → Nat → St → Prop} {t : List SV} {h : List SB} {p : List (Nat × Bool)} (hg : guardOf ops t o = some p) (hb : gB t p = true) (hK : dop P T ops { o with guard := none } n (fun e n' S' => K { e with rs := e.rs ++ p.map (·.1) } n' S') ⟨t, h⟩) : OpD P ops o n K ⟨t, h⟩ := by
  obtain ⟨e, n', h1, h2, h3, h4, h5⟩ := (dop_sound hT hK).out
  exact ⟨⟨{ e with rs := e.rs ++ p.map (·.1) }, n', h1, h2.bare hg hb, fun n hn => List.mem_append_left _ (h3 n hn), h4, h5⟩⟩
theorem Rep.close {E C m t h a w} {j : Nat} {q : List (Nat × Bool)} {y : SV} (hr : Rep E C m ⟨t.set j y, h⟩ a w) (hj : t[j]? = some (.grd q y)) (hb : GV t q true) (hy : notB y = true) : Rep E C m ⟨t, h⟩ a w := by
  have hlt : j < t.length := (List.getElem?_eq_some_iff.1 hj).1
  have hn : (∀ b, y ≠ .b b) ∧ ∀ q' b, y ≠ .grd q' (.b b) := ⟨fun b e => (by subst e; cases hy), fun q' b e => (by subst e; cases hy)⟩
  have hset : (t.set j y).set j (.grd q y) = t := by
    rw [List.set_set]
    refine List.ext_getElem? fun i => ?_
    by_cases hi : i = j
    · subst hi; rw [List.getElem?_set_self hlt, hj]
    · rw [List.getElem?_set_ne (Ne.symm hi)]
  have hself : (t.set j y)[j]? = some y := by rw [List.getElem?_set_self hlt]
  refine ⟨by simpa using hr.sz, ?_, hr.df, hr.rel⟩
  intro i x v hx hv
  by_cases hi : i = j
  · subst hi
    have hx2 : x = .grd q y := by rw [hj] at hx; exact (Option.some.inj hx).symm
    subst hx2
    have h0 := hr.sl i y v hself hv
    refine ⟨true, hb, fun _ => ?_, fun h => by cases h⟩
    cases y <;> first | (cases hy; done) | exact ⟨h0.1, rfl, h0.2⟩
  · have h0 := hr.sl i x v (by rw [List.getElem?_set_ne (Ne.symm hi)]; exact hx) hv
    have h1 := h0.set_plain (y := .grd q y) hself hn
    rwa [hset] at h1
/-- A slot behind guards that say yes, read by this operation. -/
theorem Yld.open {t : List SV} {h : List SB} {e : Eff} (j : Nat) {q : List (Nat × Bool)} {y : SV} (hj : t[j]? = some (.grd q y)) (hb : gB t q = true) (hy : notB y = true) (hY : Yld P ops o e ⟨t.set j y, h⟩) : Yld P ops o { e with rs := e.rs ++ j :: q.map (·.1) } ⟨t, h⟩ := by
  have hlt : j < t.length := (List.getElem?_eq_some_iff.1 hj).1
  refine ⟨fun S' l1 l2 h1 h2 h3 C E m a w hr => ?_⟩
  obtain ⟨t', h'⟩ := S'
  have hlt' : j < t'.length := by rw [show t'.length = t.length from l1]; exact hlt
  have hlk : Like (q.map (·.1)) t t' := fun n hn => h1 n (List.mem_append_right _ (List.mem_cons_of_mem _ hn))
  have hj' : t'[j]? = some (.grd q y) := by rw [← hj]; exact h1 j (List.mem_append_right _ (List.mem_cons_self ..))
  have hb' : gB t' q = true := by rw [gB_like hlk]; exact hb
  have hgv : GV t' q true := by
    have hlt2 : j < a.tmps.size := by rw [hr.sz]; exact hlt'
    obtain ⟨g, hgv, _⟩ := hr.sl j _ (a.tmps[j]) hj' (Array.getElem?_eq_getElem hlt2)
    have : g = true := by rw [← GV_gB hgv]; exact hb'
    rwa [this] at hgv
  have hnk : ∀ d, killG d y = y := fun d => by cases y <;> first | rfl | cases hy
  have h4 := hY.out ⟨t'.set j y, h'⟩ (by simpa using l1) l2 (fun n hn => ?_) h2 (fun d hd => ?_) C E m a w (hr.open hj' hb' hy)
  rotate_left
  · by_cases hnj : n = j
    · subst hnj; simp only; rw [List.getElem?_set_self hlt', List.getElem?_set_self hlt]
    · simp only; rw [List.getElem?_set_ne (Ne.symm hnj), List.getElem?_set_ne (Ne.symm hnj)]
      exact h1 n (List.mem_append_left _ hn)
  · have := h3 d hd
    simp only [killL, List.map_set, hnk] at this ⊢
    rw [this]
  have next : ∀ a' w', (∃ E' m', Ext E m (vers h') E' m' (vers (e.put ⟨t'.set j y, h'⟩).h) ∧ Rep E' C m' (e.put ⟨t'.set j y, h'⟩) a' w') →
      ∃ E' m', Ext E m (vers h') E' m' (vers (({ e with rs := e.rs ++ j :: q.map (·.1) } : Eff).put ⟨t', h'⟩).h) ∧ Rep E' C m' (({ e with rs := e.rs ++ j :: q.map (·.1) } : Eff).put ⟨t', h'⟩) a' w' := by
    rintro a' w' ⟨E', m', k1, k2⟩
    refine ⟨E', m', k1, ?_⟩
    simp only [Eff.put] at k2 ⊢
    cases hd : e.d with
    | none =>
      rw [hd] at k2
      exact Rep.close k2 hj' hgv hy
    | some d =>
      rw [hd] at k2
      simp only [setT] at k2 ⊢
      by_cases hdj : d = j
      · subst hdj; rwa [List.set_set] at k2
      · rw [List.set_comm _ _ (Ne.symm hdj)] at k2
        refine Rep.close k2 (by rw [List.getElem?_set_ne hdj]; exact hj') (GV_slots hgv fun n z hn hz _ => ?_) hy
        have hnd : n ≠ d := fun e0 => by
          subst e0
          have h6 := congrArg (fun l => l[j]?) (h3 n hd)
          simp only [killL, List.getElem?_map, hj', Option.map_some, killG, hn, cond_true] at h6
          cases h6
        simp only [List.getD_eq_getElem?_getD, List.getElem?_set_ne (Ne.symm hnd)]
        simpa only [List.getD_eq_getElem?_getD] using hz
  unfold opW at h4 ⊢
  split
  · rename_i hw; rw [if_pos hw] at h4; exact wp_onlyN h4 next
  · rename_i hw; rw [if_neg hw] at h4; exact next _ _ h4
end
end SX
end Go.Proofs.YtjpdnkfplnnhhaaGreatDoor
