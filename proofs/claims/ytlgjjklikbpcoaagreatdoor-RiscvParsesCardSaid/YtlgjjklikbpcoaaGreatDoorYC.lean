/- A part of SX: symbolic and concrete runs of the program, with contracts of functions; lemmas without further conditions. -/
import Derived.Deep.LoopGhost
import Derived.Laws.AppendOwn
import Derived.Deep.AppendSrc
import Derived.Test.YtlgjjklikbpcoaaGreatDoorYB
set_option linter.unusedVariables false
set_option linter.unusedSimpArgs false
set_option linter.unusedSectionVars false
/- SX: the rule for loops. -/
set_option linter.unusedVariables false
set_option linter.unusedSimpArgs false
namespace Go.Proofs.YtlgjjklikbpcoaaGreatDoor
namespace SX
open Go

structure Into (mk : Nat) (t : List SV) (h : List SB) (l : List (Nat × SV)) (h' : List SB) (S : St) : Prop where
  rest : maskT mk S.t 0 = maskT mk t 0
  ls : Listed mk h'.length S.t l
  hx : ∃ X, S.h = h' ++ X
  bd : BndH h'.length h'
  le : Nat.ble h.length h'.length = true
theorem maskM_plain {mk n : Nat} {x : SV} (h : tb mk n = false) (hq : ∀ q y, x = .grd q y → tbG mk q = false) : maskM mk n x = x := by
  unfold maskM
  rw [h]
  simp only [cond_false]
  cases x <;> try rfl
  rename_i q y
  simp only [hq q y rfl, cond_false]
theorem Into.rep {mk : Nat} {t : List SV} {h : List SB} {l : List (Nat × SV)} {h' : List SB} {S : St} (hi : Into mk t h l h' S) {E0 : Env} {m0 : Mem} (hent : ∀ (n : Nat) (x : SV), t[n]? = some x → ∃ v, SlotOk E0 m0 (vers h) t v x) {C E m a w} (hr : Rep E C m S a w) (hx : Ext E0 m0 (vers h) E m (vers S.h)) :
    Rep E C m ⟨setAll (maskT mk t 0) l, h'⟩ a w ∧ Ext E0 m0 (vers h) E m (vers h') := by
  obtain ⟨X, hX⟩ := hi.hx
  have hle := Nat.le_of_ble_eq_true hi.le
  have hx' : Ext E0 m0 (vers h) E m (vers h') := by
    refine ⟨hx.mm, fun k v hv => ?_, hx.ee⟩
    have hk : k < h.length := by have := Vle_lt hv; simpa [vers] using this
    have := hx.vv k v hv
    rw [hX] at this
    exact Vle_drop (by omega) this
  have hlen : S.t.length = t.length := by have := congrArg List.length hi.rest; simpa [length_maskT] using this
  have hget : ∀ n, (S.t[n]?).map (maskM mk n) = (t[n]?).map (maskM mk n) := fun n => by
    have : (maskT mk S.t 0)[n]? = (maskT mk t 0)[n]? := by rw [hi.rest]
    simpa only [maskT_get, Nat.zero_add] using this
  have hnl : ∀ n, tb mk n = false → ∀ x, (n, x) ∉ l := fun n hn x hx => by
    have := (Listed_get hi.ls n x hx).2.1
    rw [hn] at this; cases this
  have hval : ∀ (k : Nat) (y : SV), Ok m0 (vers h) y → Ok m (vers h') y := fun k y hy => Ok.mono hx'.mm y _ _ hx'.vv hy
  -- guards
  have hgv : ∀ q g, tbG mk q = false → GV S.t q g → GV (setAll (maskT mk t 0) l) q g ∧ GV t q g := by
    intro q g hq hg
    have hn0 : ∀ d, inG d q = true → tb mk d = false := fun d hd => by
      cases hb : tb mk d with
      | false => rfl
      | true => rw [tbG_iff.2 ⟨d, hd, hb⟩] at hq; cases hq
    have key : ∀ d y, inG d q = true → S.t.getD d .dead = y → ((∃ v, y = .b v) ∨ ∃ q' v, y = .grd q' (.b v)) → ∃ z, S.t[d]? = some y ∧ t[d]? = some z ∧ maskM mk d z = y ∧ (z = y) := by
      intro d y hd hy hf
      have hys : S.t[d]? = some y := by
        simp only [List.getD_eq_getElem?_getD] at hy
        cases hs : S.t[d]? with
        | none => rw [hs] at hy; simp at hy; subst hy; rcases hf with ⟨v, hv⟩ | ⟨q', v, hv⟩ <;> cases hv
        | some u => rw [hs] at hy; simp at hy; rw [hy]
      have hm : maskM mk d y = y := by
        refine maskM_plain (hn0 d hd) fun q' u hu => ?_
        rcases hf with ⟨v, hv⟩ | ⟨q2, v, hv⟩
        · rw [hv] at hu; cases hu
        · rw [hv] at hu; cases hu
          cases hb : tbG mk q' with
          | false => rfl
          | true =>
            obtain ⟨j, h1, h2⟩ := tbG_iff.1 hb
            have := GV_in hg d q' v hd (by rw [hy, hv]) j h1
            rw [hn0 j this] at h2; cases h2
      have h1 := hget d
      rw [hys] at h1
      cases ht : t[d]? with
      | none => rw [ht] at h1; simp at h1
      | some z =>
        rw [ht] at h1
        simp only [Option.map_some, Option.some.injEq] at h1
        rw [hm] at h1
        refine ⟨z, hys, rfl, h1.symm, ?_⟩
        -- a slot that is not set and masks to a value that is not dead is that value
        unfold maskM at h1
        rw [hn0 d hd] at h1
        simp only [cond_false] at h1
        cases z <;> try exact h1.symm
        rename_i q3 u3
        simp only at h1
        cases hb : tbG mk q3 with
        | false => rw [hb] at h1; exact h1.symm
        | true => rw [hb] at h1; simp only [cond_true] at h1; subst h1; rcases hf with ⟨v, hv⟩ | ⟨q', v, hv⟩ <;> cases hv
    constructor
    · refine GV_slots hg fun d y hd hy hf => ?_
      obtain ⟨z, h1, h2, h3, h4⟩ := key d y hd hy hf
      simp only [List.getD_eq_getElem?_getD]
      rw [setAll_other (hnl d (hn0 d hd)), maskT_get, h2]
      simp [h3]
    · refine GV_slots hg fun d y hd hy hf => ?_
      obtain ⟨z, h1, h2, h3, h4⟩ := key d y hd hy hf
      simp only [List.getD_eq_getElem?_getD, h2, h4]
      rfl
  refine ⟨⟨?_, ?_, hr.df, ?_⟩, hx'⟩
  · show a.tmps.size = (setAll (maskT mk t 0) l).length
    rw [length_setAll, length_maskT, hr.sz, hlen]
  · intro n x v hn hv
    rcases setAll_cases hn with hn | hn
    · rw [maskT_get] at hn
      cases ht : t[n]? with
      | none => rw [ht] at hn; simp at hn
      | some z =>
        rw [ht] at hn
        simp only [Nat.zero_add, Option.map_some, Option.some.injEq] at hn
        cases htb : tb mk n with
        | true =>
          have : x = .dead := by rw [← hn]; unfold maskM; rw [htb]; rfl
          subst this; exact trivial
        | false =>
          obtain ⟨v0, hs0⟩ := hent n z ht
          -- the slot now
          have h1 := hget n
          rw [ht] at h1
          cases hs : S.t[n]? with
          | none => rw [hs] at h1; simp at h1
          | some u =>
            rw [hs] at h1
            simp only [Option.map_some, Option.some.injEq] at h1
            have hsl := hr.sl n u v hs hv
            rw [hn] at h1
            -- h1 : maskM u = x
            have hu : x = .dead ∨ (u = x ∧ z = x) := by
              unfold maskM at h1 hn
              rw [htb] at h1 hn
              simp only [cond_false] at h1 hn
              cases u with
              | grd q y =>
                simp only at h1
                cases hb : tbG mk q with
                | true => rw [hb] at h1; exact .inl h1.symm
                | false =>
                  rw [hb] at h1
                  simp only [cond_false] at h1
                  right; refine ⟨h1, ?_⟩
                  cases z <;> try exact hn
                  rename_i q3 u3
                  simp only at hn
                  cases hb3 : tbG mk q3 with
                  | true => rw [hb3] at hn; simp only [cond_true] at hn; rw [← hn] at h1; cases h1
                  | false => rw [hb3] at hn; exact hn
              | _ =>
                simp only at h1
                cases z <;> try exact .inr ⟨h1, hn⟩
                rename_i q3 u3
                simp only at hn
                cases hb3 : tbG mk q3 with
                | true => rw [hb3] at hn; exact .inl hn.symm
                | false => rw [hb3] at hn; exact .inr ⟨h1, hn⟩
            rcases hu with rfl | ⟨rfl, rfl⟩
            · exact trivial
            · cases z with
              | dead => exact trivial
              | grd q y =>
                have hq : tbG mk q = false := by
                  cases hb : tbG mk q with
                  | false => rfl
                  | true => unfold maskM at hn; rw [htb] at hn; simp only [cond_false, hb, cond_true] at hn; cases hn
                obtain ⟨g, hg, k1, k2⟩ := hsl
                obtain ⟨g0, hg0, j1, j2⟩ := hs0
                obtain ⟨gv1, gv2⟩ := hgv q g hq hg
                have : g0 = g := hg0.fun gv2
                subst this
                exact ⟨g0, gv1, fun ht => ⟨hval 0 y (j1 ht).1, (k1 ht).2⟩, k2⟩
              | _ => exact ⟨hval 0 _ hs0.1, hsl.2⟩
    · obtain ⟨e1, e2, e3, e4⟩ := Listed_get hi.ls n x hn
      have hs : S.t[n]? = some x := by
        simp only [List.getD_eq_getElem?_getD] at e1
        cases hs : S.t[n]? with
        | none => rw [hs] at e1; simp at e1; subst e1; simp [live] at e3
        | some u => rw [hs] at e1; simp at e1; rw [e1]
      have hsl := hr.sl n x v hs hv
      obtain ⟨g1, g2⟩ := slot_live hsl e3
      have hok : Ok m (vers h') x := Bnd_ok (fun k v hk hv => by rw [hX] at hv; exact Vle_drop hk hv) e4 g1.1
      rw [g2]
      exact SlotOk_live ⟨hok, e3⟩
  · have h2 := hr.rel
    rw [hX] at h2
    exact h2.drop hi.bd
theorem WpC.loop {P : Program} {T : Tb} (hT : TabOk P T) {c : Code} {K : Exit → St → Prop} {t : List SV} {h : List SB} {β : Type} (I : β → Prop) (sl : β → List (Nat × SV)) (hp : β → List SB) (μ : β → Nat) (b0 : β) (mk : Nat)
    (i0 : I b0) (h0 : Into mk t h (sl b0) (hp b0) ⟨t, h⟩)
    (round : ∀ b, I b → maskK mk t 0 fun t1 => setAllK t1 (sl b) fun t2 => sx P T c (fun e S' => match e with | .normal => ∃ b', I b' ∧ μ b' < μ b ∧ Into mk t h (sl b') (hp b') S' | e => K e S') ⟨t2, hp b⟩) :
    WpC P (.loop c) K ⟨t, h⟩ := by
  refine ⟨fun C E m a w hr => ?_⟩
  have hent : ∀ (n : Nat) (x : SV), t[n]? = some x → ∃ v, SlotOk E m (vers h) t v x := fun n x hn => by
    have hlt : n < t.length := (List.getElem?_eq_some_iff.1 hn).1
    exact ⟨_, hr.sl n x _ hn (Array.getElem?_eq_getElem (by rw [hr.sz]; exact hlt))⟩
  refine wp_loop_ghost (fun n a w => ∃ b E' m', μ b = n ∧ I b ∧ Ext E m (vers h) E' m' (vers (hp b)) ∧ Rep E' C m' ⟨setAll (maskT mk t 0) (sl b), hp b⟩ a w) (μ b0) ?_ ?_
  · obtain ⟨r1, r2⟩ := h0.rep hent hr (.refl ..)
    exact ⟨b0, E, m, rfl, i0, r2, r1⟩
  · rintro n a1 w1 ⟨b, E1, m1, rfl, hI, hx1, hr1⟩
    have h1 := round b hI
    rw [maskK_eq, setAllK_eq] at h1
    refine wp_mono ((sx_sound hT c _ _ h1).out C E1 m1 a1 w1 hr1) ?_
    rintro e a2 w2 ⟨E2, m2, S2, k1, k2, k3⟩
    cases e with
    | normal =>
      obtain ⟨b', j1, j2, j3⟩ := k1
      obtain ⟨r1, r2⟩ := j3.rep hent k3 (hx1.trans k2)
      exact ⟨μ b', j2, b', E2, m2, rfl, j1, r2, r1⟩
    | exit id => exact ⟨E2, m2, S2, k1, hx1.trans k2, k3⟩
    | goto l => exact ⟨E2, m2, S2, k1, hx1.trans k2, k3⟩
    | ret => exact ⟨E2, m2, S2, k1, hx1.trans k2, k3⟩
    | panic ch => exact ⟨E2, m2, S2, k1, hx1.trans k2, k3⟩
    | outgrown => exact ⟨E2, m2, S2, k1, hx1.trans k2, k3⟩
end SX
end Go.Proofs.YtlgjjklikbpcoaaGreatDoor

/- SX: calls in regions whose order is drawn; lending blocks to a call. -/
set_option linter.unusedVariables false
set_option linter.unusedSimpArgs false
namespace Go.Proofs.YtlgjjklikbpcoaaGreatDoor
namespace SX
open Go

section
variable {P : Program} {ops : Array Oper} {o : Oper}
theorem OpD.callV {n : Nat} {K : Eff → Nat → St → Prop} {t : List SV} {h : List SB} {c : Call} (hop : o.op = .call c) {fo : Operand} (hcal : c.callee = .value fo) {p : List (Nat × Bool)} (hg : guardOf ops t o = some p) {f : FuncId} {fst caps : List SV} (hf : calB (evG p t fo) = some (f, fst, caps))
    {args : List SV} (ha : fst ++ (c.args.toList.map (evG p t) ++ caps) = args) (hl : (c.args.toList.map (evG p t)).all live = true) (hn : nmL args = true) {r : SV} (hc : (gB t p = true → CtrV P f args r)) (hK : putD t h o.dst (wrapG p o.dst r) (readsOf o p) [] n K) : OpD P ops o n K ⟨t, h⟩ := by
  subst ha
  unfold putD at hK
  simp only [force_eq, setD_eq] at hK
  refine ⟨⟨⟨o.dst, wrapG p o.dst r, hang (wrapG p o.dst r) ++ readsOf o p, [], []⟩, n, rfl, ⟨fun S' _ _ h1 h2 h3 C E m a w hr => ?_⟩, fun n hn => List.mem_append_left _ hn, fun k hk => by simp [wN] at hk, hK⟩⟩
  have hlk : Like (readsOf o p) t S'.t := fun n hn => h1 n (List.mem_append_right _ hn)
  have hops := readsOf_op hlk
  rw [hop] at hops
  have e1 : evG p S'.t fo = evG p t fo := evG_of (hops fo (by simp [Op.operands, Call.operands, hcal]))
  have e2 : c.args.toList.map (evG p S'.t) = c.args.toList.map (evG p t) := List.map_congr_left fun x hx => evG_of (hops x (by simp [Op.operands, Call.operands]; exact .inr (by simpa using hx)))
  obtain ⟨t', h'⟩ := S'
  have hh := (OpC.callV (P := P) (T := fun _ => none) (ops := ops) (o := o) (t := t') (h := h') (K := fun S'' => S'' = ⟨putF t' o.dst (wrapG p o.dst r), h'⟩) hop hcal (guardOf_like hg (readsOf_g hlk)) (by rw [e1]; exact hf) rfl (by rw [e2]; exact hl) (by rw [e2]; exact hn) (fun hgb => by rw [e2]; exact hc (by rw [← gB_like (readsOf_g hlk)]; exact hgb)) (by rw [putK_eq])).out C E m a w hr
  unfold opW at hh ⊢
  have next : ∀ a' w', (∃ E' m' S'', S'' = (⟨putF t' o.dst (wrapG p o.dst r), h'⟩ : St) ∧ Ext E m (vers h') E' m' (vers S''.h) ∧ Rep E' C m' S'' a' w') →
      ∃ E' m', Ext E m (vers h') E' m' (vers ((⟨o.dst, wrapG p o.dst r, hang (wrapG p o.dst r) ++ readsOf o p, [], []⟩ : Eff).put ⟨t', h'⟩).h) ∧ Rep E' C m' ((⟨o.dst, wrapG p o.dst r, hang (wrapG p o.dst r) ++ readsOf o p, [], []⟩ : Eff).put ⟨t', h'⟩) a' w' := by
    rintro a' w' ⟨E', m', S'', rfl, k1, k2⟩
    rw [putF_clean h3] at k2
    exact ⟨E', m', k1, k2⟩
  split
  · rename_i hw
    rw [if_pos hw] at hh
    exact wp_onlyN hh next
  · rename_i hw
    rw [if_neg hw] at hh
    exact next _ _ hh
end

/-! ### Names under other names -/
mutual
def ren (ρ : Nat → Nat) : SV → SV
  | .ptr k v off ix => .ptr (ρ k) v off ix
  | .sl k v off len cap dc => .sl (ρ k) v off len cap dc
  | .map k => .map (ρ k)
  | .arr N α d n enc xs => .arr N α d n (fun x => renL ρ (enc x)) xs
  | .fn f caps => .fn f (renL ρ caps)
  | .iface t x => .iface t (ren ρ x)
  | .bm t x => .bm t (ren ρ x)
  | .agg cs => .agg (renL ρ cs)
  | .tup vs => .tup (renL ρ vs)
  | .grd p x => .grd p (ren ρ x)
  | .i k n => .i k n
  | .b x => .b x
  | .s l => .s l
  | .raw v => .raw v
  | .nils => .nils
  | .ipt α d n enc xs a j sub ix => .ipt α d n enc xs a j sub ix
  | .imm α d n enc xs a cap => .imm α d n enc xs a cap
  | .ints k n xs => .ints k n xs
  | .dead => .dead
def renL (ρ : Nat → Nat) : List SV → List SV
  | [] => []
  | x :: r => ren ρ x :: renL ρ r
end
def renB (ρ : Nat → Nat) : SB → SB
  | .mem t segs v g => .mem t (renL ρ segs) v g
  | .mp kv v => .mp (kv.map fun p => (ren ρ p.1, ren ρ p.2)) v
  | .gone v => .gone v
  | .fresh => .fresh
theorem renB_lim (ρ : Nat → Nat) (B : SB) : (renB ρ B).lim = B.lim := by cases B <;> rfl
theorem ren_unit {ρ : Nat → Nat} (x : SV) : isUnit (ren ρ x) = isUnit x ∧ live (ren ρ x) = live x ∧ wd (ren ρ x) = wd x := by cases x <;> simp [ren, isUnit, live, wd]
theorem renL_wd {ρ : Nat → Nat} : ∀ l : List SV, wdL (renL ρ l) = wdL l
  | [] => rfl
  | x :: r => by simp only [renL, wdL, renL_wd r, (ren_unit x).2.2]
theorem wrapV_ren {ρ : Nat → Nat} (x : SV) (cs : List Value) : wrapV (ren ρ x) cs = wrapV x cs := by cases x <;> rfl
section
variable {m : Mem} {V V' : List Nat} {ρ : Nat → Nat} {E E' : Env} (hV : ∀ k v, Vle V k v → Vle V' (ρ k) v ∧ E' (ρ k) v = E k v)
include hV
mutual
theorem ren_ok : ∀ x : SV, Ok m V x → Ok m V' (ren ρ x) ∧ cells E' (ren ρ x) = cells E x
  | .i _ _, _ | .b _, _ | .s _, _ | .raw _, _ | .nils, _ | .dead, _ => by simp [Ok, ren, cells]
  | .grd p x, _ => by simp [Ok, ren, cells]
  | .ptr k v off ix, h => by
    simp only [Ok] at h
    have := hV k v h.1
    simp only [Ok, ren, cells, Env.blk, this.2]
    exact ⟨⟨this.1, h.2⟩, trivial⟩
  | .sl k v off len cap dc, h => by
    simp only [Ok] at h
    have := hV k v h.1
    simp only [Ok, ren, cells, this.2]
    exact ⟨⟨this.1, h.2⟩, trivial⟩
  | .map k, h => by
    simp only [Ok] at h
    have := hV k 1 h
    simp only [Ok, ren, cells, Env.blk, this.2]
    exact ⟨this.1, trivial⟩
  | .arr N α d n enc xs, h => by
    simp only [Ok] at h
    simp only [Ok, ren, cells]
    refine ⟨⟨h.1, fun x => by rw [renL_wd]; exact h.2.1 x, fun j hj => (renL_ok _ (h.2.2 j hj)).1⟩, ?_⟩
    rw [List.flatMap_def, List.flatMap_def]
    congr 1
    apply List.map_congr_left
    intro j hj
    exact (renL_ok _ (h.2.2 j (by simpa using hj))).2
  | .ipt _ _ _ _ _ _ _ _ _, h | .imm _ _ _ _ _ _ _, h | .ints _ _ _, h => by simp only [ren]; exact ⟨by simpa only [Ok] using h, by simp only [cells]⟩
  | .fn f caps, h => by
    simp only [Ok] at h
    have := renA_ok caps h
    simp only [Ok, ren, cells, this.2]
    exact ⟨this.1, trivial⟩
  | .iface t x, h => by
    simp only [Ok] at h
    have := ren_ok x h.1
    simp only [Ok, ren, cells, this.2, wrapV_ren, (ren_unit x).2.1]
    exact ⟨⟨this.1, h.2⟩, trivial⟩
  | .bm t x, h => by
    simp only [Ok] at h
    have := ren_ok x h.1
    simp only [Ok, ren, cells, this.2, wrapV_ren, (ren_unit x).2.1]
    exact ⟨⟨this.1, h.2⟩, trivial⟩
  | .agg cs, h => by
    simp only [Ok] at h
    have := renL_ok cs h
    simp only [Ok, ren, cells]
    exact this
  | .tup vs, h => by
    simp only [Ok] at h
    have := renA_ok vs h
    simp only [Ok, ren, cells, this.2]
    exact ⟨this.1, trivial⟩
theorem renL_ok : ∀ l : List SV, OkL m V l → OkL m V' (renL ρ l) ∧ cellsL E' (renL ρ l) = cellsL E l
  | [], _ => by simp [OkL, renL, cellsL]
  | x :: r, h => by
    simp only [OkL] at h
    have h1 := ren_ok x h.1.2
    have h2 := renL_ok r h.2
    simp only [OkL, renL, cellsL, h1.2, h2.2, (ren_unit x).1]
    exact ⟨⟨⟨h.1.1, h1.1⟩, h2.1⟩, trivial⟩
theorem renA_ok : ∀ l : List SV, OkA m V l → OkA m V' (renL ρ l) ∧ denL E' (renL ρ l) = denL E l
  | [], _ => by simp [OkA, renL, denL]
  | x :: r, h => by
    simp only [OkA] at h
    have h1 := ren_ok x h.1.2
    have h2 := renA_ok r h.2
    simp only [OkA, renL, denL, h1.2, h2.2, wrapV_ren, (ren_unit x).2.1]
    exact ⟨⟨⟨h.1.1, h1.1⟩, h2.1⟩, trivial⟩
end
end
section
variable {m : Mem} {V V' : List Nat} {ρ : Nat → Nat} (hV : ∀ k v, Vle V' (ρ k) v → Vle V k v)
include hV
mutual
theorem ren_back : ∀ x : SV, Ok m V' (ren ρ x) → Ok m V x
  | .i _ _, _ | .b _, _ | .s _, _ | .raw _, _ | .nils, _ | .dead, _ | .grd _ _, _ => by simp [Ok]
  | .ptr k v off ix, h => by simp only [Ok, ren] at h ⊢; exact ⟨hV k v h.1, h.2⟩
  | .sl k v off len cap dc, h => by simp only [Ok, ren] at h ⊢; exact ⟨hV k v h.1, h.2⟩
  | .map k, h => by simp only [Ok, ren] at h ⊢; exact hV k 1 h
  | .arr N α d n enc xs, h => by
    simp only [Ok, ren] at h ⊢
    exact ⟨h.1, fun x => by have := h.2.1 x; rwa [renL_wd] at this, fun j hj => renL_back _ (h.2.2 j hj)⟩
  | .ipt _ _ _ _ _ _ _ _ _, h | .imm _ _ _ _ _ _ _, h | .ints _ _ _, h => by simpa only [Ok, ren] using h
  | .fn f caps, h => by simp only [Ok, ren] at h ⊢; exact renA_back caps h
  | .iface t x, h => by simp only [Ok, ren, (ren_unit x).2.1] at h ⊢; exact ⟨ren_back x h.1, h.2⟩
  | .bm t x, h => by simp only [Ok, ren, (ren_unit x).2.1] at h ⊢; exact ⟨ren_back x h.1, h.2⟩
  | .agg cs, h => by simp only [Ok, ren] at h ⊢; exact renL_back cs h
  | .tup vs, h => by simp only [Ok, ren] at h ⊢; exact renA_back vs h
theorem renL_back : ∀ l : List SV, OkL m V' (renL ρ l) → OkL m V l
  | [], _ => by simp [OkL]
  | x :: r, h => by
    simp only [OkL, renL, (ren_unit x).1] at h ⊢
    exact ⟨⟨h.1.1, ren_back x h.1.2⟩, renL_back r h.2⟩
theorem renA_back : ∀ l : List SV, OkA m V' (renL ρ l) → OkA m V l
  | [], _ => by simp [OkA]
  | x :: r, h => by
    simp only [OkA, renL, (ren_unit x).2.1] at h ⊢
    exact ⟨⟨h.1.1, ren_back x h.1.2⟩, renA_back r h.2⟩
end
end
end SX
end Go.Proofs.YtlgjjklikbpcoaaGreatDoor

/- SX: blocks are lent to a call. -/
set_option linter.unusedVariables false
set_option linter.unusedSimpArgs false
namespace Go.Proofs.YtlgjjklikbpcoaaGreatDoor
namespace SX
open Go

section
variable {m : Mem} {V V' : List Nat} {ρ : Nat → Nat} {E E' : Env} {w : World} {k : Nat}
theorem holds_ren (hV : ∀ k v, Vle V k v → Vle V' (ρ k) v ∧ E' (ρ k) v = E k v) (hE : ∀ v, E' (ρ k) v = E k v) {B : SB} (h : Holds E m V w k B) : Holds E' m V' w (ρ k) (renB ρ B) := by
  cases B with
  | mem t segs ver gr =>
    cases gr with
    | zero =>
      obtain ⟨h0, b, c, h1, h2, h3⟩ := h
      have := renL_ok hV segs h3
      exact ⟨h0, b, c, by rw [hE, h1], by rw [this.2]; exact h2, this.1⟩
    | succ gr =>
      obtain ⟨h3, h4, h5⟩ := h
      have := renL_ok hV segs h3
      refine ⟨this.1, fun h0 => by rw [this.2, hE]; exact h4 h0, fun h0 => ?_⟩
      obtain ⟨b, c, sp, h1, h2, h6⟩ := h5 h0
      exact ⟨b, c, sp, by rw [hE, h1], by rw [this.2]; exact h2, by rw [this.2]; exact h6⟩
  | mp kv ver =>
    obtain ⟨h0, b, c, es, clock, h1, h2, h3, h4⟩ := h
    refine ⟨h0, b, c, es, clock, by rw [hE, h1], h2, ?_, fun q hq => ?_⟩
    · unfold MapHas at h3 ⊢
      rw [h3, List.map_map]
      apply List.map_congr_left
      intro p hp
      have := h4 p hp
      simp only [Function.comp, den, wrapV_ren, (ren_ok hV _ this.1.1).2, (ren_ok hV _ this.2.1).2]
    · obtain ⟨p, hp, rfl⟩ := List.mem_map.1 hq
      have := h4 p hp
      exact ⟨⟨(ren_ok hV _ this.1.1).1, by rw [(ren_unit _).2.1]; exact this.1.2⟩, (ren_ok hV _ this.2.1).1, by rw [(ren_unit _).2.1]; exact this.2.2⟩
  | gone v => trivial
  | fresh => trivial
theorem holds_back (hV : ∀ k v, Vle V k v → Vle V' (ρ k) v ∧ E' (ρ k) v = E k v) (hB : ∀ k v, Vle V' (ρ k) v → Vle V k v) (hE : ∀ v, E' (ρ k) v = E k v) {B : SB} (h : Holds E' m V' w (ρ k) (renB ρ B)) : Holds E m V w k B := by
  cases B with
  | mem t segs ver gr =>
    cases gr with
    | zero =>
      obtain ⟨h0, b, c, h1, h2, h3⟩ := h
      have h3' := renL_back hB segs h3
      have := renL_ok hV segs h3'
      exact ⟨h0, b, c, by rw [← hE, h1], by rw [← this.2]; exact h2, h3'⟩
    | succ gr =>
      obtain ⟨h3, h4, h5⟩ := h
      have h3' := renL_back hB segs h3
      have := renL_ok hV segs h3'
      refine ⟨h3', fun h0 => by rw [← this.2, ← hE]; exact h4 h0, fun h0 => ?_⟩
      obtain ⟨b, c, sp, h1, h2, h6⟩ := h5 h0
      exact ⟨b, c, sp, by rw [← hE, h1], by rw [← this.2]; exact h2, by rw [← this.2]; exact h6⟩
  | mp kv ver =>
    obtain ⟨h0, b, c, es, clock, h1, h2, h3, h4⟩ := h
    have h4' : ∀ p ∈ kv, (Ok m V p.1 ∧ live p.1 = true) ∧ Ok m V p.2 ∧ live p.2 = true := fun p hp => by
      have := h4 _ (List.mem_map.2 ⟨p, hp, rfl⟩)
      simp only [(ren_unit _).2.1] at this
      exact ⟨⟨ren_back hB _ this.1.1, this.1.2⟩, ren_back hB _ this.2.1, this.2.2⟩
    refine ⟨h0, b, c, es, clock, by rw [← hE, h1], h2, ?_, h4'⟩
    unfold MapHas at h3 ⊢
    rw [h3, List.map_map]
    apply List.map_congr_left
    intro p hp
    have := h4' p hp
    simp only [Function.comp, den, wrapV_ren, (ren_ok hV _ this.1.1).2, (ren_ok hV _ this.2.1).2]
  | gone v => trivial
  | fresh => trivial
theorem blkOf_ren {b : Nat} (hE : ∀ v, E' (ρ k) v = E k v) {B : SB} : blkOf E' (ρ k) b (renB ρ B) ↔ blkOf E k b B := by
  cases B <;> simp only [renB, blkOf, hE]
end

def zipB (ρ : Nat → Nat) : List SB → Nat → List (Nat × SB)
  | [], _ => []
  | B :: r, i => (ρ i, renB ρ B) :: zipB ρ r (i + 1)
theorem zip_names {ρ : Nat → Nat} {k : Nat} : ∀ {H : List SB} {i : Nat}, k ∈ wN (zipB ρ H i) → ∃ j, j < H.length ∧ k = ρ (i + j)
  | [], i, h => by simp [zipB, wN] at h
  | B :: r, i, h => by
    simp only [zipB, wN, List.mem_cons] at h
    rcases h with rfl | h
    · exact ⟨0, by simp, rfl⟩
    · obtain ⟨j, h1, h2⟩ := zip_names h
      exact ⟨j + 1, by simpa using h1, by rw [h2]; congr 1; omega⟩
theorem zip_other {ρ : Nat → Nat} {H Hc : List SB} {i k : Nat} (h : ∀ j, j < H.length → ρ (i + j) ≠ k) : (setB Hc (zipB ρ H i))[k]? = Hc[k]? :=
  setB_other fun hk => by obtain ⟨j, h1, h2⟩ := zip_names hk; exact h j h1 h2.symm
theorem zip_get {ρ : Nat → Nat} : ∀ {H Hc : List SB} {i j : Nat} {B : SB}, (∀ a b, a < H.length → b < H.length → ρ (i + a) = ρ (i + b) → a = b) → H[j]? = some B → ρ (i + j) < Hc.length → (setB Hc (zipB ρ H i))[ρ (i + j)]? = some (renB ρ B)
  | [], Hc, i, j, B, _, h, _ => by simp at h
  | A :: r, Hc, i, 0, B, hinj, h, hl => by
    simp at h; subst h
    simp only [zipB, setB]
    rw [zip_other (H := r) (i := i + 1) fun j hj e => by
      have := hinj (j + 1) 0 (by simpa using hj) (by simp) (by rw [show i + (j + 1) = i + 1 + j by omega]; exact e)
      omega]
    rw [Nat.add_zero] at hl ⊢
    rw [List.getElem?_set_self hl]
  | A :: r, Hc, i, j + 1, B, hinj, h, hl => by
    simp only [zipB, setB]
    have := zip_get (ρ := ρ) (H := r) (Hc := Hc.set (ρ i) (renB ρ A)) (i := i + 1) (j := j) (B := B) (fun a b ha hb e => by
      have := hinj (a + 1) (b + 1) (by simpa using ha) (by simpa using hb) (by rw [show i + (a + 1) = i + 1 + a by omega, show i + (b + 1) = i + 1 + b by omega]; exact e)
      omega) (by simpa using h) (by rw [List.length_set, show i + 1 + j = i + (j + 1) by omega]; exact hl)
    rwa [show i + 1 + j = i + (j + 1) by omega] at this
def Lent (ρ : Nat → Nat) (Hc : List SB) : List SB → Nat → Prop
  | [], _ => True
  | B :: r, i => Hc[ρ i]? = some (renB ρ B) ∧ Lent ρ Hc r (i + 1)
theorem Lent_get {ρ : Nat → Nat} {Hc : List SB} : ∀ {H : List SB} {i : Nat}, Lent ρ Hc H i → ∀ (j : Nat) (B : SB), H[j]? = some B → Hc[ρ (i + j)]? = some (renB ρ B)
  | [], i, _, j, B, h => by simp at h
  | A :: r, i, hl, 0, B, h => by simp at h; subst h; exact hl.1
  | A :: r, i, hl, j + 1, B, h => by
    have := Lent_get hl.2 j B (by simpa using h)
    rwa [show i + 1 + j = i + (j + 1) by omega] at this
def freshAll (Hc : List SB) : List Nat → Bool
  | [] => true
  | k :: r => (match Hc.getD k (.gone 0) with | .fresh => true | _ => false) && freshAll Hc r
theorem freshAll_get {Hc : List SB} : ∀ {ns : List Nat}, freshAll Hc ns = true → ∀ k ∈ ns, Hc[k]? = some .fresh
  | [], _, k, h => by simp at h
  | n :: r, h, k, hk => by
    simp only [freshAll, Bool.and_eq_true] at h
    rcases List.mem_cons.1 hk with rfl | hk
    · cases hs : Hc[k]? with
      | none => simp [List.getD_eq_getElem?_getD, hs] at h
      | some y => cases y <;> simp [List.getD_eq_getElem?_getD, hs] at h; rfl
    · exact freshAll_get h.2 k hk
def nodupB : List Nat → Bool
  | [] => true
  | x :: r => !hasN x r && nodupB r
theorem nodupB_ok : ∀ {l : List Nat}, nodupB l = true → l.Nodup
  | [], _ => List.nodup_nil
  | x :: r, h => by
    simp only [nodupB, Bool.and_eq_true, Bool.not_eq_true'] at h
    refine List.nodup_cons.2 ⟨fun hx => ?_, nodupB_ok h.2⟩
    rw [hasN_iff.2 hx] at h; cases h.1
def rho (L : List Nat) (d : Nat) : Nat → Nat := fun k => L.getD k d
open Classical in
noncomputable def Fr.keep (C : Fr) (E : Env) (H : List SB) (w : World) (p : Nat → Prop) : Fr :=
  { C with F := fun b => match C.F b with | some o => some o | none => if ∃ k, p k ∧ BlkAt E H k b then w.heap[b]? else none }
open Classical in
noncomputable def envBack (E E1 : Env) (ρ : Nat → Nat) (n : Nat) : Env := fun k v => if h : ∃ i, i < n ∧ ρ i = k then E1 h.choose v else E k v
theorem Cp.lend {X : List Value → World → (Value → World → Prop) → Prop} (hX : XMono X) {args H K} (hc : Cp X args H K) (Hc : List SB) (ks ns : List Nat) (hnd : nodupB (ks ++ ns) = true) (hks : ks.length = H.length)
    (hH : Lent (rho (ks ++ ns) Hc.length) Hc H 0) (hns : freshAll Hc ns = true) (hsz : ∀ r H', K r H' → H.length ≤ H'.length ∧ H'.length ≤ (ks ++ ns).length) :
    Cp X (renL (rho (ks ++ ns) Hc.length) args) Hc (fun r Hc' => ∃ r0 H', K r0 H' ∧ r = ren (rho (ks ++ ns) Hc.length) r0 ∧ Hc' = setB Hc (zipB (rho (ks ++ ns) Hc.length) H' 0)) := by
  have hnd' := nodupB_ok hnd
  have hfr := freshAll_get hns
  have hgl := Lent_get hH
  simp only [Nat.zero_add] at hgl
  generalize hρ : rho (ks ++ ns) Hc.length = ρ at *
  have hρget : ∀ i, i < (ks ++ ns).length → (ks ++ ns)[i]? = some (ρ i) := fun i hi => by
    rw [← hρ]; simp only [rho, List.getD_eq_getElem?_getD, List.getElem?_eq_getElem hi, Option.getD_some]
  have hinj : ∀ i j, i < (ks ++ ns).length → j < (ks ++ ns).length → ρ i = ρ j → i = j := fun i j hi hj e => by
    have h1 := hρget i hi
    have h2 := hρget j hj
    rw [e, ← h2] at h1
    exact (List.getElem?_inj hi hnd').1 h1
  have hρns : ∀ i, H.length ≤ i → i < (ks ++ ns).length → Hc[ρ i]? = some .fresh := fun i hi hl => by
    have h1 := hρget i hl
    rw [List.getElem?_append_right (by omega)] at h1
    exact hfr _ (List.mem_of_getElem? h1)
  have hρlt : ∀ i, i < (ks ++ ns).length → ρ i < Hc.length := fun i hl => by
    by_cases hi : i < H.length
    · exact (List.getElem?_eq_some_iff.1 (hgl i _ (List.getElem?_eq_getElem hi))).1
    · exact (List.getElem?_eq_some_iff.1 (hρns i (by omega) hl)).1
  have hρout : ∀ i, (ks ++ ns).length ≤ i → ρ i = Hc.length := fun i hi => by
    rw [← hρ]; simp only [rho, List.getD_eq_getElem?_getD, List.getElem?_eq_none hi, Option.getD_none]
  have hN : H.length ≤ (ks ++ ns).length := by simp; omega
  have hback : ∀ k v, Vle (vers Hc) (ρ k) v → k < H.length ∧ Vle (vers H) k v := fun k v hv => by
    obtain ⟨B, hB, hl⟩ := Vle_iff.1 hv
    by_cases hk : k < H.length
    · have := hgl k _ (List.getElem?_eq_getElem hk)
      rw [this] at hB; cases hB
      exact ⟨hk, Vle_iff.2 ⟨_, List.getElem?_eq_getElem hk, by rwa [renB_lim] at hl⟩⟩
    · by_cases hk' : k < (ks ++ ns).length
      · rw [hρns k (by omega) hk'] at hB; cases hB; simp [SB.lim] at hl
      · rw [hρout k (by omega)] at hB
        have := (List.getElem?_eq_some_iff.1 hB).1
        omega
  have hforw : ∀ k v, Vle (vers H) k v → Vle (vers Hc) (ρ k) v := fun k v hv => by
    obtain ⟨B, hB, hl⟩ := Vle_iff.1 hv
    exact Vle_iff.2 ⟨_, hgl k B hB, by rw [renB_lim]; exact hl⟩
  refine ⟨fun C E m w hr ha => ?_⟩
  let Ec : Env := fun k v => if k < H.length then E (ρ k) v else none
  have hEc : ∀ k v, k < H.length → E (ρ k) v = Ec k v := fun k v hk => by simp only [Ec, if_pos hk]
  have hlt : ∀ k v, Vle (vers H) k v → k < H.length := fun k v hv => by have := Vle_lt hv; simpa [vers] using this
  have hV1 : ∀ k v, Vle (vers H) k v → Vle (vers Hc) (ρ k) v ∧ E (ρ k) v = Ec k v := fun k v hv => ⟨hforw k v hv, hEc k v (hlt k v hv)⟩
  let p : Nat → Prop := fun k => ∀ i, i < H.length → ρ i ≠ k
  have hkeep : ∀ k b, p k → BlkAt E Hc k b → ∃ o, w.heap[b]? = some o ∧ (C.keep E Hc w p).F b = some o := fun k b hp hb => by
    obtain ⟨B, hB, hk⟩ := id hb
    obtain ⟨o, ho⟩ := (hr.bl k B hB).block hB b hb
    refine ⟨o, ho, ?_⟩
    simp only [Fr.keep, (hr.sp k b hb).2]
    rw [if_pos ⟨k, hp, hb⟩, ho]
  have hblk : ∀ k b, BlkAt Ec H k b → k < H.length ∧ BlkAt E Hc (ρ k) b := by
    rintro k b ⟨B, hB, hk⟩
    have hk' := (List.getElem?_eq_some_iff.1 hB).1
    exact ⟨hk', _, hgl k B hB, (blkOf_ren (fun v => hEc k v hk')).2 hk⟩
  have hrel : Rel Ec (C.keep E Hc w p) m H w := by
    refine ⟨hr.os, hr.tape, hr.output, hr.im, ?_, ⟨?_, hr.mf.2⟩, ?_, ?_, ?_, ?_⟩
    · intro b o hb
      simp only [Fr.keep] at hb
      cases hf : C.F b with
      | some o' => rw [hf] at hb; cases hb; exact hr.fr b _ hf
      | none => rw [hf] at hb; simp only at hb; split at hb; exact hb; cases hb
    · intro b o hb
      simp only [Fr.keep] at hb
      cases hf : C.F b with
      | some o' => exact hr.mf.1 b _ hf
      | none =>
        rw [hf] at hb; simp only at hb
        split at hb
        · rename_i hk
          obtain ⟨k, _, hk⟩ := hk
          exact (hr.sp k b hk).1
        · cases hb
    · intro k B hB
      have hk' := (List.getElem?_eq_some_iff.1 hB).1
      exact holds_back hV1 (fun k v hv => (hback k v hv).2) (fun v => hEc k v hk') (hr.bl _ _ (hgl k B hB))
    · intro k v hv h0
      obtain ⟨b, c, hbc⟩ := hr.nn _ _ (hforw k v hv) h0
      exact ⟨b, c, by rw [← hEc k v (hlt k v hv)]; exact hbc⟩
    · intro k b hb
      obtain ⟨hk, hb'⟩ := hblk k b hb
      obtain ⟨h1, h2⟩ := hr.sp _ b hb'
      refine ⟨h1, ?_⟩
      simp only [Fr.keep, h2]
      rw [if_neg]
      rintro ⟨j, hj, hjb⟩
      exact hj k hk (hr.inj _ _ b hb' hjb)
    · intro i j b hi hj
      obtain ⟨h1, h2⟩ := hblk i b hi
      obtain ⟨h3, h4⟩ := hblk j b hj
      exact hinj i j (by omega) (by omega) (hr.inj _ _ b h2 h4)
  have ha' : OkA m (vers H) args := renA_back (fun k v hv => (hback k v hv).2) args ha
  have h1 := hc.out (C.keep E Hc w p) Ec m w hrel ha'
  rw [← (renA_ok hV1 args ha').2] at h1
  refine hX _ _ _ _ h1 ?_
  rintro v w1 ⟨r0, H', E1, m1, rfl, hK, ⟨hok, hlv⟩, hx, hrel1⟩
  obtain ⟨hN1, hN2⟩ := hsz r0 H' hK
  generalize hE2 : envBack E E1 ρ H'.length = E2
  have hE2i : ∀ i v, i < H'.length → E2 (ρ i) v = E1 i v := fun i v hi => by
    rw [← hE2]
    unfold envBack
    have hex : ∃ j, j < H'.length ∧ ρ j = ρ i := ⟨i, hi, rfl⟩
    rw [dif_pos hex]
    have hc := hex.choose_spec
    rw [hinj _ i (by omega) (by omega) hc.2]
  have hE2o : ∀ k v, (∀ i, i < H'.length → ρ i ≠ k) → E2 k v = E k v := fun k v hk => by
    rw [← hE2]
    unfold envBack
    rw [dif_neg]
    rintro ⟨i, hi, he⟩
    exact hk i hi he
  generalize hHc : setB Hc (zipB ρ H' 0) = Hc'
  have hin : ∀ i B, H'[i]? = some B → Hc'[ρ i]? = some (renB ρ B) := fun i B hB => by
    have hi := (List.getElem?_eq_some_iff.1 hB).1
    have := zip_get (ρ := ρ) (H := H') (Hc := Hc) (i := 0) (j := i) (B := B) (fun a b ha hb e => hinj a b (by omega) (by omega) (by simpa using e)) hB (by rw [Nat.zero_add]; exact hρlt i (by omega))
    rw [Nat.zero_add, hHc] at this; exact this
  have hout : ∀ k, (∀ i, i < H'.length → ρ i ≠ k) → Hc'[k]? = Hc[k]? := fun k hk => by
    rw [← hHc]; exact zip_other fun j hj => by rw [Nat.zero_add]; exact hk j hj
  have hV2 : ∀ k v, Vle (vers H') k v → Vle (vers Hc') (ρ k) v ∧ E2 (ρ k) v = E1 k v := fun k v hv => by
    obtain ⟨B, hB, hl⟩ := Vle_iff.1 hv
    exact ⟨Vle_iff.2 ⟨_, hin k B hB, by rw [renB_lim]; exact hl⟩, hE2i k v (List.getElem?_eq_some_iff.1 hB).1⟩
  have hcase : ∀ k, (∃ i, i < H'.length ∧ ρ i = k) ∨ ∀ i, i < H'.length → ρ i ≠ k := fun k => by
    by_cases h : ∃ i, i < H'.length ∧ ρ i = k
    · exact .inl h
    · exact .inr fun i hi he => h ⟨i, hi, he⟩
  have hx2 : Ext E m (vers Hc) E2 m1 (vers Hc') := by
    refine ⟨hx.mm, fun k v hv => ?_, fun k v hv => ?_⟩
    · rcases hcase k with ⟨i, hi, rfl⟩ | hk
      · exact (hV2 i v (hx.vv i v (hback i v hv).2)).1
      · obtain ⟨B, hB, hl⟩ := Vle_iff.1 hv
        exact Vle_iff.2 ⟨B, by rw [hout k hk]; exact hB, hl⟩
    · rcases hcase k with ⟨i, hi, rfl⟩ | hk
      · obtain ⟨h1, h2⟩ := hback i v hv
        rw [hE2i i v hi, hx.ee i v h2, hEc i v h1]
      · exact hE2o k v hk
  have hpk : ∀ k, (∀ i, i < H'.length → ρ i ≠ k) → p k := fun k hk i hi => hk i (by omega)
  have hb2 : ∀ k b, BlkAt E2 Hc' k b → (∃ i, i < H'.length ∧ ρ i = k ∧ BlkAt E1 H' i b) ∨ ((∀ i, i < H'.length → ρ i ≠ k) ∧ BlkAt E Hc k b) := by
    rintro k b ⟨B, hB, hb⟩
    rcases hcase k with ⟨i, hi, rfl⟩ | hk
    · left
      have := hin i _ (List.getElem?_eq_getElem hi)
      rw [this] at hB; cases hB
      exact ⟨i, hi, rfl, _, List.getElem?_eq_getElem hi, (blkOf_ren (fun v => hE2i i v hi)).1 hb⟩
    · right
      rw [hout k hk] at hB
      refine ⟨hk, B, hB, ?_⟩
      cases B with
      | mem t segs ver gr => obtain ⟨h0, c, he⟩ := hb; rw [hE2o k _ hk] at he; exact ⟨h0, c, he⟩
      | mp kv ver => obtain ⟨c, he⟩ := hb; rw [hE2o k _ hk] at he; exact ⟨c, he⟩
      | gone v => exact hb
      | fresh => exact hb
  have hrn := ren_ok hV2 r0 hok
  refine ⟨ren ρ r0, Hc', E2, m1, by simp only [den, wrapV_ren, hrn.2], ⟨r0, H', hK, rfl, hHc.symm⟩, ⟨hrn.1, by rw [(ren_unit _).2.1]; exact hlv⟩, hx2, ?_⟩
  refine ⟨hrel1.os, hrel1.tape, hrel1.output, hrel1.im, ?_, ⟨?_, hrel1.mf.2⟩, ?_, ?_, ?_, ?_⟩
  · intro b o hb; exact hrel1.fr b o (by simp only [Fr.keep, hb])
  · intro b o hb; exact hrel1.mf.1 b o (by simp only [Fr.keep, hb])
  · intro k B hB
    rcases hcase k with ⟨i, hi, rfl⟩ | hk
    · have := hin i _ (List.getElem?_eq_getElem hi)
      rw [this] at hB; cases hB
      exact holds_ren hV2 (fun v => hE2i i v hi) (hrel1.bl i _ (List.getElem?_eq_getElem hi))
    · rw [hout k hk] at hB
      refine (hr.bl k B hB).mono hx2 (fun v _ => hE2o k v hk) fun b hb => ?_
      obtain ⟨o, ho, hf⟩ := hkeep k b (hpk k hk) ⟨B, hB, hb⟩
      rw [ho, hrel1.fr b o hf]
  · intro k v hv h0
    rcases hcase k with ⟨i, hi, rfl⟩ | hk
    · obtain ⟨B, hB, hl⟩ := Vle_iff.1 hv
      rw [hin i _ (List.getElem?_eq_getElem hi)] at hB; cases hB
      rw [renB_lim] at hl
      obtain ⟨b, c, hbc⟩ := hrel1.nn i v (Vle_iff.2 ⟨_, List.getElem?_eq_getElem hi, hl⟩) h0
      exact ⟨b, c, by rw [hE2i i v hi]; exact hbc⟩
    · obtain ⟨B, hB, hl⟩ := Vle_iff.1 hv
      rw [hout k hk] at hB
      obtain ⟨b, c, hbc⟩ := hr.nn k v (Vle_iff.2 ⟨B, hB, hl⟩) h0
      exact ⟨b, c, by rw [hE2o k v hk]; exact hbc⟩
  · intro k b hb
    rcases hb2 k b hb with ⟨i, hi, rfl, hb'⟩ | ⟨hk, hb'⟩
    · obtain ⟨h1, h2⟩ := hrel1.sp i b hb'
      refine ⟨h1, ?_⟩
      cases hf : C.F b with
      | none => rfl
      | some o => simp only [Fr.keep, hf] at h2; cases h2
    · obtain ⟨o, ho, hf⟩ := hkeep k b (hpk k hk) hb'
      exact ⟨hrel1.mf.1 b o hf, (hr.sp k b hb').2⟩
  · intro j k b hj hk
    rcases hb2 j b hj with ⟨i, hi, rfl, hb'⟩ | ⟨hj', hb'⟩ <;> rcases hb2 k b hk with ⟨i2, hi2, rfl, hb2'⟩ | ⟨hk', hb2'⟩
    · rw [hrel1.inj i i2 b hb' hb2']
    · obtain ⟨o, ho, hf⟩ := hkeep k b (hpk k hk') hb2'
      have := (hrel1.sp i b hb').2
      rw [hf] at this; cases this
    · obtain ⟨o, ho, hf⟩ := hkeep j b (hpk j hj') hb'
      have := (hrel1.sp i2 b hb2').2
      rw [hf] at this; cases this
    · exact hr.inj j k b hb' hb2'
end SX
end Go.Proofs.YtlgjjklikbpcoaaGreatDoor

/- SX: calls that are lent blocks. -/
set_option linter.unusedVariables false
set_option linter.unusedSimpArgs false
namespace Go.Proofs.YtlgjjklikbpcoaaGreatDoor
namespace SX
open Go

def forceL : List SV → (List SV → Prop) → Prop
  | [], K => K []
  | x :: r, K => force x fun x => forceL r fun l => K (x :: l)
def forceB (B : SB) (K : SB → Prop) : Prop :=
  match B with
  | .mem t segs v g => forceL segs fun segs => K (.mem t segs v g)
  | .mp kv v => K (.mp kv v)
  | .gone v => K (.gone v)
  | .fresh => K .fresh
def setBK : List SB → List (Nat × SB) → (List SB → Prop) → Prop
  | h, [], K => K h
  | h, (k, B) :: r, K => forceB B fun B => setH h k B fun h => setBK h r K
theorem forceL_eq : ∀ (l : List SV) (K : List SV → Prop), forceL l K = K l
  | [], K => rfl
  | x :: l, K => by simp only [forceL, force_eq, forceL_eq l]
theorem forceB_eq (B : SB) (K : SB → Prop) : forceB B K = K B := by cases B <;> simp only [forceB, forceL_eq]
theorem setBK_eq : ∀ (l : List (Nat × SB)) (h : List SB) (K : List SB → Prop), setBK h l K = K (setB h l)
  | [], h, K => rfl
  | (k, B) :: r, h, K => by simp only [setBK, forceB_eq, setH_eq, setBK_eq r, setB]

theorem Lent_like {ρ : Nat → Nat} {Hc Hc' : List SB} : ∀ {H : List SB} {i : Nat}, (∀ j, j < H.length → Hc'[ρ (i + j)]? = Hc[ρ (i + j)]?) → Lent ρ Hc H i → Lent ρ Hc' H i
  | [], i, _, _ => trivial
  | B :: r, i, hl, h => ⟨by have := hl 0 (by simp); rw [Nat.add_zero] at this; rw [this]; exact h.1, Lent_like (fun j hj => by have := hl (j + 1) (by simpa using hj); rwa [show i + (j + 1) = i + 1 + j by omega] at this) h.2⟩
theorem fresh_like {Hc Hc' : List SB} : ∀ {ns : List Nat}, (∀ k ∈ ns, Hc'[k]? = Hc[k]?) → freshAll Hc ns = true → freshAll Hc' ns = true
  | [], _, _ => rfl
  | k :: r, hl, h => by
    simp only [freshAll, Bool.and_eq_true] at h ⊢
    refine ⟨?_, fresh_like (fun j hj => hl j (List.mem_cons_of_mem _ hj)) h.2⟩
    simp only [List.getD_eq_getElem?_getD, hl k (by simp)]
    simpa only [List.getD_eq_getElem?_getD] using h.1
theorem wN_zip {ρ : Nat → Nat} {k : Nat} {H : List SB} {i : Nat} (h : k ∈ wN (zipB ρ H i)) : ∃ j, j < H.length ∧ k = ρ (i + j) := zip_names h
section
variable {P : Program} {T : Tb} {ops : Array Oper} {o : Oper}
theorem OpC.callL {K : St → Prop} {t : List SV} {h : List SB} {c : Call} (hop : o.op = .call c) {fo : Operand} (hcal : c.callee = .value fo) (hg : guardOf ops t o = some []) {f : FuncId} {fst caps : List SV} (hf : calB (evG [] t fo) = some (f, fst, caps))
    (ks : List Nat) (nn : Nat) {ns : List Nat} (hnn : (List.range nn).map (fun i => h.length + i) = ns) {h1 : List SB} (hh1 : h ++ List.replicate nn .fresh = h1) {ρ : Nat → Nat} (hρ : rho (ks ++ ns) h1.length = ρ) {args0 : List SV} {H0 : List SB} {K0 : SV → List SB → Prop} (hc : Ctr P f args0 H0 K0)
    (ha : fst ++ (c.args.toList.map (evG [] t) ++ caps) = renL ρ args0) (hl : (c.args.toList.map (evG [] t)).all live = true) (hnd : nodupB (ks ++ ns) = true) (hks : ks.length = H0.length) (hH : Lent ρ h1 H0 0) (hns : freshAll h1 ns = true)
    (hsz : ∀ r H', K0 r H' → H0.length ≤ H'.length ∧ H'.length ≤ (ks ++ ns).length)
    (hK : ∀ r H', K0 r H' → setBK h1 (zipB ρ H' 0) fun h2 => putK t h2 o.dst (ren ρ r) K) : OpC P T ops o K ⟨t, h⟩ := by
  subst hρ hh1
  have hc2 := Cp.lend callX_m hc (h ++ List.replicate nn .fresh) ks ns hnd hks hH hns hsz
  refine ⟨fun C E m a w hr => ?_⟩
  have hr1 : Rep E C m ⟨t, h ++ List.replicate nn .fresh⟩ a w := hr.up (Ext.pad E m h nn) (hr.rel.pad nn)
  rw [← ha] at hc2
  have h3 := (OpC.call (T := T) (ops := ops) (K := K) hop hcal hg hf rfl hl hc2 (fun r h' hk => by
    obtain ⟨r0, H', h1, rfl, rfl⟩ := hk
    have := hK r0 H' h1
    rw [setBK_eq] at this
    exact this)).out C E m a w hr1
  unfold opW at h3 ⊢
  have next : ∀ a' w', (∃ E' m' S'', K S'' ∧ Ext E m (vers (h ++ List.replicate nn .fresh)) E' m' (vers S''.h) ∧ Rep E' C m' S'' a' w') → ∃ E' m' S'', K S'' ∧ Ext E m (vers h) E' m' (vers S''.h) ∧ Rep E' C m' S'' a' w' := by
    rintro a' w' ⟨E', m', S'', k1, k2, k3⟩
    exact ⟨E', m', S'', k1, (Ext.pad E m h nn).trans k2, k3⟩
  split
  · rename_i hw
    rw [if_pos hw] at h3
    exact wp_onlyN h3 next
  · rename_i hw
    rw [if_neg hw] at h3
    exact next _ _ h3
theorem OpD.callN {n : Nat} {K : Eff → Nat → St → Prop} {t : List SV} {h : List SB} {c : Call} (hop : o.op = .call c) {fo : Operand} (hcal : c.callee = .value fo) (hg : guardOf ops t o = some []) {f : FuncId} {fst caps : List SV} (hf : calB (evG [] t fo) = some (f, fst, caps))
    (ks ns : List Nat) (n2 : Nat) {ρ : Nat → Nat} (hρ : rho (ks ++ ns) h.length = ρ) {args0 : List SV} {H0 : List SB} {r0 : SV} {H1 : List SB} (hc : Ctr P f args0 H0 (fun r H => r = r0 ∧ H = H1))
    (ha : fst ++ (c.args.toList.map (evG [] t) ++ caps) = renL ρ args0) (hl : (c.args.toList.map (evG [] t)).all live = true) (hnd : nodupB (ks ++ ns) = true) (hks : ks.length = H0.length) (hH : Lent ρ h H0 0) (hns : freshAll h ns = true)
    (hsz : (Nat.ble H0.length H1.length && Nat.ble H1.length (ks ++ ns).length) = true)
    (hK : force (ren ρ r0) fun r => setD t o.dst r fun t' => setBK h (zipB ρ H1 0) fun h' => K ⟨o.dst, r, hang r ++ readsOf o [], ks ++ ns, zipB ρ H1 0⟩ n2 ⟨t', h'⟩) : OpD P ops o n K ⟨t, h⟩ := by
  simp only [force_eq, setD_eq, setBK_eq] at hK
  simp only [Bool.and_eq_true] at hsz
  have hz1 := Nat.le_of_ble_eq_true hsz.1
  have hz2 := Nat.le_of_ble_eq_true hsz.2
  have hρk : ∀ i, i < (ks ++ ns).length → ρ i ∈ ks ++ ns := fun i hi => by
    rw [← hρ]; simp only [rho, List.getD_eq_getElem?_getD, List.getElem?_eq_getElem hi, Option.getD_some]
    exact List.getElem_mem hi
  refine ⟨⟨⟨o.dst, ren ρ r0, hang (ren ρ r0) ++ readsOf o [], ks ++ ns, zipB ρ H1 0⟩, n2, rfl, ⟨fun S' _ hlen h1 h2 h3 C E m a w hr => ?_⟩, fun n hn => List.mem_append_left _ hn, fun k hk => ?_, hK⟩⟩
  · have hlk : Like (readsOf o []) t S'.t := fun n hn => h1 n (List.mem_append_right _ hn)
    have hops := readsOf_op hlk
    rw [hop] at hops
    have e1 : evG [] S'.t fo = evG [] t fo := evG_of (hops fo (by simp [Op.operands, Call.operands, hcal]))
    have e2 : c.args.toList.map (evG [] S'.t) = c.args.toList.map (evG [] t) := List.map_congr_left fun x hx => evG_of (hops x (by simp [Op.operands, Call.operands]; exact .inr (by simpa using hx)))
    obtain ⟨t', h'⟩ := S'
    have hlen' : h'.length = h.length := hlen
    have hρ' : rho (ks ++ ns) h'.length = ρ := by rw [hlen', hρ]
    have hH' : Lent ρ h' H0 0 := Lent_like (fun j hj => by rw [Nat.zero_add]; exact h2 _ (hρk j (by simp; omega))) hH
    have hns' : freshAll h' ns = true := fresh_like (fun k hk => h2 k (List.mem_append_right _ hk)) hns
    have hc2 := Cp.lend callX_m hc h' ks ns hnd hks (by rw [hρ']; exact hH') hns' (fun r H' hk => by rw [hk.2]; exact ⟨hz1, hz2⟩)
    rw [hρ', ← ha, ← e2] at hc2
    have hh := (OpC.call (T := fun _ => none) (ops := ops) (t := t') (h := h') (K := fun S'' => S'' = ⟨putF t' o.dst (ren ρ r0), setB h' (zipB ρ H1 0)⟩) hop hcal (guardOf_like hg (readsOf_g hlk)) (by rw [e1]; exact hf) rfl (by rw [e2]; exact hl) hc2 (fun r h'' hk => by
      obtain ⟨r1, H', ⟨rfl, rfl⟩, rfl, rfl⟩ := hk
      rw [putK_eq])).out C E m a w hr
    unfold opW at hh ⊢
    have next : ∀ a' w', (∃ E' m' S'', S'' = (⟨putF t' o.dst (ren ρ r0), setB h' (zipB ρ H1 0)⟩ : St) ∧ Ext E m (vers h') E' m' (vers S''.h) ∧ Rep E' C m' S'' a' w') →
        ∃ E' m', Ext E m (vers h') E' m' (vers ((⟨o.dst, ren ρ r0, hang (ren ρ r0) ++ readsOf o [], ks ++ ns, zipB ρ H1 0⟩ : Eff).put ⟨t', h'⟩).h) ∧ Rep E' C m' ((⟨o.dst, ren ρ r0, hang (ren ρ r0) ++ readsOf o [], ks ++ ns, zipB ρ H1 0⟩ : Eff).put ⟨t', h'⟩) a' w' := by
      rintro a' w' ⟨E', m', S'', rfl, k1, k2⟩
      rw [putF_clean h3] at k2
      exact ⟨E', m', k1, k2⟩
    split
    · rename_i hw
      rw [if_pos hw] at hh
      exact wp_onlyN hh next
    · rename_i hw
      rw [if_neg hw] at hh
      exact next _ _ hh
  · obtain ⟨j, h1, rfl⟩ := wN_zip hk
    rw [Nat.zero_add]
    exact hρk j (by omega)
theorem OpD.callL {n : Nat} {K : Eff → Nat → St → Prop} {t : List SV} {h : List SB} {c : Call} (hop : o.op = .call c) {fo : Operand} (hcal : c.callee = .value fo) (hg : guardOf ops t o = some []) {f : FuncId} {fst caps : List SV} (hf : calB (evG [] t fo) = some (f, fst, caps))
    (ks : List Nat) (nn : Nat) {ns : List Nat} (hnn : (List.range nn).map (fun i => n + i) = ns) {ρ : Nat → Nat} (hρ : rho (ks ++ ns) h.length = ρ) {args0 : List SV} {H0 : List SB} {r0 : SV} {H1 : List SB} (hc : Ctr P f args0 H0 (fun r H => r = r0 ∧ H = H1))
    (ha : fst ++ (c.args.toList.map (evG [] t) ++ caps) = renL ρ args0) (hl : (c.args.toList.map (evG [] t)).all live = true) (hnd : nodupB (ks ++ ns) = true) (hks : ks.length = H0.length) (hH : Lent ρ h H0 0) (hns : freshAll h ns = true)
    (hsz : (Nat.ble H0.length H1.length && Nat.ble H1.length (ks ++ ns).length) = true)
    (hK : force (ren ρ r0) fun r => setD t o.dst r fun t' => setBK h (zipB ρ H1 0) fun h' => K ⟨o.dst, r, hang r ++ readsOf o [], ks ++ ns, zipB ρ H1 0⟩ (n + nn) ⟨t', h'⟩) : OpD P ops o n K ⟨t, h⟩ := by
  subst hnn
  exact OpD.callN hop hcal hg hf ks _ (n + nn) hρ hc ha hl hnd hks hH hns hsz hK
end
end SX
end Go.Proofs.YtlgjjklikbpcoaaGreatDoor

/- SX: calls of a method through an interface. -/
set_option linter.unusedVariables false
set_option linter.unusedSimpArgs false
namespace Go.Proofs.YtlgjjklikbpcoaaGreatDoor
namespace SX
open Go
section
variable {P : Program} {T : Tb} {ops : Array Oper} {o : Oper}
end
end SX
end Go.Proofs.YtlgjjklikbpcoaaGreatDoor

/- SX: rows that grow. -/
set_option linter.unusedVariables false
set_option linter.unusedSimpArgs false
namespace Go.Proofs.YtlgjjklikbpcoaaGreatDoor
namespace SX
open Go

theorem Rel.grow {E C m H w} (h : Rel E C m H w) {k : Nat} {t : TypeId} {segs segs' : List SV} {ver g : Nat} (hk : H[k]? = some (.mem t segs ver (g + 1))) {w' : World} {b' c' : Nat} {spare : List Value}
    (hw : w'.os = w.os ∧ w'.tape = w.tape ∧ w'.output = w.output ∧ w.drawn ≤ w'.drawn) (hb' : (ver ≠ 0 ∧ ∃ c, E k ver = some (b', c)) ∨ w.heap.size ≤ b') (hold : ∀ i, i < w.heap.size → i ≠ b' → w'.heap[i]? = w.heap[i]?)
    (hok : OkL m (vers H) segs') (hc : w'.heap[b']? = some (.cells (cellsL E segs' ++ spare).toArray t (0, 0))) (hs : (cellsL E segs').length + spare.length = c' * (g + 1) ∧ c' ≤ maxLen) :
    ∃ E', E' k (ver + 1) = some (b', c') ∧ Ext E m (vers H) E' m (vers (H.set k (.mem t segs' (ver + 1) (g + 1)))) ∧ Rel E' C m (H.set k (.mem t segs' (ver + 1) (g + 1))) w' := by
  have hlen : k < H.length := (List.getElem?_eq_some_iff.1 hk).1
  have hge : ∀ j, j ≠ k → (H.set k (.mem t segs' (ver + 1) (g + 1)))[j]? = H[j]? := fun j hj => List.getElem?_set_ne (Ne.symm hj)
  have hgk : (H.set k (.mem t segs' (ver + 1) (g + 1)))[k]? = some (.mem t segs' (ver + 1) (g + 1)) := by simp [List.getElem?_set, hlen]
  have hvk : ∀ v, Vle (vers H) k v → v < ver + 1 := fun v hv => by
    obtain ⟨B, hB, hl⟩ := Vle_iff.1 hv
    rw [hk] at hB; cases hB; exact hl
  have hx : Ext E m (vers H) (E.upd k (ver + 1) (b', c')) m (vers (H.set k (.mem t segs' (ver + 1) (g + 1)))) := by
    refine ⟨fun _ _ h => h, fun j v hv => ?_, fun j v hv => Env.upd_ne _ _ fun e => ?_⟩
    · by_cases hj : j = k
      · subst hj
        exact Vle_iff.2 ⟨_, hgk, by have := hvk v hv; show v < ver + 1 + 1; omega⟩
      · obtain ⟨B, hB, hl⟩ := Vle_iff.1 hv
        exact Vle_iff.2 ⟨B, by rw [hge j hj]; exact hB, hl⟩
    · have := hvk v (e.1 ▸ hv)
      omega
  have hlt : ∀ j b, BlkAt E H j b → b < w.heap.size := fun j b hb => by
    obtain ⟨B, hB, hb'⟩ := hb
    obtain ⟨o, ho⟩ := (h.bl j B hB).block hB b ⟨B, hB, hb'⟩
    exact size_of_heap ho
  have hown : w.heap.size ≤ b' ∨ BlkAt E H k b' := by
    rcases hb' with ⟨h0, c, he⟩ | h1
    · exact .inr ⟨_, hk, h0, c, he⟩
    · exact .inl h1
  have hfree : m b' = none ∧ C.F b' = none := by
    rcases hown with h1 | h1
    · constructor
      · cases hm : m b' with
        | none => rfl
        | some o => have := size_of_heap (h.im _ _ hm); omega
      · cases hm : C.F b' with
        | none => rfl
        | some o => have := size_of_heap (h.fr _ _ hm); omega
    · exact h.sp k b' h1
  have hbl : ∀ j b, BlkAt (E.upd k (ver + 1) (b', c')) (H.set k (.mem t segs' (ver + 1) (g + 1))) j b → (j ≠ k ∧ BlkAt E H j b) ∨ (j = k ∧ b = b') := by
    rintro j b ⟨B, hB, hb⟩
    by_cases hj : j = k
    · right
      subst hj
      rw [hgk] at hB; cases hB
      obtain ⟨_, c, he⟩ := hb
      rw [Env.upd_same] at he; cases he
      exact ⟨rfl, rfl⟩
    · left
      rw [hge j hj] at hB
      refine ⟨hj, B, hB, ?_⟩
      cases B with
      | mem t segs ver gr => obtain ⟨h0, c, he⟩ := hb; rw [Env.upd_ne _ _ (fun e => hj e.1)] at he; exact ⟨h0, c, he⟩
      | mp kv ver => obtain ⟨c, he⟩ := hb; rw [Env.upd_ne _ _ (fun e => hj e.1)] at he; exact ⟨c, he⟩
      | gone v => exact hb
      | fresh => exact hb
  refine ⟨E.upd k (ver + 1) (b', c'), Env.upd_same .., hx, ?_⟩
  refine ⟨by rw [hw.1]; exact h.os, by rw [hw.2.1]; exact h.tape, ⟨hw.2.2.1.trans h.output.1, h.output.2.trans hw.2.2.2⟩, ?_, ?_, h.mf, ?_, ?_, ?_, ?_⟩
  · intro b o hb
    have h1 := h.im b o hb
    rw [hold b (size_of_heap h1) (fun e => by subst e; rw [hfree.1] at hb; cases hb)]; exact h1
  · intro b o hb
    have h1 := h.fr b o hb
    rw [hold b (size_of_heap h1) (fun e => by subst e; rw [hfree.2] at hb; cases hb)]; exact h1
  · intro j B hB
    by_cases hj : j = k
    · subst hj
      rw [hgk] at hB; cases hB
      refine ⟨OkL.mono (fun _ _ h => h) _ _ _ hx.vv hok, fun e => absurd e (by omega), fun _ => ⟨b', c', spare, Env.upd_same .., ?_, ?_⟩⟩
      · rw [cellsL_stable hx.ee segs' hok]; exact hc
      · rw [cellsL_stable hx.ee segs' hok]; exact hs
    · rw [hge j hj] at hB
      refine (h.bl j B hB).mono hx (fun v _ => Env.upd_ne _ _ (fun e => hj e.1)) fun b hb => ?_
      have hjb : BlkAt E H j b := ⟨B, hB, hb⟩
      refine hold b (hlt j b hjb) fun e => ?_
      subst e
      rcases hown with h1 | h1
      · have := hlt j b hjb; omega
      · exact hj (h.inj j k b hjb h1)
  · intro j v hv h0
    by_cases hj : j = k
    · subst hj
      by_cases hv' : v = ver + 1
      · subst hv'; exact ⟨_, _, Env.upd_same ..⟩
      · obtain ⟨B, hB, hl⟩ := Vle_iff.1 hv
        rw [hgk] at hB; cases hB
        have hl' : v < ver + 1 + 1 := hl
        rw [Env.upd_ne _ _ (fun e => hv' e.2)]
        exact h.nn j v (Vle_iff.2 ⟨_, hk, by show v < ver + 1; omega⟩) h0
    · rw [Env.upd_ne _ _ (fun e => hj e.1)]
      obtain ⟨B, hB, hl⟩ := Vle_iff.1 hv
      rw [hge j hj] at hB
      exact h.nn j v (Vle_iff.2 ⟨B, hB, hl⟩) h0
  · intro j b hb
    rcases hbl j b hb with ⟨_, hb1⟩ | ⟨rfl, rfl⟩
    · exact h.sp j b hb1
    · exact hfree
  · intro i j b hi hj
    rcases hbl i b hi with ⟨hi1, hi2⟩ | ⟨rfl, e1⟩ <;> rcases hbl j b hj with ⟨hj1, hj2⟩ | ⟨rfl, e2⟩
    · exact h.inj i j b hi2 hj2
    · subst e2
      rcases hown with h1 | h1
      · have := hlt i b hi2; omega
      · exact absurd (h.inj i j b hi2 h1) hi1
    · subst e1
      rcases hown with h1 | h1
      · have := hlt j b hj2; omega
      · exact absurd (h.inj j i b hj2 h1) hj1
    · rfl
theorem Rel.row0 {E C m H w} (h : Rel E C m H w) (g : Nat) (t : TypeId) (segs : List SV) (hs : ∀ E, cellsL E segs = []) (hok : ∀ m V, OkL m V segs) :
    ∃ E', E' H.length 0 = none ∧ Ext E m (vers H) E' m (vers (H ++ [.mem t segs 0 (g + 1)])) ∧ Rel E' C m (H ++ [.mem t segs 0 (g + 1)]) w := by
  let E' : Env := fun k v => if k = H.length then none else E k v
  have hE : ∀ k v, k < H.length → E' k v = E k v := fun k v hk => by simp only [E']; rw [if_neg (by omega)]
  have hlt : ∀ k v, Vle (vers H) k v → k < H.length := fun k v hv => by have := Vle_lt hv; simpa [vers] using this
  have hx : Ext E m (vers H) E' m (vers (H ++ [.mem t segs 0 (g + 1)])) := ⟨fun _ _ h => h, fun k v hv => by rw [vers_append]; exact Vle_append hv, fun k v hv => hE k v (hlt k v hv)⟩
  have hget : ∀ k B, (H ++ [SB.mem t segs 0 (g + 1)])[k]? = some B → (k < H.length ∧ H[k]? = some B) ∨ (k = H.length ∧ B = .mem t segs 0 (g + 1)) := fun k B hB => by
    by_cases hk : k < H.length
    · rw [List.getElem?_append_left hk] at hB; exact .inl ⟨hk, hB⟩
    · have := (List.getElem?_eq_some_iff.1 hB).1
      have hk' : k = H.length := by simp at this; omega
      subst hk'
      simp at hB
      exact .inr ⟨rfl, hB.symm⟩
  have hbl : ∀ k b, BlkAt E' (H ++ [.mem t segs 0 (g + 1)]) k b → BlkAt E H k b := by
    rintro k b ⟨B, hB, hb⟩
    rcases hget k B hB with ⟨hk, hB'⟩ | ⟨_, rfl⟩
    · refine ⟨B, hB', ?_⟩
      cases B with
      | mem t segs ver gr => obtain ⟨h0, c, he⟩ := hb; rw [hE k _ hk] at he; exact ⟨h0, c, he⟩
      | mp kv ver => obtain ⟨c, he⟩ := hb; rw [hE k _ hk] at he; exact ⟨c, he⟩
      | gone v => exact hb
      | fresh => exact hb
    · exact absurd rfl hb.1
  refine ⟨E', by simp [E'], hx, ⟨h.os, h.tape, h.output, h.im, h.fr, h.mf, fun k B hB => ?_, fun k v hv h0 => ?_, fun k b hb => h.sp k b (hbl k b hb), fun j k b hj hk => h.inj j k b (hbl j b hj) (hbl k b hk)⟩⟩
  · rcases hget k B hB with ⟨hk, hB'⟩ | ⟨hk, rfl⟩
    · exact (h.bl k B hB').mono hx (fun v _ => hE k v hk) (fun _ _ => rfl)
    · exact ⟨hok _ _, fun _ => ⟨hs _, by simp only [E']; rw [if_pos hk]⟩, fun h => absurd rfl h⟩
  · obtain ⟨B, hB, hl⟩ := Vle_iff.1 hv
    rcases hget k B hB with ⟨hk, hB'⟩ | ⟨_, rfl⟩
    · rw [hE k v hk]; exact h.nn k v (Vle_iff.2 ⟨B, hB', hl⟩) h0
    · simp [SB.lim] at hl; omega
def Shift (S S' : St) : Prop := ∀ C E m a w, Rep E C m S a w → ∃ E' m', Ext E m (vers S.h) E' m' (vers S'.h) ∧ Rep E' C m' S' a w
theorem WpC.shift {P : Program} {c : Code} {K : Exit → St → Prop} {S S' : St} (hs : Shift S S') (h : WpC P c K S') : WpC P c K S := by
  refine ⟨fun C E m a w hr => ?_⟩
  obtain ⟨E', m', h1, h2⟩ := hs C E m a w hr
  refine wp_mono (h.out C E' m' a w h2) ?_
  rintro e a' w' ⟨E2, m2, S2, k1, k2, k3⟩
  exact ⟨E2, m2, S2, k1, h1.trans k2, k3⟩
theorem OpC.shift {P : Program} {T : Tb} {ops : Array Oper} {o : Oper} {K : St → Prop} {S S' : St} (hs : Shift S S') (h : OpC P T ops o K S') : OpC P T ops o K S := by
  refine ⟨fun C E m a w hr => ?_⟩
  obtain ⟨E', m', h1, h2⟩ := hs C E m a w hr
  have h3 := h.out C E' m' a w h2
  unfold opW at h3 ⊢
  have next : ∀ a' w', (∃ E2 m2 S2, K S2 ∧ Ext E' m' (vers S'.h) E2 m2 (vers S2.h) ∧ Rep E2 C m2 S2 a' w') → ∃ E2 m2 S2, K S2 ∧ Ext E m (vers S.h) E2 m2 (vers S2.h) ∧ Rep E2 C m2 S2 a' w' := by
    rintro a' w' ⟨E2, m2, S2, k1, k2, k3⟩
    exact ⟨E2, m2, S2, k1, h1.trans k2, k3⟩
  split
  · rename_i hw
    rw [if_pos hw] at h3
    exact wp_onlyN h3 next
  · rename_i hw
    rw [if_neg hw] at h3
    exact next _ _ h3
end SX
end Go.Proofs.YtlgjjklikbpcoaaGreatDoor

/- SX: rows that grow: the views. -/
set_option linter.unusedVariables false
set_option linter.unusedSimpArgs false
namespace Go.Proofs.YtlgjjklikbpcoaaGreatDoor
namespace SX
open Go

theorem GV_set_plain {t : List SV} {q : List (Nat × Bool)} {g : Bool} (h : GV t q g) {d : Nat} {x y : SV} (hd : t[d]? = some x) (hx : (∀ b, x ≠ .b b) ∧ ∀ q' b, x ≠ .grd q' (.b b)) : GV (t.set d y) q g := by
  refine GV_slots h fun n z hn hz hf => ?_
  have hne : n ≠ d := fun e => by
    subst e
    simp only [List.getD_eq_getElem?_getD, hd, Option.getD_some] at hz
    subst hz
    rcases hf with ⟨v, hv⟩ | ⟨q', v, hv⟩
    · exact hx.1 v hv
    · exact hx.2 q' v hv
  simp only [List.getD_eq_getElem?_getD, List.getElem?_set_ne (Ne.symm hne)]
  simpa only [List.getD_eq_getElem?_getD] using hz
theorem SlotOk.set_plain {E m V t v z} (h : SlotOk E m V t v z) {d : Nat} {x y : SV} (hd : t[d]? = some x) (hx : (∀ b, x ≠ .b b) ∧ ∀ q' b, x ≠ .grd q' (.b b)) : SlotOk E m V (t.set d y) v z := by
  cases z <;> try exact h
  obtain ⟨g, hg, h1, h2⟩ := h
  exact ⟨g, GV_set_plain hg hd hx, h1, h2⟩
theorem Shift.row {t : List SV} {h : List SB} {d : Nat} (hd : t[d]? = some .nils) (g : Nat) (ty : TypeId) (segs : List SV) (hs : ∀ E, cellsL E segs = []) (hok : ∀ m V, OkL m V segs) :
    Shift ⟨t, h⟩ ⟨t.set d (.sl h.length 0 0 0 none 0), h ++ [.mem ty segs 0 (g + 1)]⟩ := by
  intro C E m a w hr
  obtain ⟨E', e1, e2, e3⟩ := hr.rel.row0 g ty segs hs hok
  refine ⟨E', m, e2, ?_, ?_, hr.df, e3⟩
  · simpa using hr.sz
  · intro n x v hx hv
    have hlt : d < t.length := (List.getElem?_eq_some_iff.1 hd).1
    by_cases hn : n = d
    · subst hn
      rw [List.getElem?_set_self hlt] at hx
      cases hx
      have h0 := hr.sl n .nils v hd hv
      refine ⟨by simp only [Ok]; exact ⟨Vle_iff.2 ⟨.mem ty segs 0 (g + 1), by simp, by simp [SB.lim]⟩, fun _ => trivial⟩, ?_⟩
      rw [h0.2]
      simp [den, wrapV, cells, e1]
    · rw [List.getElem?_set_ne (Ne.symm hn)] at hx
      exact ((hr.sl n x v hx hv).mono e2).set_plain hd ⟨fun b => by simp, fun q b => by simp⟩
structure Joins (segs new segs' : List SV) : Prop where
  cells : ∀ E, cellsL E segs' = cellsL E segs ++ cellsL E new
  ok : ∀ m V, OkL m V segs → OkL m V new → OkL m V segs'
theorem range_append_one {α : Type} (xs : List α) (y : α) (d : α) (f : α → List Value) : (List.range (xs ++ [y]).length).flatMap (fun j => f ((xs ++ [y]).getD j d)) = (List.range xs.length).flatMap (fun j => f (xs.getD j d)) ++ f y := by
  rw [List.length_append, List.length_singleton, List.range_succ, List.flatMap_append]
  congr 1
  · rw [List.flatMap_def, List.flatMap_def]
    congr 1
    apply List.map_congr_left
    intro j hj
    have hj' : j < xs.length := by simpa using hj
    simp only [List.getD_eq_getElem?_getD, List.getElem?_append_left hj']
  · simp
theorem Joins.arr {α : Type} {d : α} {n : Nat} {enc : α → List SV} {xs : List α} {y : α} {new : List SV} (hn : new = enc y) (hw : ∀ x, wdL (enc x) = n) : Joins [.arr xs.length α d n enc xs] new [.arr (xs ++ [y]).length α d n enc (xs ++ [y])] := by
  subst hn
  refine ⟨fun E => ?_, fun m V h1 h2 => ?_⟩
  · simp only [cellsL, SX.cells, List.append_nil]
    exact range_append_one xs y d fun x => cellsL E (enc x)
  · simp only [OkL, Ok, isUnit] at h1 ⊢
    refine ⟨⟨trivial, trivial, hw, fun j hj => ?_⟩, trivial⟩
    by_cases hj' : j < xs.length
    · have := h1.1.2.2.2 j hj'
      simp only [List.getD_eq_getElem?_getD, List.getElem?_append_left hj']
      simpa only [List.getD_eq_getElem?_getD] using this
    · have : j = xs.length := by simp at hj; omega
      subst this
      simp only [List.getD_eq_getElem?_getD, List.getElem?_concat_length, Option.getD_some]
      exact h2
theorem Joins.ints {k : IntKind} {xs : List Int} {y : Int} : Joins [.ints k xs.length xs] [.ints k 1 [y]] [.ints k (xs ++ [y]).length (xs ++ [y])] := by
  refine ⟨fun E => ?_, fun m V h1 h2 => ?_⟩
  · simp [cellsL, SX.cells]
  · simp [OkL, Ok, isUnit]
end SX
end Go.Proofs.YtlgjjklikbpcoaaGreatDoor

/- SX: append. -/
set_option linter.unusedVariables false
set_option linter.unusedSimpArgs false
namespace Go.Proofs.YtlgjjklikbpcoaaGreatDoor
namespace SX
open Go

section
variable {P : Program} {T : Tb}
end
end SX
end Go.Proofs.YtlgjjklikbpcoaaGreatDoor

/- SX: append, the operation. -/
set_option linter.unusedVariables false
set_option linter.unusedSimpArgs false
namespace Go.Proofs.YtlgjjklikbpcoaaGreatDoor
namespace SX
open Go

section
variable {P : Program} {T : Tb}
variable {ops : Array Oper} {o : Oper}
end
end SX
end Go.Proofs.YtlgjjklikbpcoaaGreatDoor

/- SX: append, whatever the source. -/
set_option linter.unusedVariables false
set_option linter.unusedSimpArgs false
namespace Go.Proofs.YtlgjjklikbpcoaaGreatDoor
namespace SX
open Go

theorem Rel.allocAt2 {E C m H w} (h : Rel E C m H w) {n : Nat} (hn : H[n]? = some .fresh) (B : SB) (o : Obj) (hB : B.lim = 2) (cp : Nat) {w' : World} (hw : w'.os = w.os ∧ w'.tape = w.tape ∧ w'.output = w.output ∧ w.drawn ≤ w'.drawn) (hheap : w'.heap = w.heap.push o)
    (hh : ∀ E' V', (∀ k v, Vle (vers H) k v → E' k v = E k v) → (∀ k v, Vle (vers H) k v → Vle V' k v) → E' n 1 = some (w.heap.size, cp) → Holds E' m V' w' n B) :
    ∃ E', E' n 1 = some (w.heap.size, cp) ∧ Ext E m (vers H) E' m (vers (H.set n B)) ∧ Rel E' C m (H.set n B) w' := by
  have hlen : n < H.length := (List.getElem?_eq_some_iff.1 hn).1
  have hnv : ∀ v, ¬ Vle (vers H) n v := fun v hv => by
    obtain ⟨B', hB', hl⟩ := Vle_iff.1 hv
    rw [hn] at hB'; cases hB'; simp [SB.lim] at hl
  have hge : ∀ k, k ≠ n → (H.set n B)[k]? = H[k]? := fun k hk => List.getElem?_set_ne (Ne.symm hk)
  have hgn : (H.set n B)[n]? = some B := by simp [List.getElem?_set, hlen]
  have hx : Ext E m (vers H) (E.upd n 1 (w.heap.size, cp)) m (vers (H.set n B)) := by
    refine ⟨fun _ _ h => h, fun k v hv => ?_, fun k v hv => Env.upd_ne _ _ fun e => hnv v (e.1 ▸ hv)⟩
    have hk : k ≠ n := fun e => hnv v (e ▸ hv)
    obtain ⟨B', hB', hl⟩ := Vle_iff.1 hv
    exact Vle_iff.2 ⟨B', by rw [hge k hk]; exact hB', hl⟩
  refine ⟨E.upd n 1 (w.heap.size, cp), Env.upd_same .., hx, ?_⟩
  have hold : ∀ i, i < w.heap.size → w'.heap[i]? = w.heap[i]? := fun i hi => by
    rw [hheap, Array.getElem?_push, if_neg (by omega)]
  have hfresh : ∀ b o', w.heap[b]? = some o' → b < w.heap.size := fun b o' hb => size_of_heap hb
  have hbl : ∀ k b, BlkAt (E.upd n 1 (w.heap.size, cp)) (H.set n B) k b → (k ≠ n ∧ BlkAt E H k b) ∨ (k = n ∧ b = w.heap.size) := by
    rintro k b ⟨B', hB', hb⟩
    by_cases hk : k = n
    · right
      subst hk
      rw [hgn] at hB'; cases hB'
      refine ⟨rfl, ?_⟩
      cases B with
      | mem t segs ver gr =>
        simp [SB.lim] at hB
        subst hB
        obtain ⟨_, c, he⟩ := hb
        rw [Env.upd_same] at he; cases he; rfl
      | mp kv ver =>
        simp [SB.lim] at hB
        subst hB
        obtain ⟨c, he⟩ := hb
        rw [Env.upd_same] at he; cases he; rfl
      | gone v => exact hb.elim
      | fresh => exact hb.elim
    · left
      rw [hge k hk] at hB'
      refine ⟨hk, B', hB', ?_⟩
      cases B' with
      | mem t segs ver gr =>
        obtain ⟨h0, c, he⟩ := hb
        rw [Env.upd_ne _ _ (fun e => hk e.1)] at he
        exact ⟨h0, c, he⟩
      | mp kv ver =>
        obtain ⟨c, he⟩ := hb
        rw [Env.upd_ne _ _ (fun e => hk e.1)] at he
        exact ⟨c, he⟩
      | gone v => exact hb
      | fresh => exact hb
  have hsm : m w.heap.size = none := by
    cases hm : m w.heap.size with
    | none => rfl
    | some o' => have := hfresh _ _ (h.im _ _ hm); omega
  have hsf : C.F w.heap.size = none := by
    cases hm : C.F w.heap.size with
    | none => rfl
    | some o' => have := hfresh _ _ (h.fr _ _ hm); omega
  have hlt : ∀ k b, BlkAt E H k b → b < w.heap.size := fun k b hb => by
    obtain ⟨B', hB', hb'⟩ := hb
    obtain ⟨o', ho'⟩ := (h.bl k B' hB').block hB' b ⟨B', hB', hb'⟩
    exact hfresh _ _ ho'
  refine ⟨hw.1.trans h.os, hw.2.1.trans h.tape, ⟨hw.2.2.1.trans h.output.1, h.output.2.trans hw.2.2.2⟩, fun b o' hb => ?_, fun b o' hb => ?_, h.mf, fun k B' hB' => ?_, fun k v hv hv0 => ?_, fun k b hb => ?_, fun j k b hj hk => ?_⟩
  · have := h.im b o' hb; rw [hold b (hfresh _ _ this)]; exact this
  · have := h.fr b o' hb; rw [hold b (hfresh _ _ this)]; exact this
  · by_cases hk : k = n
    · subst hk
      rw [hgn] at hB'; cases hB'
      exact hh _ _ hx.ee hx.vv (Env.upd_same ..)
    · rw [hge k hk] at hB'
      have hh' := h.bl k B' hB'
      exact hh'.mono hx (fun v hv => Env.upd_ne _ _ (fun e => hk e.1)) (fun b hb => hold b (hlt k b ⟨B', hB', hb⟩))
  · by_cases hk : k = n
    · subst hk
      obtain ⟨B', hB', hl⟩ := Vle_iff.1 hv
      rw [hgn] at hB'; cases hB'
      have : v = 1 := by omega
      subst this
      exact ⟨_, _, Env.upd_same ..⟩
    · rw [Env.upd_ne _ _ (fun e => hk e.1)]
      obtain ⟨B', hB', hl⟩ := Vle_iff.1 hv
      rw [hge k hk] at hB'
      exact h.nn k v (Vle_iff.2 ⟨B', hB', hl⟩) hv0
  · rcases hbl k b hb with ⟨_, hb'⟩ | ⟨_, rfl⟩
    · exact h.sp k b hb'
    · exact ⟨hsm, hsf⟩
  · rcases hbl j b hj with ⟨_, hj'⟩ | ⟨rfl, hbs⟩ <;> rcases hbl k b hk with ⟨_, hk'⟩ | ⟨rfl, hbs'⟩
    · exact h.inj j k b hj' hk'
    · have := hlt j b hj'; omega
    · have := hlt k b hk'; omega
    · rfl

/-! ### The source -/
def cellsAt (segs : List SV) (off n : Nat) : Option (List SV) :=
  match dropC segs off with
  | some l => takeC l n
  | none => none
theorem cellsAt_ok {m : Mem} {V : List Nat} (E : Env) {segs l : List SV} {off n : Nat} (h : cellsAt segs off n = some l) (ho : OkL m V segs) : OkL m V l ∧ (cellsL E l).length = n ∧ ∀ u c, (cellsL E l)[u]? = some c → (cellsL E segs)[off + u]? = some c := by
  unfold cellsAt at h
  cases hd : dropC segs off with
  | none => rw [hd] at h; simp at h
  | some r =>
    rw [hd] at h
    simp only at h
    obtain ⟨o1, h1⟩ := dropC_cells E hd ho
    obtain ⟨r2, e2, w2⟩ := takeC_spec h
    subst e2
    have o2 := OkL_append.1 o1
    refine ⟨o2.1, by rw [length_cellsL E l V o2.1, w2], fun u c hc => h1 u c ?_⟩
    rw [cellsL_append, List.getElem?_append_left (List.getElem?_eq_some_iff.1 hc).1]
    exact hc
theorem blk_cells {E C m H w} (hr : Rel E C m H w) {j vj : Nat} {e : TypeId} {segs : List SV} {gj : Nat} (hj : H[j]? = some (.mem e segs vj gj)) (hv : vj ≠ 0) :
    ∃ b c, E j vj = some (b, c) ∧ OkL m (vers H) segs ∧ ∀ u c, (cellsL E segs)[u]? = some c → w.cell? ⟨b, u, none⟩ = some c := by
  have := hr.bl j _ hj
  cases gj with
  | zero => obtain ⟨h0, b, c, h1, h2, h3⟩ := this; exact ⟨b, c, h1, h3, fun u v hu => by rw [cell_of_heap h2]; exact hu⟩
  | succ gj =>
    obtain ⟨h1, _, h2⟩ := this
    obtain ⟨b, c, sp, h3, h4, _⟩ := h2 hv
    exact ⟨b, c, h3, h1, fun u v hu => by rw [cell_of_heap h4, List.getElem?_append_left (List.getElem?_eq_some_iff.1 hu).1]; exact hu⟩
def bytesU (l : List UInt8) : List Int := l.map fun c => (c.toNat : Int)
inductive SrcA (T : Tb) (t : List SV) (h : List SB) (x : Operand) (tx : TypeId) (sz : Nat) : Nat → List SV → List Nat → Prop where
  | nil {ti : TI} {e : TypeId} : evG [] t x = .nils → T tx = some ti → ti.k = .slice e → SrcA T t h x tx sz 0 [] []
  | sl {ti : TI} {e : TypeId} {j vj off n : Nat} {cj : Option Nat} {dj : Nat} {e2 : TypeId} {segs news : List SV} {gj : Nat} : evG [] t x = .sl j vj off n cj dj → T tx = some ti → ti.k = .slice e → h[j]? = some (.mem e2 segs vj gj) → vj ≠ 0 → cellsAt segs off (n * sz) = some news → SrcA T t h x tx sz n news [j]
  | sl0 {ti : TI} {e : TypeId} {j vj off : Nat} {cj : Option Nat} {dj : Nat} : evG [] t x = .sl j vj off 0 cj dj → T tx = some ti → ti.k = .slice e → SrcA T t h x tx sz 0 [] []
  | str {ti : TI} {l : List UInt8} : evG [] t x = .s l → T tx = some ti → ti.k = .str → sz = 1 → SrcA T t h x tx sz l.length [.ints .u8 l.length (bytesU l)] []
  | imm {ti : TI} {e : TypeId} {α : Type} {d : α} {enc : α → List SV} {xs : List α} {a : Option Addr} {cap : Nat} : evG [] t x = .imm α d sz enc xs a cap → T tx = some ti → ti.k = .slice e → SrcA T t h x tx sz xs.length [.arr xs.length α d sz enc xs] []
theorem SrcA.like {T : Tb} {t t' : List SV} {h h' : List SB} {x : Operand} {tx : TypeId} {sz n : Nat} {news : List SV} {rb : List Nat} (hs : SrcA T t h x tx sz n news rb) (he : evG [] t' x = evG [] t x) (hh : ∀ k ∈ rb, h'[k]? = h[k]?) : SrcA T t' h' x tx sz n news rb := by
  cases hs with
  | nil h1 h2 h3 => exact .nil (by rw [he, h1]) h2 h3
  | sl h1 h2 h3 h4 h5 h6 => exact .sl (by rw [he, h1]) h2 h3 (by rw [hh _ (by simp)]; exact h4) h5 h6
  | sl0 h1 h2 h3 => exact .sl0 (by rw [he, h1]) h2 h3
  | str h1 h2 h3 h4 => exact .str (by rw [he, h1]) h2 h3 h4
  | imm h1 h2 h3 => exact .imm (by rw [he, h1]) h2 h3
section
variable {P : Program} {T : Tb}
theorem SrcA.ok (hT : TabOk P T) {t : List SV} {h : List SB} {x : Operand} {tx : TypeId} {sz n : Nat} {news : List SV} {rb : List Nat} (hs : SrcA T t h x tx sz n news rb) {C E m a w} (hr : Rep E C m ⟨t, h⟩ a w) :
    Src P sz tx (a.eval x) n (cellsL E news) w ∧ OkL m (vers h) news := by
  have hevs := hr.evs .nil
  cases hs with
  | nil h1 h2 h3 =>
    obtain ⟨g, ex⟩ := hevs.live (o := x) (by rw [h1]; rfl)
    rw [ex, h1, den_v.2.2.2.2]
    exact ⟨Src.ofNil w ((hT.ti _ _ h2).slice h3) 0, trivial⟩
  | sl h1 h2 h3 h4 h5 h6 =>
    rename_i ti e j vj off cj dj e2 segs gj
    obtain ⟨g, ex⟩ := hevs.live (o := x) (by rw [h1]; rfl)
    obtain ⟨b, c, k1, k2, k3⟩ := blk_cells hr.rel h4 h5
    obtain ⟨o1, o2, o3⟩ := cellsAt_ok E h6 k2
    refine ⟨?_, o1⟩
    have hv : a.eval x = .slice (some ⟨b, if cj = none ∧ n = 0 ∧ c = dj then 0 else off, none⟩) n (cj.getD (c - dj)) := by rw [ex, h1]; simp [den, wrapV, cells, k1]
    rw [hv]
    refine Src.ofSlice w ((hT.ti _ _ h2).slice h3) _ n _ _ o2 (fun u v hu => ?_) (oneCell_cellsL E _ _ o1)
    have hn : n ≠ 0 := fun e => by
      have := (List.getElem?_eq_some_iff.1 hu).1
      rw [o2, e, Nat.zero_mul] at this; omega
    rw [if_neg (fun h => hn h.2.1), add_plain']; exact k3 _ _ (o3 u v hu)
  | sl0 h1 h2 h3 =>
    rename_i ti e j vj off cj dj
    obtain ⟨g, ex⟩ := hevs.live (o := x) (by rw [h1]; rfl)
    refine ⟨?_, trivial⟩
    have hv : ∃ o c, a.eval x = .slice o 0 c := by
      rw [ex, h1]
      simp only [den, wrapV, cells, List.headD_cons]
      cases E j vj with
      | none => exact ⟨_, _, rfl⟩
      | some q => exact ⟨_, _, rfl⟩
    obtain ⟨o, c, hv⟩ := hv
    rw [hv]
    cases o with
    | none => exact Src.ofNil w ((hT.ti _ _ h2).slice h3) c
    | some ad => exact Src.ofSlice w ((hT.ti _ _ h2).slice h3) ad 0 c [] (by simp) (fun u v hu => by simp at hu) (fun u hu => by cases hu)
  | str h1 h2 h3 h4 =>
    rename_i ti l
    subst h4
    obtain ⟨g, ex⟩ := hevs.live (o := x) (by rw [h1]; rfl)
    refine ⟨?_, by simp [OkL, Ok, isUnit, bytesU]⟩
    rw [ex, h1, den_v.2.2.1]
    have := Src.ofString (P := P) w ((hT.ti _ _ h2).str h3) ⟨⟨l⟩⟩
    have e1 : byteCells ⟨⟨l⟩⟩ = cellsL E [.ints .u8 l.length (bytesU l)] := by
      simp [byteCells, cellsL, cells, bytesU, List.map_map]
    rw [e1] at this
    exact this
  | imm h1 h2 h3 =>
    rename_i ti e α d enc xs ad cap
    obtain ⟨g, ex⟩ := hevs.live (o := x) (by rw [h1]; rfl)
    rw [h1] at g ex
    have ho := g.1
    simp only [Ok] at ho
    obtain ⟨o1, o2, o3, o4⟩ := ho
    have hok : OkL m (vers h) [.arr xs.length α d sz enc xs] := by
      simp only [OkL, Ok, isUnit, and_true, true_and]
      exact ⟨o3, fun j hj => (o4 j hj).up⟩
    have hlen : (cellsL E [SV.arr xs.length α d sz enc xs]).length = xs.length * sz := by rw [length_cellsL E _ _ hok]; simp [wdL, wd]
    refine ⟨?_, hok⟩
    have hv : a.eval x = .slice ad xs.length cap := by rw [ex]; simp only [den, wrapV, cells, List.headD_cons]
    rw [hv]
    by_cases hx : xs = []
    · subst hx
      have e1 : cellsL E [SV.arr ([] : List α).length α d sz enc []] = [] := List.eq_nil_of_length_eq_zero (by rw [hlen]; simp)
      rw [e1]
      cases ad with
      | none => exact Src.ofNil w ((hT.ti _ _ h2).slice h3) cap
      | some ad => exact Src.ofSlice w ((hT.ti _ _ h2).slice h3) ad 0 cap [] (by simp) (fun u v hu => by simp at hu) (fun u hu => by cases hu)
    · obtain ⟨ad', arr, ty, fr, rfl, e2, e3, e4⟩ := o2 hx
      refine Src.ofSlice w ((hT.ti _ _ h2).slice h3) _ _ _ _ hlen (fun u v hu => ?_) (oneCell_cellsL E _ _ hok)
      have hul := (List.getElem?_eq_some_iff.1 hu).1
      rw [hlen] at hul
      have hsz : 0 < sz := Nat.pos_of_ne_zero fun e => by subst e; simp at hul
      have hj : u / sz < xs.length := by rw [Nat.div_lt_iff_lt_mul hsz]; exact hul
      have hm : u % sz < sz := Nat.mod_lt _ hsz
      have hle : (cellsL E (enc (xs.getD (u / sz) d))).length = sz := by rw [length_cellsL E _ _ ((o4 _ hj).up (V := vers h)), o3]
      obtain ⟨vv, hc⟩ : ∃ vv, (cellsL E (enc (xs.getD (u / sz) d)))[u % sz]? = some vv := ⟨_, List.getElem?_eq_getElem (by omega)⟩
      have hall := cells_arr_at (E := E) (by have := hok; simp only [OkL] at this; exact this.1.2) hj hc
      rw [Nat.div_add_mod' u sz] at hall
      have hu' : (cells E (.arr xs.length α d sz enc xs))[u]? = some v := by simpa [cellsL] using hu
      rw [hall] at hu'
      cases hu'
      rw [add_none e2]
      have him := hr.rel.im _ _ e3
      rw [show ad'.off + u = ad'.off + (u / sz) * sz + u % sz by have := Nat.div_add_mod' u sz; omega]
      simp only [World.cell?, him]
      have hc0 := hc
      rw [(o4 _ hj).E0] at hc0
      rw [e4 _ hj _ _ hc0]
      simp
/-! ### The base, where a new row is made -/
inductive BaseA (t : List SV) (h : List SB) (s : Operand) (sz : Nat) : Nat → Nat → List SV → List Nat → Prop where
  | nil : evG [] t s = .nils → BaseA t h s sz 0 0 [] []
  | sl0 {k ver off c dc : Nat} : evG [] t s = .sl k ver off 0 (some c) dc → BaseA t h s sz 0 c [] []
  | sl {k ver off len c dc : Nat} {e2 : TypeId} {segs olds : List SV} {gj : Nat} : evG [] t s = .sl k ver off len (some c) dc → h[k]? = some (.mem e2 segs ver gj) → ver ≠ 0 → cellsAt segs off (len * sz) = some olds → BaseA t h s sz len c olds [k]
theorem BaseA.like {t t' : List SV} {h h' : List SB} {s : Operand} {sz len cap : Nat} {olds : List SV} {rb : List Nat} (hs : BaseA t h s sz len cap olds rb) (he : evG [] t' s = evG [] t s) (hh : ∀ k ∈ rb, h'[k]? = h[k]?) : BaseA t' h' s sz len cap olds rb := by
  cases hs with
  | nil h1 => exact .nil (by rw [he, h1])
  | sl0 h1 => exact .sl0 (by rw [he, h1])
  | sl h1 h4 h5 h6 => exact .sl (by rw [he, h1]) (by rw [hh _ (by simp)]; exact h4) h5 h6
theorem BaseA.ok {t : List SV} {h : List SB} {s : Operand} {sz len cap : Nat} {olds : List SV} {rb : List Nat} (hs : BaseA t h s sz len cap olds rb) {C E m a w} (hr : Rep E C m ⟨t, h⟩ a w) :
    ∃ base, a.eval s = .slice base len cap ∧ (Builtin.firstCells sz len (.slice base len cap)).run P w.drew = .ok (cellsL E olds).toArray w.drew ∧ OkL m (vers h) olds ∧ (cellsL E olds).length = len * sz := by
  have hevs := hr.evs .nil
  have zero : ∀ (base : Option Addr) (c : Nat), (Builtin.firstCells sz 0 (.slice base 0 c)).run P w.drew = .ok #[] w.drew := fun base c => by
    cases base with
    | none => exact run_firstCells_none _ _ _ _ _
    | some ad => exact run_firstCells_some w.drew sz 0 ad 0 c [] (by simp) (fun u v hu => by simp at hu)
  cases hs with
  | nil h1 =>
    obtain ⟨g, ex⟩ := hevs.live (o := s) (by rw [h1]; rfl)
    exact ⟨none, by rw [ex, h1, den_v.2.2.2.2], zero _ _, trivial, by simp [cellsL]⟩
  | sl0 h1 =>
    rename_i k ver off dc
    obtain ⟨g, ex⟩ := hevs.live (o := s) (by rw [h1]; rfl)
    have hv : ∃ o, a.eval s = .slice o 0 cap := by
      rw [ex, h1]
      simp only [den, wrapV, cells, List.headD_cons, Option.getD_some]
      cases E k ver with
      | none => exact ⟨_, rfl⟩
      | some q => exact ⟨_, rfl⟩
    obtain ⟨o, hv⟩ := hv
    exact ⟨o, hv, zero _ _, trivial, by simp [cellsL]⟩
  | sl h1 h4 h5 h6 =>
    rename_i k ver off dc e2 segs gj
    obtain ⟨g, ex⟩ := hevs.live (o := s) (by rw [h1]; rfl)
    obtain ⟨b, c, k1, k2, k3⟩ := blk_cells hr.rel h4 h5
    obtain ⟨o1, o2, o3⟩ := cellsAt_ok E h6 k2
    refine ⟨some ⟨b, off, none⟩, by rw [ex, h1]; simp [den, wrapV, cells, k1], ?_, o1, o2⟩
    exact run_firstCells_some w.drew sz len _ len cap _ o2 (fun u v hu => by rw [add_plain']; simpa using k3 _ _ (o3 u v hu))
variable {ops : Array Oper} {o : Oper}
def appE (o : Oper) (p len n g : Nat) (e : TypeId) (segs : List SV) (rb : List Nat) : Eff := ⟨o.dst, .sl p 1 0 (len + n) none 0, readsOf o [], p :: rb, [(p, .mem e segs 1 (g + 1))]⟩
theorem yld_app_new (hT : TabOk P T) {t : List SV} {h : List SB} {s x : Operand} {ty tx e : TypeId} (hop : o.op = .call { callee := .builtin .append, args := #[s, x], argTypes := #[ty, tx] }) (hg : guardOf ops t o = some []) {ti te : TI} (ht : T ty = some ti) (hk : ti.k = .slice e) (hte : T e = some te) {g : Nat} (hsz : te.size = g + 1)
    {len cap n : Nat} {olds news segs' : List SV} {rb rb2 : List Nat} (hb : BaseA t h s te.size len cap olds rb) (hs : SrcA T t h x tx te.size n news rb2) {p : Nat} (hp : h[p]? = some .fresh) (hj : Joins olds news segs') (hgr : cap < len + n) (h63 : len + n ≤ maxLen) (hby : (len + n) * te.bytes ≤ 140737488355328) :
    Yld P ops o (appE o p len n g e segs' (rb ++ rb2)) ⟨t, h⟩ := by
  refine ⟨fun S' _ _ h1 h2 h3 C E m a w hr => ?_⟩
  have hlk : Like (readsOf o []) t S'.t := h1
  have hops := readsOf_op hlk
  rw [hop] at hops
  have es : evG [] S'.t s = evG [] t s := evG_of (hops s (by simp [Op.operands, Call.operands]))
  have ex : evG [] S'.t x = evG [] t x := evG_of (hops x (by simp [Op.operands, Call.operands]))
  obtain ⟨t', h'⟩ := S'
  have hb' := hb.like (t' := t') (h' := h') es fun k hk => h2 k (List.mem_cons_of_mem _ (List.mem_append_left _ hk))
  have hs' := hs.like (t' := t') (h' := h') ex fun k hk => h2 k (List.mem_cons_of_mem _ (List.mem_append_right _ hk))
  have hp' : h'[p]? = some .fresh := by rw [h2 p (by simp [appE])]; exact hp
  have hg' := guardOf_like hg (readsOf_g hlk)
  unfold opW
  rw [show Region.wanted o (yielded ops a.tmps) = true by simp [Region.wanted, guard_none hg'], if_pos rfl]
  obtain ⟨base, e1, e2, e3, e4⟩ := hb'.ok (P := P) hr
  obtain ⟨s1, s2⟩ := hs'.ok hT hr
  have hti := hT.ti ty ti ht
  have hti' := hT.ti e te hte
  obtain ⟨i, z, hi, hsi, hbi, hz, hzc⟩ := hti'.inf
  have hzs : z.cells.size = te.size := by
    rw [← Array.length_toList, hzc, length_cellsL E0 _ _ hti'.zok]; exact hti'.zw
  have hsmall : len + n ≤ 9223372036854775807 := by simp only [maxLen] at h63; omega
  have hrun0 := run_append_grow_src (P := P) w ty tx o.type e i z (hti.slice hk) hi hz base len cap (cellsL E olds) (by rw [hsi]; exact e2) (a.eval x) n (cellsL E news) (by rw [hsi]; exact s1) hgr (by omega) (growslice_fits hgr (by rw [hbi]; exact hby))
  have hge := grownCap_ge w (len + n) cap e
  have hcl : (cellsL E segs').length = (len + n) * te.size := by rw [hj.cells, List.length_append, e4, s1.newsLen, Nat.add_mul]
  have hok' := hj.ok m (vers h') e3 s2
  obtain ⟨E', k1, k2, k3⟩ := hr.rel.allocAt2 (n := p) hp' (.mem e segs' 1 (g + 1)) (.cells ((cellsL E olds ++ cellsL E news).toArray ++ Builtin.zeroCells z.cells (grownCap w (len + n) cap e - (len + n))) e) rfl (grownCap w (len + n) cap e)
    (w' := w.drew.alloc (.cells ((cellsL E olds ++ cellsL E news).toArray ++ Builtin.zeroCells z.cells (grownCap w (len + n) cap e - (len + n))) e)) ⟨rfl, rfl, rfl, by first | exact Nat.le_refl _ | exact Nat.le_succ _⟩ rfl (fun E' V' hE hV hl => by
    refine ⟨OkL.mono (fun _ _ h => h) _ _ _ hV hok', fun e => by omega, fun _ => ⟨w.heap.size, grownCap w (len + n) cap e, (Builtin.zeroCells z.cells (grownCap w (len + n) cap e - (len + n))).toList, hl, ?_, ?_, grownCap_le_maxLen w (len + n) cap e h63⟩⟩
    · rw [cellsL_stable hE _ hok', hj.cells]
      refine (heap_alloc_new w.drew _).trans ?_
      congr 2
      apply Array.ext'
      simp
    · rw [cellsL_stable hE _ hok', hcl, Array.length_toList, size_zeroCells, hzs, ← hsz, ← Nat.add_mul]
      congr 1; omega)
  have hrun : (execOp a.eval o).run P w = .ok (.value (.slice (some ⟨w.heap.size, 0, none⟩) (len + n) (grownCap w (len + n) cap e))) (w.drew.alloc (.cells ((cellsL E olds ++ cellsL E news).toArray ++ Builtin.zeroCells z.cells (grownCap w (len + n) cap e - (len + n))) e)) := by
    simp only [execOp, hop, resolve, invoke, builtin, Sem.run_bind, Sem.run_pure, Result.andThen_ok, List.map_toArray, List.map_cons, List.map_nil, e1, hrun0]
  simp only [Oper.wp, hrun, Oper.upon]
  have hlt : p < h'.length := (List.getElem?_eq_some_iff.1 hp').1
  refine ⟨E', m, k2, ?_⟩
  have := (hr.up k2 k3).put o.dst (x := .sl p 1 0 (len + n) none 0) (v := .slice (some ⟨w.heap.size, 0, none⟩) (len + n) (grownCap w (len + n) cap e)) fun d hd => by
    have hv : Value.slice (some ⟨w.heap.size, 0, none⟩) (len + n) (grownCap w (len + n) cap e) = den E' (.sl p 1 0 (len + n) none 0) := by simp [den, wrapV, cells, k1]
    rw [hv]
    exact SlotOk_live ⟨by simp only [Ok]; exact ⟨Vle_iff.2 ⟨.mem e segs' 1 (g + 1), by simp [List.getElem?_set, hlt], by simp [SB.lim]⟩, fun e => by omega⟩, rfl⟩
  have hpc : putF t' o.dst (.sl p 1 0 (len + n) none 0) = setT t' o.dst (.sl p 1 0 (len + n) none 0) := putF_clean h3
  simp only at this
  rw [hpc] at this
  exact this
end
end SX
end Go.Proofs.YtlgjjklikbpcoaaGreatDoor

/- SX: append onto a row, in place, of nothing. -/
set_option linter.unusedVariables false
set_option linter.unusedSimpArgs false
namespace Go.Proofs.YtlgjjklikbpcoaaGreatDoor
namespace SX
open Go

section
variable {P : Program} {T : Tb}
theorem run_append_room_blk (w : World) (t tx ty e : TypeId) (i : TypeInfo) (ht : P.underlying t = some (.slice e)) (hi : P.info? e = some i) (b off sLen sCap : Nat) (x : Value) (n : Nat) (news : List Value) (hs : Src P i.size tx x n news w)
    (hroom : sLen + n ≤ sCap) {A : List Value} {te : TypeId} (hA : w.heap[b]? = some (.cells A.toArray te (0, 0))) (hfit : off + sLen * i.size + news.length ≤ A.length) :
    (Builtin.append_ #[t, tx] ty #[.slice (some ⟨b, off, none⟩) sLen sCap, x]).run P w = .ok (.slice (some ⟨b, off, none⟩) (sLen + n) sCap) (setBlk w b (.cells (splV A (off + sLen * i.size) news).toArray te (0, 0))) := by
  have hst := run_storeCells (P := P) news w b (off + sLen * i.size) 0 A te hA hs.one (by simpa using hfit)
  simp only [Nat.add_zero] at hst
  rcases hs.kind with ⟨e', hk⟩ | hk <;> simp [Builtin.append_, run_underlying ht, run_underlying hk, sizeOf, typeInfo, hi, hs.len, hroom, hs.cells, Addr.add_lit, hst]
theorem run_append_zero (w : World) (t tx ty e : TypeId) (i : TypeInfo) (ht : P.underlying t = some (.slice e)) (hi : P.info? e = some i) (base : Option Addr) (sLen sCap : Nat) (x : Value) (hs : Src P i.size tx x 0 [] w)
    (hroom : sLen ≤ sCap) : (Builtin.append_ #[t, tx] ty #[.slice base sLen sCap, x]).run P w = .ok (.slice base sLen sCap) w := by
  rcases hs.kind with ⟨e', hk⟩ | hk <;> cases base <;> simp [Builtin.append_, run_underlying ht, run_underlying hk, sizeOf, typeInfo, hi, hs.len, hroom, hs.cells, storeCells]
theorem append_run2 (hT : TabOk P T) {E C m H w} (hr : Rel E C m H w) {ty tx e : TypeId} {ti te : TI} (ht : T ty = some ti) (hk : ti.k = .slice e) (hte : T e = some te) {g : Nat} (hsz : te.size = g + 1) {k ver len : Nat} {segs : List SV} (hh : H[k]? = some (.mem e segs ver (g + 1)))
    (hlen : wdL segs = len * te.size) (h0 : ver = 0 → len = 0) {x : Value} {n : Nat} {news : List Value} (hs : Src P te.size tx x n news w)
    (hn : 0 < n) (h63 : len + n ≤ maxLen) (hby : (len + n) * te.bytes ≤ 140737488355328) (rt : TypeId) :
    ∃ w' b' c' spare, (Builtin.append_ #[ty, tx] rt #[den E (.sl k ver 0 len none 0), x]).run P w = .ok (.slice (some ⟨b', 0, none⟩) (len + n) c') w' ∧
      (w'.os = w.os ∧ w'.tape = w.tape ∧ w'.output = w.output ∧ w.drawn ≤ w'.drawn) ∧ ((ver ≠ 0 ∧ ∃ c, E k ver = some (b', c)) ∨ w.heap.size ≤ b') ∧ (∀ i, i < w.heap.size → i ≠ b' → w'.heap[i]? = w.heap[i]?) ∧
      w'.heap[b']? = some (.cells (cellsL E segs ++ news ++ spare).toArray e (0, 0)) ∧ (cellsL E segs ++ news).length + spare.length = c' * (g + 1) ∧ c' ≤ maxLen := by
  have hti := hT.ti ty ti ht
  have hti' := hT.ti e te hte
  obtain ⟨i, z, hi, hs', hb, hz, hzc⟩ := hti'.inf
  have hzs : z.cells.size = te.size := by
    rw [← Array.length_toList, hzc, length_cellsL E0 _ _ hti'.zok]; exact hti'.zw
  obtain ⟨ho, hv0, hv1⟩ := hr.bl k _ hh
  have hcl : (cellsL E segs).length = len * te.size := by rw [length_cellsL E _ _ ho]; exact hlen
  have hl := hs.newsLen
  have hsmall : len + n ≤ 9223372036854775807 := by simp only [maxLen] at h63; omega
  by_cases hver : ver = 0
  · obtain ⟨e1, e2⟩ := hv0 hver
    have hl0 := h0 hver
    subst hver; subst hl0
    have hr1 := run_append_grow_src (P := P) w ty tx rt e i z (hti.slice hk) hi hz none 0 0 [] (run_firstCells_none _ _ _ _ _) x n news (by rw [hs']; exact hs) (by omega) (by omega) (growslice_fits (by omega) (by rw [hb]; exact hby))
    simp only [List.nil_append, Nat.zero_add] at hr1
    refine ⟨w.drew.alloc (.cells (news.toArray ++ Builtin.zeroCells z.cells (grownCap w n 0 e - n)) e), w.heap.size, grownCap w n 0 e, (Builtin.zeroCells z.cells (grownCap w n 0 e - n)).toList, ?_, ⟨rfl, rfl, rfl, by first | exact Nat.le_refl _ | exact Nat.le_succ _⟩, .inr (Nat.le_refl _), fun j hj hne => heap_alloc_old w.drew _ hj, ?_, ?_, grownCap_le_maxLen w n 0 e (by simpa using h63)⟩
    · simp only [den, wrapV, cells, e2, List.headD_cons, Option.getD_none, Nat.zero_add]
      exact hr1
    · refine (heap_alloc_new w.drew _).trans ?_
      rw [e1]
      congr 2
      apply Array.ext'
      simp
    · have hge := grownCap_ge w n 0 e
      simp only [e1, List.nil_append, Array.length_toList, size_zeroCells, hzs, hl, ← Nat.add_mul, ← hsz]
      congr 1; omega
  · obtain ⟨b, cp, spare, e1, e2, e3, e4⟩ := hv1 hver
    have hval : den E (.sl k ver 0 len none 0) = .slice (some ⟨b, 0, none⟩) len cp := by simp [den, wrapV, cells, e1]
    rw [hval]
    rw [← hsz] at e3 ⊢
    by_cases hroom : len + n ≤ cp
    · have hfit : 0 + len * i.size + news.length ≤ (cellsL E segs ++ spare).length := by
        simp only [List.length_append]
        rw [e3, hl, hs', Nat.zero_add, ← Nat.add_mul]; exact Nat.mul_le_mul_right _ hroom
      have hr1 := run_append_room_blk (P := P) w ty tx rt e i (hti.slice hk) hi b 0 len cp x n news (by rw [hs']; exact hs) hroom e2 hfit
      have hspare : spare.length = cp * te.size - len * te.size := by omega
      have hle : news.length ≤ spare.length := by
        rw [hl, hspare, ← Nat.sub_mul]; exact Nat.mul_le_mul_right _ (by omega)
      refine ⟨_, b, cp, spare.drop news.length, hr1, ⟨rfl, rfl, rfl, by first | exact Nat.le_refl _ | exact Nat.le_succ _⟩, .inl ⟨hver, cp, e1⟩, fun j hj hne => setBlk_ne hne _, ?_, ?_, e4⟩
      · rw [setBlk_same (size_of_heap e2)]
        have t1 : (cellsL E segs ++ spare).take (cellsL E segs).length = cellsL E segs := by simp
        have t2 : (cellsL E segs ++ spare).drop ((cellsL E segs).length + news.length) = spare.drop news.length := by rw [← List.drop_drop]; simp
        simp only [splV, hs', Nat.zero_add, ← hcl, t1, t2]
      · simp only [List.length_append, List.length_drop]; omega
    · have holds : (Builtin.firstCells i.size len (.slice (some ⟨b, 0, none⟩) len cp)).run P w.drew = .ok (cellsL E segs).toArray w.drew := by
        refine run_firstCells_some w.drew i.size len _ len cp _ (by rw [hs']; exact hcl) (fun j u hj => ?_)
        rw [add_plain', Nat.zero_add]
        have hjl := (List.getElem?_eq_some_iff.1 hj).1
        show w.cell? _ = _
        rw [cell_of_heap e2, List.getElem?_append_left hjl]
        exact hj
      have hr1 := run_append_grow_src (P := P) w ty tx rt e i z (hti.slice hk) hi hz (some ⟨b, 0, none⟩) len cp (cellsL E segs) holds x n news (by rw [hs']; exact hs) (by omega) (by omega) (growslice_fits (by omega) (by rw [hb]; exact hby))
      refine ⟨_, w.heap.size, grownCap w (len + n) cp e, (Builtin.zeroCells z.cells (grownCap w (len + n) cp e - (len + n))).toList, hr1, ⟨rfl, rfl, rfl, by first | exact Nat.le_refl _ | exact Nat.le_succ _⟩, .inr (Nat.le_refl _), fun j hj hne => heap_alloc_old w.drew _ hj, ?_, ?_, grownCap_le_maxLen w (len + n) cp e h63⟩
      · refine (heap_alloc_new w.drew _).trans ?_
        congr 2
        apply Array.ext'
        simp
      · have hge := grownCap_ge w (len + n) cp e
        simp only [List.length_append, Array.length_toList, size_zeroCells, hzs, hl, hcl, ← Nat.add_mul]
        congr 1; omega
variable {ops : Array Oper} {o : Oper}
def rowE (o : Oper) (k ver len n g : Nat) (e : TypeId) (segs : List SV) (rb : List Nat) : Eff := ⟨o.dst, .sl k (ver + 1) 0 (len + n) none 0, readsOf o [], k :: rb, [(k, .mem e segs (ver + 1) (g + 1))]⟩
theorem yld_app_row (hT : TabOk P T) {t : List SV} {h : List SB} {s x : Operand} {ty tx e : TypeId} (hop : o.op = .call { callee := .builtin .append, args := #[s, x], argTypes := #[ty, tx] }) (hg : guardOf ops t o = some []) {ti te : TI} (ht : T ty = some ti) (hk : ti.k = .slice e) (hte : T e = some te) {g : Nat} (hsz : te.size = g + 1)
    {k ver len n : Nat} (hb : evG [] t s = .sl k ver 0 len none 0) {segs news segs' : List SV} (hh : h[k]? = some (.mem e segs ver (g + 1))) (hlen : wdL segs = len * te.size) {rb : List Nat} (hs : SrcA T t h x tx te.size n news rb) (hj : Joins segs news segs') (hn : 0 < n) (h63 : len + n ≤ maxLen) (hby : (len + n) * te.bytes ≤ 140737488355328) :
    Yld P ops o (rowE o k ver len n g e segs' rb) ⟨t, h⟩ := by
  refine ⟨fun S' _ _ h1 h2 h3 C E m a w hr => ?_⟩
  have hlk : Like (readsOf o []) t S'.t := h1
  have hops := readsOf_op hlk
  rw [hop] at hops
  have es : evG [] S'.t s = evG [] t s := evG_of (hops s (by simp [Op.operands, Call.operands]))
  have ex : evG [] S'.t x = evG [] t x := evG_of (hops x (by simp [Op.operands, Call.operands]))
  obtain ⟨t', h'⟩ := S'
  have hs' := hs.like (t' := t') (h' := h') ex fun k hk => h2 k (List.mem_cons_of_mem _ hk)
  have hh' : h'[k]? = some (.mem e segs ver (g + 1)) := by rw [h2 k (by simp [rowE])]; exact hh
  have hg' := guardOf_like hg (readsOf_g hlk)
  unfold opW
  rw [show Region.wanted o (yielded ops a.tmps) = true by simp [Region.wanted, guard_none hg'], if_pos rfl]
  obtain ⟨s1, s2⟩ := hs'.ok hT hr
  have hevs := hr.evs .nil
  obtain ⟨gs, e1⟩ := hevs.live (o := s) (by rw [es, hb]; rfl)
  rw [es, hb] at gs e1
  have hvs : ver = 0 → len = 0 := by have := gs.1; simp only [Ok] at this; exact this.2
  obtain ⟨w', b', c', spare, r1, r2, r3, r4, r5, r6, r7⟩ := append_run2 hT hr.rel ht hk hte hsz hh' hlen hvs s1 hn h63 hby o.type
  obtain ⟨ho, _, _⟩ := hr.rel.bl k _ hh'
  obtain ⟨E', k1, k2, k3⟩ := hr.rel.grow hh' (segs' := segs') r2 r3 r4 (hj.ok _ _ ho s2) (by rw [hj.cells]; exact r5) (by rw [hj.cells]; exact ⟨r6, r7⟩)
  have hrun : (execOp a.eval o).run P w = .ok (.value (.slice (some ⟨b', 0, none⟩) (len + n) c')) w' := by
    simp only [execOp, hop, resolve, invoke, builtin, Sem.run_bind, Sem.run_pure, Result.andThen_ok, List.map_toArray, List.map_cons, List.map_nil, e1, r1]
  simp only [Oper.wp, hrun, Oper.upon]
  have hlt : k < h'.length := (List.getElem?_eq_some_iff.1 hh').1
  refine ⟨E', m, k2, ?_⟩
  have := (hr.up k2 k3).put o.dst (x := .sl k (ver + 1) 0 (len + n) none 0) (v := .slice (some ⟨b', 0, none⟩) (len + n) c') fun d hd => by
    have hv : Value.slice (some ⟨b', 0, none⟩) (len + n) c' = den E' (.sl k (ver + 1) 0 (len + n) none 0) := by simp [den, wrapV, cells, k1]
    rw [hv]
    exact SlotOk_live ⟨by simp only [Ok]; exact ⟨Vle_iff.2 ⟨.mem e segs' (ver + 1) (g + 1), by simp [List.getElem?_set, hlt], by simp [SB.lim]⟩, fun e => by omega⟩, rfl⟩
  have hpc : putF t' o.dst (.sl k (ver + 1) 0 (len + n) none 0) = setT t' o.dst (.sl k (ver + 1) 0 (len + n) none 0) := putF_clean h3
  simp only at this
  rw [hpc] at this
  exact this
theorem Rel.cut {E C m H w} (h : Rel E C m H w) {k ver g : Nat} {ty : TypeId} {pre post : List SV} (hk : H[k]? = some (.mem ty (pre ++ post) ver (g + 1))) : Rel E C m (H.set k (.mem ty pre ver (g + 1))) w := by
  have hvs : vers (H.set k (.mem ty pre ver (g + 1))) = vers H := vers_set (B' := .mem ty pre ver (g + 1)) hk rfl
  have hkl : k < H.length := (List.getElem?_eq_some_iff.1 hk).1
  have hgk : (H.set k (.mem ty pre ver (g + 1)))[k]? = some (.mem ty pre ver (g + 1)) := by simp [List.getElem?_set, hkl]
  have hge : ∀ j, j ≠ k → (H.set k (.mem ty pre ver (g + 1)))[j]? = H[j]? := fun j hj => List.getElem?_set_ne (Ne.symm hj)
  have hblk : ∀ j b, BlkAt E (H.set k (.mem ty pre ver (g + 1))) j b → BlkAt E H j b := by
    rintro j b ⟨B', hB', hb⟩
    by_cases hj : j = k
    · subst hj; rw [hgk] at hB'; cases hB'; exact ⟨_, hk, hb⟩
    · rw [hge j hj] at hB'; exact ⟨B', hB', hb⟩
  refine ⟨h.os, h.tape, h.output, h.im, h.fr, h.mf, ?_, ?_, fun j b hb => h.sp j b (hblk j b hb), fun i j b h1 h2 => h.inj i j b (hblk i b h1) (hblk j b h2)⟩
  · intro j B' hB'
    rw [hvs]
    by_cases hj : j = k
    · subst hj; rw [hgk] at hB'; cases hB'
      obtain ⟨o1, o2, o3⟩ := h.bl j _ hk
      rw [cellsL_append] at o2 o3
      refine ⟨(OkL_append.1 o1).1, fun e => ⟨(List.append_eq_nil_iff.1 (o2 e).1).1, (o2 e).2⟩, fun e => ?_⟩
      obtain ⟨b, c, sp, e1, e2, e3, e4⟩ := o3 e
      refine ⟨b, c, cellsL E post ++ sp, e1, by rw [← List.append_assoc]; exact e2, ?_, e4⟩
      rw [List.length_append] at e3 ⊢
      omega
    · rw [hge j hj] at hB'; exact h.bl j B' hB'
  · rw [hvs]; exact h.nn
theorem yld_app_cut (hT : TabOk P T) {t : List SV} {h : List SB} {s x : Operand} {ty tx e : TypeId} (hop : o.op = .call { callee := .builtin .append, args := #[s, x], argTypes := #[ty, tx] }) (hg : guardOf ops t o = some []) {ti te : TI} (ht : T ty = some ti) (hk : ti.k = .slice e) (hte : T e = some te) {g : Nat} (hsz : te.size = g + 1)
    {k ver len n : Nat} (hb : evG [] t s = .sl k ver 0 len none 0) {segs olds news segs' : List SV} (hh : h[k]? = some (.mem e segs ver (g + 1))) (hcut : takeC segs (len * te.size) = some olds) {rb : List Nat} (hs : SrcA T t h x tx te.size n news rb) (hkr : k ∉ rb) (hj : Joins olds news segs') (hn : 0 < n) (h63 : len + n ≤ maxLen) (hby : (len + n) * te.bytes ≤ 140737488355328) :
    Yld P ops o (rowE o k ver len n g e segs' rb) ⟨t, h⟩ := by
  obtain ⟨post, rfl, hw⟩ := takeC_spec hcut
  have hkl : k < h.length := (List.getElem?_eq_some_iff.1 hh).1
  have hs2 : SrcA T t (h.set k (.mem e olds ver (g + 1))) x tx te.size n news rb := hs.like rfl fun j hj => List.getElem?_set_ne (fun e => hkr (by rw [e]; exact hj))
  have hy := yld_app_row (P := P) (ops := ops) (o := o) hT (h := h.set k (.mem e olds ver (g + 1))) hop hg ht hk hte hsz hb (by simp [List.getElem?_set, hkl]) hw hs2 hj hn h63 hby
  refine ⟨fun S' hl1 hl2 h1 h2 h3 C E m a w hr => ?_⟩
  have hk2 : S'.h[k]? = some (.mem e (olds ++ post) ver (g + 1)) := by rw [h2 k (by simp [rowE])]; exact hh
  have hkl2 : k < S'.h.length := (List.getElem?_eq_some_iff.1 hk2).1
  have hvs : vers (S'.h.set k (.mem e olds ver (g + 1))) = vers S'.h := vers_set (B' := .mem e olds ver (g + 1)) hk2 rfl
  have hr2 : Rep E C m ⟨S'.t, S'.h.set k (.mem e olds ver (g + 1))⟩ a w := hr.up (by rw [hvs]; exact .refl ..) (hr.rel.cut hk2)
  have := hy.out ⟨S'.t, S'.h.set k (.mem e olds ver (g + 1))⟩ hl1 (by simpa using hl2) h1 (fun j hj => by
    by_cases e0 : j = k
    · subst e0; simp [List.getElem?_set, hkl, hkl2]
    · simp only [List.getElem?_set_ne (Ne.symm e0)]; exact h2 j hj) h3 C E m a w hr2
  have hput : (rowE o k ver len n g e segs' rb).put ⟨S'.t, S'.h.set k (.mem e olds ver (g + 1))⟩ = (rowE o k ver len n g e segs' rb).put S' := by
    simp [Eff.put, rowE, setB, List.set_set]
  rw [hput] at this
  simp only at this
  rw [hvs] at this
  exact this
theorem yld_app_zero (hT : TabOk P T) {t : List SV} {h : List SB} {s x : Operand} {ty tx e : TypeId} (hop : o.op = .call { callee := .builtin .append, args := #[s, x], argTypes := #[ty, tx] }) (hg : guardOf ops t o = some []) {ti te : TI} (ht : T ty = some ti) (hk : ti.k = .slice e) (hte : T e = some te)
    {rb rb2 : List Nat} {v : SV} (hv : evG [] t s = v) (hb : v = .nils ∨ (∃ k ver off len c dc, v = .sl k ver off len (some c) dc ∧ len ≤ c) ∨ ∃ k ver len e2 segs g, v = .sl k ver 0 len none 0 ∧ h[k]? = some (.mem e2 segs ver (g + 1)) ∧ wdL segs = len * (g + 1) ∧ rb = [k]) {news : List SV} (hs : SrcA T t h x tx te.size 0 news rb2) :
    Yld P ops o ⟨o.dst, v, readsOf o [], rb ++ rb2, []⟩ ⟨t, h⟩ := by
  have hl : live v = true := by rcases hb with rfl | ⟨k, ver, off, len, c, dc, rfl, _⟩ | ⟨k, ver, len, e2, segs, g, rfl, _⟩ <;> rfl
  have := yld_value (P := P) (ops := ops) (o := o) (S := ⟨t, h⟩) (p := []) (x := v) (rs := readsOf o []) (rb := rb ++ rb2) hg (fun n hn => by simp at hn) (fun S' hlk hh C E m a w hr _ => by
    have hops := readsOf_op hlk
    rw [hop] at hops
    have es : evG [] S'.t s = evG [] t s := evG_of (hops s (by simp [Op.operands, Call.operands]))
    have ex : evG [] S'.t x = evG [] t x := evG_of (hops x (by simp [Op.operands, Call.operands]))
    obtain ⟨t', h'⟩ := S'
    have hs' := hs.like (t' := t') (h' := h') ex fun k hk => hh k (List.mem_append_right _ hk)
    obtain ⟨s1, s2⟩ := hs'.ok hT hr
    obtain ⟨g0, e0⟩ := (hr.evs .nil).live (o := s) (by rw [es, hv]; exact hl)
    rw [es, hv] at g0 e0
    have hti := hT.ti ty ti ht
    obtain ⟨i, z, hi, hsi, _⟩ := (hT.ti e te hte).inf
    have hnil : cellsL E news = [] := List.eq_nil_of_length_eq_zero (by rw [s1.newsLen, Nat.zero_mul])
    rw [hnil, ← hsi] at s1
    have key : ∃ base len cap, den E v = .slice base len cap ∧ len ≤ cap := by
      rcases hb with rfl | ⟨k, ver, off, len, c, dc, rfl, hc⟩ | ⟨k, ver, len, e2, segs, g, rfl, h1, h2, rfl⟩
      · exact ⟨none, 0, 0, den_v.2.2.2.2, Nat.le_refl _⟩
      · simp only [den, wrapV, cells, List.headD_cons, Option.getD_some]
        cases E k ver with
        | none => exact ⟨_, _, _, rfl, hc⟩
        | some q => exact ⟨_, _, _, rfl, hc⟩
      · have h1' : h'[k]? = some (.mem e2 segs ver (g + 1)) := by rw [hh k (by simp)]; exact h1
        obtain ⟨o1, o2, o3⟩ := hr.rel.bl k _ h1'
        have hvz : ver = 0 → len = 0 := by have := g0.1; simp only [Ok] at this; exact this.2
        by_cases hz : ver = 0
        · refine ⟨none, len, 0, ?_, by rw [hvz hz]; exact Nat.le_refl _⟩
          simp only [den, wrapV, cells, List.headD_cons]
          rw [hz, (o2 hz).2]
          rfl
        · obtain ⟨b, c, sp, q1, q2, q3, q4⟩ := o3 hz
          refine ⟨some ⟨b, 0, none⟩, len, c, by simp [den, wrapV, cells, q1], ?_⟩
          have := length_cellsL E segs _ o1
          have : len * (g + 1) ≤ c * (g + 1) := by omega
          exact Nat.le_of_mul_le_mul_right this (by omega)
    obtain ⟨base, len, cap, k1, k2⟩ := key
    refine ⟨den E v, ?_, .inr ⟨g0, rfl⟩⟩
    have hr0 := run_append_zero (P := P) w ty tx o.type e i (hti.slice hk) hi base len cap (a.eval x) s1 k2
    simp only [execOp, hop, resolve, invoke, builtin, Sem.run_bind, Sem.run_pure, Result.andThen_ok, List.map_toArray, List.map_cons, List.map_nil, e0, k1, hr0])
  simpa only [wrapG] using this
end
end SX
end Go.Proofs.YtlgjjklikbpcoaaGreatDoor

/- SX: an operation that is told by what it yields, in its text's order. -/
set_option linter.unusedVariables false
set_option linter.unusedSimpArgs false
namespace Go.Proofs.YtlgjjklikbpcoaaGreatDoor
namespace SX
open Go
section
variable {P : Program} {T : Tb} {ops : Array Oper} {o : Oper}
theorem OpC.yld {e : Eff} {K : St → Prop} {t : List SV} {h : List SB} (nn : Nat) {h1 : List SB} (hh1 : h ++ List.replicate nn .fresh = h1) (hy : Yld P ops o e ⟨t, h1⟩) (hk : ∀ d, e.d = some d → killL d t = t) (hK : K (e.put ⟨t, h1⟩)) : OpC P T ops o K ⟨t, h⟩ := by
  subst hh1
  refine ⟨fun C E m a w hr => ?_⟩
  have hr1 : Rep E C m ⟨t, h ++ List.replicate nn .fresh⟩ a w := hr.up (Ext.pad E m h nn) (hr.rel.pad nn)
  have h3 := hy.out ⟨t, h ++ List.replicate nn .fresh⟩ rfl rfl (fun _ _ => rfl) (fun _ _ => rfl) hk C E m a w hr1
  unfold opW at h3 ⊢
  have next : ∀ a' w', (∃ E' m', Ext E m (vers (h ++ List.replicate nn .fresh)) E' m' (vers (e.put ⟨t, h ++ List.replicate nn .fresh⟩).h) ∧ Rep E' C m' (e.put ⟨t, h ++ List.replicate nn .fresh⟩) a' w') →
      ∃ E' m' S'', K S'' ∧ Ext E m (vers h) E' m' (vers S''.h) ∧ Rep E' C m' S'' a' w' :=
    fun a' w' ⟨E', m', k1, k2⟩ => ⟨E', m', _, hK, (Ext.pad E m h nn).trans k1, k2⟩
  split
  · rename_i hw; rw [if_pos hw] at h3; exact wp_onlyN h3 next
  · rename_i hw; rw [if_neg hw] at h3; exact next _ _ h3
end
end SX
end Go.Proofs.YtlgjjklikbpcoaaGreatDoor

/- SX: a tracked row is handed to a call as one that stays; a row's end is forgotten. -/
set_option linter.unusedVariables false
set_option linter.unusedSimpArgs false
namespace Go.Proofs.YtlgjjklikbpcoaaGreatDoor
namespace SX
open Go

mutual
/-- Values that name no memory at all. -/
def pl : SV → Bool
  | .i _ _ | .b _ | .s _ | .raw _ | .nils => true
  | .fn _ caps => plL caps
  | .iface _ x => pl x
  | .bm _ x => pl x
  | .agg cs => plL cs
  | .tup vs => plL vs
  | _ => false
def plL : List SV → Bool
  | [] => true
  | x :: r => pl x && plL r
end
mutual
theorem pl_ok {m m' : Mem} {V V' : List Nat} : ∀ x : SV, pl x = true → Ok m V x → Ok m' V' x
  | .i _ _, _, _ | .b _, _, _ | .s _, _, _ | .raw _, _, _ | .nils, _, _ => by simp [Ok]
  | .ptr _ _ _ _, h, _ | .sl _ _ _ _ _ _, h, _ | .map _, h, _ | .arr _ _ _ _ _ _, h, _ | .grd _ _, h, _ | .dead, h, _ | .ipt _ _ _ _ _ _ _ _ _, h, _ | .imm _ _ _ _ _ _ _, h, _ | .ints _ _ _, h, _ => by simp [pl] at h
  | .fn _ caps, hn, h => by simp only [pl] at hn; simp only [Ok] at h ⊢; exact pl_okA caps hn h
  | .iface _ x, hn, h => by simp only [pl] at hn; simp only [Ok] at h ⊢; exact ⟨pl_ok x hn h.1, h.2⟩
  | .bm _ x, hn, h => by simp only [pl] at hn; simp only [Ok] at h ⊢; exact ⟨pl_ok x hn h.1, h.2⟩
  | .agg cs, hn, h => by simp only [pl] at hn; simp only [Ok] at h ⊢; exact pl_okL cs hn h
  | .tup vs, hn, h => by simp only [pl] at hn; simp only [Ok] at h ⊢; exact pl_okA vs hn h
theorem pl_okL {m m' : Mem} {V V' : List Nat} : ∀ l : List SV, plL l = true → OkL m V l → OkL m' V' l
  | [], _, _ => by simp [OkL]
  | x :: r, hn, h => by
    simp only [plL, Bool.and_eq_true] at hn
    simp only [OkL] at h ⊢
    exact ⟨⟨h.1.1, pl_ok x hn.1 h.1.2⟩, pl_okL r hn.2 h.2⟩
theorem pl_okA {m m' : Mem} {V V' : List Nat} : ∀ l : List SV, plL l = true → OkA m V l → OkA m' V' l
  | [], _, _ => by simp [OkA]
  | x :: r, hn, h => by
    simp only [plL, Bool.and_eq_true] at hn
    simp only [OkA] at h ⊢
    exact ⟨⟨h.1.1, pl_ok x hn.1 h.1.2⟩, pl_okA r hn.2 h.2⟩
end
theorem Holds.mem {E m m' V w k B} (h : Holds E m' V w k B) (h0 : ∀ t segs ver g, B = .mem t segs ver g → OkL m V segs) (h1 : ∀ kv ver, B = .mp kv ver → ∀ p ∈ kv, (Ok m V p.1 ∧ live p.1 = true) ∧ Ok m V p.2 ∧ live p.2 = true) : Holds E m V w k B := by
  cases B with
  | mem t segs ver g =>
    have o := h0 _ _ _ _ rfl
    cases g with
    | zero => obtain ⟨e, b, c, e1, e2, _⟩ := h; exact ⟨e, b, c, e1, e2, o⟩
    | succ g => exact ⟨o, h.2⟩
  | mp kv ver => obtain ⟨e, b, c, es, cl, e1, e2, e3, _⟩ := h; exact ⟨e, b, c, es, cl, e1, e2, e3, h1 _ _ rfl⟩
  | gone v => trivial
  | fresh => trivial
theorem Holds.okOf {E m V w k B} (h : Holds E m V w k B) : (∀ t segs ver g, B = .mem t segs ver g → OkL m V segs) ∧ (∀ kv ver, B = .mp kv ver → ∀ p ∈ kv, (Ok m V p.1 ∧ live p.1 = true) ∧ Ok m V p.2 ∧ live p.2 = true) := by
  constructor
  · rintro t segs ver g rfl
    cases g with
    | zero => obtain ⟨e, b, c, e1, e2, o⟩ := h; exact o
    | succ g => exact h.1
  · rintro kv ver rfl
    obtain ⟨e, b, c, es, cl, e1, e2, e3, o⟩ := h
    exact o
theorem OkA_split {m : Mem} {V : List Nat} : ∀ {A B : List SV}, OkA m V (A ++ B) → OkA m V A ∧ OkA m V B
  | [], B, h => ⟨trivial, h⟩
  | x :: A, B, h => by simp only [List.cons_append, OkA] at h ⊢; obtain ⟨i1, i2⟩ := OkA_split h.2; exact ⟨⟨h.1, i1⟩, i2⟩
theorem nmL_append : ∀ {A B : List SV}, nmL A = true → nmL B = true → nmL (A ++ B) = true
  | [], B, _, h => h
  | x :: A, B, h, h' => by simp only [List.cons_append, nmL, Bool.and_eq_true] at h ⊢; exact ⟨h.1, nmL_append h.2 h'⟩
theorem Cp.freeze {X : List Value → World → (Value → World → Prop) → Prop} (hX : XMono X) {A B : List SV} {α : Type} {d : α} {n : Nat} {enc : α → List SV} {xs : List α} {k ver off len : Nat} {cap : Option Nat} {dc : Nat} {H : List SB} {ty : TypeId} {segs : List SV} {gw : Nat} {K : SV → Prop}
    (hk : H[k]? = some (.mem ty segs ver gw)) (hlen : xs.length = len) (hw : ∀ x, wdL (enc x) = n) (hok : ∀ x m, OkL m [] (enc x))
    (hc : ∀ E j, j < len → ∀ u c, (cellsL E0 (enc (xs.getD j d)))[u]? = some c → (cellsL E segs)[off + j * n + u]? = some c)
    (hcap : match cap with | some c => len ≤ c | none => n = gw ∧ 0 < gw ∧ off = dc * n ∧ off + len * n ≤ wdL segs)
    (hK : ∀ r, K r → pl r = true)
    (h : ∀ a cap, Cp X (A ++ .imm α d n enc xs a cap :: B) (H.set k (.gone ver)) (fun r h => K r ∧ h = H.set k (.gone ver))) :
    Cp X (A ++ .sl k ver off len cap dc :: B) H (fun r h => K r ∧ h = H) := by
  refine ⟨fun C E m w hr ha => ?_⟩
  have hvs : vers (H.set k (.gone ver)) = vers H := vers_set (B' := .gone ver) hk rfl
  have hkl : k < H.length := (List.getElem?_eq_some_iff.1 hk).1
  have hgk : (H.set k (.gone ver))[k]? = some (.gone ver) := by simp [List.getElem?_set, hkl]
  have hge : ∀ j, j ≠ k → (H.set k (.gone ver))[j]? = H[j]? := fun j hj => List.getElem?_set_ne (Ne.symm hj)
  obtain ⟨haA, haS⟩ := OkA_split ha
  have haS' := haS
  simp only [OkA, Ok] at haS
  obtain ⟨⟨_, _, hv0⟩, haB⟩ := haS
  have hblk : ∀ j b, BlkAt E (H.set k (.gone ver)) j b → j ≠ k ∧ BlkAt E H j b := by
    rintro j b ⟨B', hB', hb⟩
    by_cases hj : j = k
    · subst hj; rw [hgk] at hB'; cases hB'; exact hb.elim
    · rw [hge j hj] at hB'; exact ⟨hj, B', hB', hb⟩
  have hbl := hr.bl k _ hk
  -- with a block, or nil
  have key : ∃ (m1 : Mem) (a : Option Addr) (cp : Nat), (∀ b o, m b = some o → m1 b = some o) ∧ den E (.sl k ver off len cap dc) = den E (.imm α d n enc xs a cp) ∧ Ok m1 (vers H) (.imm α d n enc xs a cp) ∧
      Rel E C m1 (H.set k (.gone ver)) w ∧ (∀ b, BlkAt E H k b → ∃ o, m1 b = some o ∧ w.heap[b]? = some o) ∧ (∀ b, m1 b = m b ∨ BlkAt E H k b) := by
    by_cases hz : ver = 0
    · have hxs : xs = [] := by have := hv0 hz; exact List.eq_nil_of_length_eq_zero (by omega)
      have hE : E k ver = none := by
        cases gw with
        | zero => have := hbl.1; omega
        | succ g => have := (hbl.2.1 hz).2; rw [hz]; exact this
      refine ⟨m, none, cap.getD 0, fun _ _ h => h, ?_, ?_, ?_, ?_, fun b => .inl rfl⟩
      · simp [den, wrapV, cells, hE, hlen]
      · simp only [Ok]
        exact ⟨by simp [hxs], fun h => absurd hxs h, hw, fun j _ => hok _ _⟩
      · refine ⟨hr.os, hr.tape, hr.output, hr.im, hr.fr, hr.mf, ?_, ?_, ?_, ?_⟩
        · intro j B' hB'
          by_cases hj : j = k
          · subst hj; rw [hgk] at hB'; cases hB'; trivial
          · rw [hge j hj] at hB'; rw [hvs]; exact hr.bl j B' hB'
        · rw [hvs]; exact hr.nn
        · intro j b hb; exact hr.sp j b (hblk j b hb).2
        · intro i j b h1 h2; exact hr.inj i j b (hblk i b h1).2 (hblk j b h2).2
      · rintro b ⟨B', hB', hb⟩
        rw [hk] at hB'; cases hB'
        exact absurd hz hb.1
    · have hh : ∃ b c arr, E k ver = some (b, c) ∧ w.heap[b]? = some (.cells arr ty (0, 0)) ∧ (∃ spare, arr = (cellsL E segs ++ spare).toArray ∧ (gw ≠ 0 → (cellsL E segs).length + spare.length = c * gw)) ∧ OkL m (vers H) segs := by
        cases gw with
        | zero => obtain ⟨_, b, c, e1, e2, e3⟩ := hbl; exact ⟨b, c, _, e1, e2, ⟨[], by simp, fun h => absurd rfl h⟩, e3⟩
        | succ g => obtain ⟨e3, _, e4⟩ := hbl; obtain ⟨b, c, sp, e1, e2, e5, _⟩ := e4 hz; exact ⟨b, c, _, e1, e2, ⟨sp, rfl, fun _ => e5⟩, e3⟩
      obtain ⟨b, c, arr, e1, e2, ⟨sp, rfl, e5⟩, e3⟩ := hh
      have hat : BlkAt E H k b := ⟨_, hk, hz, c, e1⟩
      obtain ⟨s1, s2⟩ := hr.sp k b hat
      have hlc : xs.length ≤ cap.getD (c - dc) := by
        cases cap with
        | some c' => simp only [Option.getD_some]; rw [hlen]; exact hcap
        | none =>
          obtain ⟨c1, c2, c3, c4⟩ := hcap
          simp only [Option.getD_none]
          have h5 := e5 (by omega)
          have h6 := length_cellsL E segs _ e3
          have h7 : (dc + len) * n ≤ c * n := by
            rw [Nat.add_mul, ← c3]
            calc off + len * n ≤ wdL segs := c4
              _ ≤ c * gw := by omega
              _ = c * n := by rw [c1]
          have := Nat.le_of_mul_le_mul_right h7 (by omega)
          omega
      refine ⟨fun b' => if b' = b then some (.cells (cellsL E segs ++ sp).toArray ty (0, 0)) else m b', some ⟨b, if cap = none ∧ len = 0 ∧ c = dc then 0 else off, none⟩, cap.getD (c - dc), ?_, ?_, ?_, ?_, ?_, ?_⟩
      · intro b' o ho
        have : b' ≠ b := fun e => by subst e; rw [s1] at ho; cases ho
        simp only [if_neg this]; exact ho
      · simp [den, wrapV, cells, e1, hlen]
      · simp only [Ok]
        refine ⟨hlc, fun hne => ⟨_, _, ty, (0, 0), rfl, rfl, by simp; rfl, fun j hj u v hu => ?_⟩, hw, fun j _ => hok _ _⟩
        have h1 := hc E j (by omega) u v hu
        have hne : (if cap = none ∧ len = 0 ∧ c = dc then 0 else off) = off := if_neg fun h => by omega
        simp only [List.getElem?_toArray, hne]
        have h2 : off + j * n + u < (cellsL E segs).length := (List.getElem?_eq_some_iff.1 h1).1
        rw [List.getElem?_append_left h2]; exact h1
      · refine ⟨hr.os, hr.tape, hr.output, ?_, hr.fr, ⟨?_, hr.mf.2.mono fun b' o ho => ?_⟩, ?_, ?_, ?_, ?_⟩
        · intro b' o ho
          by_cases hb : b' = b
          · subst hb; rw [if_pos rfl] at ho; cases ho; exact e2
          · rw [if_neg hb] at ho; exact hr.im b' o ho
        · intro b' o ho
          have : b' ≠ b := fun e => by subst e; rw [s2] at ho; cases ho
          simp only [if_neg this]; exact hr.mf.1 b' o ho
        · have : b' ≠ b := fun e => by subst e; rw [s1] at ho; cases ho
          simp only [if_neg this]; exact ho
        · intro j B' hB'
          by_cases hj : j = k
          · subst hj; rw [hgk] at hB'; cases hB'; trivial
          · rw [hge j hj] at hB'; rw [hvs]
            exact (hr.bl j B' hB').mono ⟨fun b' o ho => by
              have : b' ≠ b := fun e => by subst e; rw [s1] at ho; cases ho
              simp only [if_neg this]; exact ho, fun _ _ h => h, fun _ _ _ => rfl⟩ (fun _ _ => rfl) (fun _ _ => rfl)
        · rw [hvs]; exact hr.nn
        · intro j b' hb
          obtain ⟨h1, h2⟩ := hblk j b' hb
          have : b' ≠ b := fun e => by subst e; exact h1 (hr.inj j k _ h2 hat)
          simp only [if_neg this]; exact hr.sp j b' h2
        · intro i j b' h1 h2; exact hr.inj i j b' (hblk i b' h1).2 (hblk j b' h2).2
      · rintro b' ⟨B', hB', hb⟩
        rw [hk] at hB'; cases hB'
        obtain ⟨_, c2, hb⟩ := hb
        rw [e1] at hb; cases hb
        exact ⟨_, by simp, e2⟩
      · intro b'
        by_cases hb : b' = b
        · right; subst hb; exact hat
        · left; simp only [if_neg hb]
  obtain ⟨m1, a, cp, k1, k2, k3, k4, k5, k6⟩ := key
  have hargs : denL E (A ++ .sl k ver off len cap dc :: B) = denL E (A ++ .imm α d n enc xs a cp :: B) := by
    rw [denL_append, denL_append]
    congr 1
    simp only [denL]
    congr 1
  rw [hargs]
  have haX : OkA m1 (vers (H.set k (.gone ver))) (A ++ .imm α d n enc xs a cp :: B) := by
    rw [hvs]
    refine OkA_append (OkA.mono k1 A _ _ (fun _ _ h => h) haA) ?_
    simp only [OkA]
    exact ⟨⟨rfl, k3⟩, OkA.mono k1 B _ _ (fun _ _ h => h) haB⟩
  refine hX _ _ _ _ ((h a cp).out C E m1 w k4 haX) ?_
  rintro v w' ⟨r, H', E', m2, rfl, ⟨hKr, rfl⟩, ⟨hok', hl⟩, hx, hrel⟩
  rw [hvs] at hx
  have hEk : ∀ b, BlkAt E' H k b ↔ BlkAt E H k b := fun b => by
    have hE : ver ≠ 0 → E' k ver = E k ver := fun hz => hx.ee k ver haS'.1.2.1
    constructor
    · rintro ⟨B', hB', hb⟩
      rw [hk] at hB'; cases hB'
      obtain ⟨h1, c, h2⟩ := hb
      rw [hE h1] at h2
      exact ⟨_, hk, h1, c, h2⟩
    · rintro ⟨B', hB', hb⟩
      rw [hk] at hB'; cases hB'
      obtain ⟨h1, c, h2⟩ := hb
      rw [← hE h1] at h2
      exact ⟨_, hk, h1, c, h2⟩
  have hcases : ∀ j b, BlkAt E' H j b → (j = k ∧ BlkAt E H k b) ∨ (j ≠ k ∧ BlkAt E' (H.set k (.gone ver)) j b) := by
    intro j b hb
    by_cases hj : j = k
    · left; subst hj; exact ⟨rfl, (hEk b).1 hb⟩
    · right
      obtain ⟨B', hB', hb⟩ := hb
      exact ⟨hj, B', by rw [hge j hj]; exact hB', hb⟩
  refine ⟨r, H, E', m, rfl, ⟨hKr, rfl⟩, ⟨pl_ok r (hK r hKr) hok', hl⟩, ⟨fun _ _ h => h, fun _ _ h => h, hx.ee⟩, ?_⟩
  refine ⟨hrel.os, hrel.tape, hrel.output, fun b o ho => hrel.im b o (hx.mm b o (k1 b o ho)), hrel.fr, hr.mf, ?_, ?_, ?_, ?_⟩
  · intro j B' hB'
    by_cases hj : j = k
    · subst hj
      rw [hk] at hB'; cases hB'
      refine hbl.mono ⟨fun _ _ h => h, fun _ _ h => h, hx.ee⟩ (fun v hv => ?_) (fun b hb => ?_)
      · simp only [SB.lim, Nat.add_right_cancel_iff] at hv
        subst hv
        exact hx.ee j _ haS'.1.2.1
      · obtain ⟨o, o1, o2⟩ := k5 b ⟨_, hk, hb⟩
        rw [o2]
        exact hrel.im b o (hx.mm b o o1)
    · have h1 := hrel.bl j B' (by rw [hge j hj]; exact hB')
      rw [hvs] at h1
      have h2 := (hr.bl j B' hB').okOf
      exact h1.mem h2.1 h2.2
  · have := hrel.nn; rw [hvs] at this; exact this
  · intro j b hb
    rcases hcases j b hb with ⟨rfl, h1⟩ | ⟨hj, h1⟩
    · exact hr.sp _ b h1
    · obtain ⟨s1, s2⟩ := hrel.sp j b h1
      refine ⟨?_, s2⟩
      cases hm : m b with
      | none => rfl
      | some o => rw [hx.mm b o (k1 b o hm)] at s1; cases s1
  · have hne : ∀ j b, BlkAt E H k b → ¬ BlkAt E' (H.set k (.gone ver)) j b := fun j b h1 h2 => by
      obtain ⟨o, o1, _⟩ := k5 b h1
      have := (hrel.sp j b h2).1
      rw [hx.mm b o o1] at this; cases this
    intro i j b h1 h2
    rcases hcases i b h1 with ⟨rfl, g1⟩ | ⟨hi, g1⟩ <;> rcases hcases j b h2 with ⟨rfl, g2⟩ | ⟨hj, g2⟩
    · rfl
    · exact absurd g2 (hne j b g1)
    · exact absurd g1 (hne i b g2)
    · exact hrel.inj i j b g1 g2
theorem Cp.freezeV {X : List Value → World → (Value → World → Prop) → Prop} (hX : XMono X) {A B : List SV} {α : Type} {d : α} {n : Nat} {enc : α → List SV} {xs : List α} {k ver off len : Nat} {cap : Option Nat} {dc : Nat} {H : List SB} {ty : TypeId} {segs : List SV} {gw : Nat} {r : SV}
    (hk : H[k]? = some (.mem ty segs ver gw)) (hlen : xs.length = len) (hw : ∀ x, wdL (enc x) = n) (hok : ∀ x m, OkL m [] (enc x))
    (hc : ∀ E j, j < len → ∀ u c, (cellsL E0 (enc (xs.getD j d)))[u]? = some c → (cellsL E segs)[off + j * n + u]? = some c)
    (hcap : match cap with | some c => len ≤ c | none => n = gw ∧ 0 < gw ∧ off = dc * n ∧ off + len * n ≤ wdL segs)
    (hA : nmL A = true) (hB : nmL B = true) (hr : pl r = true)
    (h : ∀ a cap, Cp X (A ++ .imm α d n enc xs a cap :: B) [] (fun r' h => r' = r ∧ h = [])) :
    Cp X (A ++ .sl k ver off len cap dc :: B) H (fun r' h => r' = r ∧ h = H) :=
  Cp.freeze hX (K := fun r' => r' = r) hk hlen hw hok hc hcap (fun r' e => by rw [e]; exact hr) fun a cp => Cp.anywhere hX (h a cp) (nmL_append hA (by simp only [nmL, nm, hB, Bool.and_self])) _
theorem cells_arr {α : Type} {d : α} {n : Nat} {enc : α → List SV} {ys : List α} {N : Nat} (hw : ∀ x, wdL (enc x) = n) (hok : ∀ x m, OkL m [] (enc x)) (E : Env) {j : Nat} (hj : j < N) {u : Nat} {c : Value} (hu : (cellsL E0 (enc (ys.getD j d)))[u]? = some c) :
    (cellsL E [.arr N α d n enc ys])[j * n + u]? = some c := by
  have hst : ∀ x, cellsL E (enc x) = cellsL E0 (enc x) := fun x => cellsL_stable (m := fun _ => none) (V := []) (fun k v hv => (Vle_nil hv).elim) _ (hok x _)
  have hln : ∀ x, (cellsL E0 (enc x)).length = n := fun x => by rw [length_cellsL E0 _ [] (hok x (fun _ => none)), hw]
  simp only [cellsL, cells, List.append_nil]
  have hun : u < n := by have := (List.getElem?_eq_some_iff.1 hu).1; rwa [hln] at this
  clear hw
  revert j ys
  induction N with
  | zero => intro ys j hj; omega
  | succ N ih =>
    intro ys j hj hu
    rw [List.range_succ_eq_map, List.flatMap_cons, List.flatMap_map, hst]
    cases j with
    | zero =>
      rw [Nat.zero_mul, Nat.zero_add, List.getElem?_append_left (by rw [hln]; exact hun)]
      exact hu
    | succ j =>
      rw [List.getElem?_append_right (by rw [hln, Nat.succ_mul]; omega), hln]
      have := ih (ys := ys.drop 1) (j := j) (by omega) (by
        rw [← hu]; congr 3; simp [List.getD_eq_getElem?_getD, List.getElem?_drop, Nat.add_comm])
      rw [show (j + 1) * n + u - n = j * n + u by rw [Nat.succ_mul]; omega, ← this]
      congr 1
      rw [List.flatMap_def, List.flatMap_def]
      congr 1
      apply List.map_congr_left
      intro i _
      simp only [hst]
      simp [List.getD_eq_getElem?_getD, List.getElem?_drop, Nat.add_comm]
theorem Ctr.frz {P : Program} {f : FuncId} {A B : List SV} {α : Type} {d : α} {n : Nat} {enc : α → List SV} {ys xs : List α} {k ver off i N len : Nat} {cap : Option Nat} {dc : Nat} {H : List SB} {ty : TypeId} {gw : Nat} {r : SV}
    (hk : H[k]? = some (.mem ty [.arr N α d n enc ys] ver gw)) (hx : xs = (ys.drop i).take len) (hi : i + len ≤ N) (hN : ys.length = N) (ho : off = i * n) (hw : ∀ x, wdL (enc x) = n) (hok : ∀ x m, OkL m [] (enc x))
    (hcap : match cap with | some c => len ≤ c | none => n = gw ∧ 0 < gw ∧ i = dc)
    (hA : nmL A = true) (hB : nmL B = true) (hr : pl r = true)
    (h : ∀ a cap, CtrV P f (A ++ .imm α d n enc xs a cap :: B) r) :
    Ctr P f (A ++ .sl k ver off len cap dc :: B) H (fun r' h => r' = r ∧ h = H) := by
  subst hx ho
  refine Cp.freezeV callX_m hk (by simp; omega) hw hok ?_ ?_ hA hB hr h
  · intro E j hj u c hu
    rw [← Nat.add_mul]
    refine cells_arr hw hok E (by omega) ?_
    rw [← hu]
    congr 3
    simp [List.getD_eq_getElem?_getD, List.getElem?_take, hj, List.getElem?_drop]
  · cases cap with
    | some c => exact hcap
    | none =>
      obtain ⟨h1, h2, h3⟩ := hcap
      refine ⟨h1, h2, by rw [h3], ?_⟩
      simp only [wdL, wd, Nat.add_zero]
      rw [← Nat.add_mul]
      exact Nat.mul_le_mul_right _ hi
end SX
end Go.Proofs.YtlgjjklikbpcoaaGreatDoor

/- SX: append to an empty slice that was just made: a row, whatever is appended. -/
set_option linter.unusedVariables false
set_option linter.unusedSimpArgs false
namespace Go.Proofs.YtlgjjklikbpcoaaGreatDoor
namespace SX
open Go

theorem Rel.forget {E C m H w} (h : Rel E C m H w) {k ver g : Nat} {ty : TypeId} {segs : List SV} (hk : H[k]? = some (.mem ty segs ver g)) : Rel E C m (H.set k (.gone ver)) w := by
  have hvs : vers (H.set k (.gone ver)) = vers H := vers_set (B' := .gone ver) hk rfl
  have hkl : k < H.length := (List.getElem?_eq_some_iff.1 hk).1
  have hgk : (H.set k (.gone ver))[k]? = some (.gone ver) := by simp [List.getElem?_set, hkl]
  have hge : ∀ j, j ≠ k → (H.set k (.gone ver))[j]? = H[j]? := fun j hj => List.getElem?_set_ne (Ne.symm hj)
  have hblk : ∀ j b, BlkAt E (H.set k (.gone ver)) j b → BlkAt E H j b := by
    rintro j b ⟨B', hB', hb⟩
    by_cases hj : j = k
    · subst hj; rw [hgk] at hB'; cases hB'; exact hb.elim
    · rw [hge j hj] at hB'; exact ⟨B', hB', hb⟩
  refine ⟨h.os, h.tape, h.output, h.im, h.fr, h.mf, ?_, ?_, fun j b hb => h.sp j b (hblk j b hb), fun i j b h1 h2 => h.inj i j b (hblk i b h1) (hblk j b h2)⟩
  · intro j B' hB'
    by_cases hj : j = k
    · subst hj; rw [hgk] at hB'; cases hB'; trivial
    · rw [hge j hj] at hB'; rw [hvs]; exact h.bl j B' hB'
  · rw [hvs]; exact h.nn
theorem Rel.move {E C m H w} (h : Rel E C m H w) {k p g : Nat} {ty : TypeId} {segs segs' : List SV} (hk : H[k]? = some (.mem ty segs 1 0)) (hp : H[p]? = some .fresh) (hz : ∀ E, cellsL E segs = []) (hz' : ∀ E, cellsL E segs' = []) (hok : OkL m (vers H) segs') :
    ∃ E' b c, E k 1 = some (b, c) ∧ E' p 1 = some (b, 0) ∧ Ext E m (vers H) E' m (vers ((H.set k (.gone 1)).set p (.mem ty segs' 1 (g + 1)))) ∧ Rel E' C m ((H.set k (.gone 1)).set p (.mem ty segs' 1 (g + 1))) w := by
  have hpk : p ≠ k := fun e => by subst e; rw [hk] at hp; cases hp
  have hbl := h.bl k _ hk
  obtain ⟨_, b, c, e1, e2, _⟩ := hbl
  have hkl : k < H.length := (List.getElem?_eq_some_iff.1 hk).1
  have hpl : p < H.length := (List.getElem?_eq_some_iff.1 hp).1
  generalize hH' : (H.set k (.gone 1)).set p (.mem ty segs' 1 (g + 1)) = H'
  have gp : H'[p]? = some (.mem ty segs' 1 (g + 1)) := by rw [← hH']; simp [List.getElem?_set, hpl]
  have gk : H'[k]? = some (.gone 1) := by rw [← hH', List.getElem?_set_ne hpk]; simp [List.getElem?_set, hkl]
  have ge : ∀ j, j ≠ k → j ≠ p → H'[j]? = H[j]? := fun j h1 h2 => by rw [← hH', List.getElem?_set_ne (Ne.symm h2), List.getElem?_set_ne (Ne.symm h1)]
  have hvp : ∀ v, ¬ Vle (vers H) p v := fun v hv => by
    obtain ⟨B', hB', hl⟩ := Vle_iff.1 hv
    rw [hp] at hB'; cases hB'; simp [SB.lim] at hl
  have hx : Ext E m (vers H) (E.upd p 1 (b, 0)) m (vers H') := by
    refine ⟨fun _ _ h => h, fun j v hv => ?_, fun j v hv => Env.upd_ne _ _ fun e => hvp v (e.1 ▸ hv)⟩
    have hj : j ≠ p := fun e => hvp v (e ▸ hv)
    obtain ⟨B', hB', hl⟩ := Vle_iff.1 hv
    by_cases hjk : j = k
    · subst hjk
      rw [hk] at hB'; cases hB'
      exact Vle_iff.2 ⟨_, gk, by simpa [SB.lim] using hl⟩
    · exact Vle_iff.2 ⟨B', by rw [ge j hjk hj]; exact hB', hl⟩
  have hat : BlkAt E H k b := ⟨_, hk, by omega, c, e1⟩
  have hblk : ∀ j b', BlkAt (E.upd p 1 (b, 0)) H' j b' → (j = p ∧ b' = b) ∨ (j ≠ p ∧ j ≠ k ∧ BlkAt E H j b') := by
    rintro j b' ⟨B', hB', hb⟩
    by_cases hj : j = p
    · left
      subst hj
      rw [gp] at hB'; cases hB'
      obtain ⟨_, c', hc⟩ := hb
      rw [Env.upd_same] at hc; cases hc
      exact ⟨rfl, rfl⟩
    · right
      by_cases hjk : j = k
      · subst hjk; rw [gk] at hB'; cases hB'; exact hb.elim
      · rw [ge j hjk hj] at hB'
        refine ⟨hj, hjk, B', hB', ?_⟩
        cases B' with
        | mem t segs ver gr => obtain ⟨h0, c, he⟩ := hb; rw [Env.upd_ne _ _ (fun e => hj e.1)] at he; exact ⟨h0, c, he⟩
        | mp kv ver => obtain ⟨c, he⟩ := hb; rw [Env.upd_ne _ _ (fun e => hj e.1)] at he; exact ⟨c, he⟩
        | gone v => exact hb
        | fresh => exact hb
  refine ⟨E.upd p 1 (b, 0), b, c, e1, Env.upd_same .., hx, h.os, h.tape, h.output, h.im, h.fr, h.mf, ?_, ?_, ?_, ?_⟩
  · intro j B' hB'
    by_cases hj : j = p
    · subst hj
      rw [gp] at hB'; cases hB'
      refine ⟨OkL.mono (fun _ _ h => h) _ _ _ hx.vv hok, fun e => by omega, fun _ => ⟨b, 0, [], Env.upd_same .., ?_, ?_, Nat.zero_le _⟩⟩
      · rw [e2, hz, hz']; rfl
      · rw [hz']; simp
    · by_cases hjk : j = k
      · subst hjk; rw [gk] at hB'; cases hB'; trivial
      · rw [ge j hjk hj] at hB'
        exact (h.bl j B' hB').mono hx (fun v _ => Env.upd_ne _ _ fun e => hj e.1) (fun _ _ => rfl)
  · intro j v hv h0
    obtain ⟨B', hB', hl⟩ := Vle_iff.1 hv
    by_cases hj : j = p
    · subst hj
      rw [gp] at hB'; cases hB'
      have : v = 1 := by simp [SB.lim] at hl; omega
      subst this
      exact ⟨b, 0, Env.upd_same ..⟩
    · rw [Env.upd_ne _ _ fun e => hj e.1]
      by_cases hjk : j = k
      · subst hjk
        rw [gk] at hB'; cases hB'
        exact h.nn j v (Vle_iff.2 ⟨_, hk, by simpa [SB.lim] using hl⟩) h0
      · rw [ge j hjk hj] at hB'
        exact h.nn j v (Vle_iff.2 ⟨B', hB', hl⟩) h0
  · intro j b' hb
    rcases hblk j b' hb with ⟨_, rfl⟩ | ⟨_, _, h1⟩
    · exact h.sp k _ hat
    · exact h.sp j b' h1
  · intro i j b' h1 h2
    rcases hblk i b' h1 with ⟨rfl, rfl⟩ | ⟨a1, a2, a3⟩ <;> rcases hblk j _ h2 with ⟨rfl, e⟩ | ⟨b1, b2, b3⟩
    · rfl
    · exact absurd (h.inj j k _ b3 hat) b2
    · subst e; exact absurd (h.inj i k _ a3 hat) a2
    · exact h.inj i j b' a3 b3
section
variable {P : Program} {T : Tb} {ops : Array Oper} {o : Oper}
def litE (o : Oper) (k p n g : Nat) (e : TypeId) (segs : List SV) (rb : List Nat) : Eff := ⟨o.dst, .sl p 1 0 n none 0, readsOf o [], k :: p :: rb, [(k, .gone 1), (p, .mem e segs 1 (g + 1))]⟩
theorem yld_app_lit (hT : TabOk P T) {t : List SV} {h : List SB} {s x : Operand} {ty tx e : TypeId} (hop : o.op = .call { callee := .builtin .append, args := #[s, x], argTypes := #[ty, tx] }) (hg : guardOf ops t o = some []) {ti te : TI} (ht : T ty = some ti) (hk : ti.k = .slice e) (hte : T e = some te) {g : Nat} (hsz : te.size = g + 1)
    {k dc n : Nat} {segs0 news segs' : List SV} {rb2 : List Nat} (hb : evG [] t s = .sl k 1 0 0 (some 0) dc) (hh : h[k]? = some (.mem e segs0 1 0)) (hz : ∀ E, cellsL E segs0 = []) (hs : SrcA T t h x tx te.size n news rb2) {p : Nat} (hp : h[p]? = some .fresh) (hj : Joins [] news segs') (h63 : n ≤ maxLen) (hby : n * te.bytes ≤ 140737488355328) :
    Yld P ops o (litE o k p n g e segs' rb2) ⟨t, h⟩ := by
  refine ⟨fun S' hl1 hl2 h1 h2 h3 C E m a w hr => ?_⟩
  have hpk : p ≠ k := fun e => by subst e; rw [hh] at hp; cases hp
  have hlk : Like (readsOf o []) t S'.t := h1
  have hops := readsOf_op hlk
  rw [hop] at hops
  have es : evG [] S'.t s = evG [] t s := evG_of (hops s (by simp [Op.operands, Call.operands]))
  have ex : evG [] S'.t x = evG [] t x := evG_of (hops x (by simp [Op.operands, Call.operands]))
  have hh2 : S'.h[k]? = some (.mem e segs0 1 0) := by rw [h2 k (by simp [litE])]; exact hh
  have hp2 : S'.h[p]? = some .fresh := by rw [h2 p (by simp [litE])]; exact hp
  by_cases hn : n = 0
  · subst hn
    obtain ⟨t', h'⟩ := S'
    have hs' := hs.like (t' := t') (h' := h') ex fun k hk => h2 k (by simp [litE, hk])
    have hg' := guardOf_like hg (readsOf_g hlk)
    unfold opW
    rw [show Region.wanted o (yielded ops a.tmps) = true by simp [Region.wanted, guard_none hg'], if_pos rfl]
    obtain ⟨s1, s2⟩ := hs'.ok hT hr
    obtain ⟨g0, e0⟩ := (hr.evs .nil).live (o := s) (by rw [es, hb]; rfl)
    rw [es, hb] at g0 e0
    have hti := hT.ti ty ti ht
    obtain ⟨i, z, hi, hsi, _⟩ := (hT.ti e te hte).inf
    have hnil : ∀ E', cellsL E' news = [] := fun E' => by
      have h5 := length_cellsL E _ _ s2
      have h6 := s1.newsLen
      rw [Nat.zero_mul] at h6
      rw [h6] at h5
      exact List.eq_nil_of_length_eq_zero (by rw [length_cellsL E' _ _ s2]; exact h5.symm)
    have hz' : ∀ E, cellsL E segs' = [] := fun E => by rw [hj.cells, hnil]; rfl
    have hok := hj.ok m (vers h') trivial s2
    obtain ⟨E', b, c, k1, k2, k3, k4⟩ := hr.rel.move (g := g) hh2 hp2 hz hz' hok
    have hval : den E (.sl k 1 0 0 (some 0) dc) = .slice (some ⟨b, 0, none⟩) 0 0 := by simp [den, wrapV, cells, k1]
    rw [hnil E, ← hsi] at s1
    have hr0 := run_append_zero (P := P) w ty tx o.type e i (hti.slice hk) hi (some ⟨b, 0, none⟩) 0 0 (a.eval x) s1 (Nat.le_refl _)
    have hrun : (execOp a.eval o).run P w = .ok (.value (.slice (some ⟨b, 0, none⟩) 0 0)) w := by
      simp only [execOp, hop, resolve, invoke, builtin, Sem.run_bind, Sem.run_pure, Result.andThen_ok, List.map_toArray, List.map_cons, List.map_nil, e0, hval, hr0]
    simp only [Oper.wp, hrun, Oper.upon]
    refine ⟨E', m, k3, ?_⟩
    have hlt : p < h'.length := (List.getElem?_eq_some_iff.1 hp2).1
    have := (hr.up k3 k4).put o.dst (x := .sl p 1 0 0 none 0) (v := .slice (some ⟨b, 0, none⟩) 0 0) fun d hd => by
      have hv : Value.slice (some ⟨b, 0, none⟩) 0 0 = den E' (.sl p 1 0 0 none 0) := by simp [den, wrapV, cells, k2]
      rw [hv]
      exact SlotOk_live ⟨by simp only [Ok]; exact ⟨Vle_iff.2 ⟨.mem e segs' 1 (g + 1), by simp [List.getElem?_set, hlt], by simp [SB.lim]⟩, fun e => by omega⟩, rfl⟩
    have hpc : putF t' o.dst (.sl p 1 0 0 none 0) = setT t' o.dst (.sl p 1 0 0 none 0) := putF_clean h3
    simp only at this
    rw [hpc] at this
    exact this
  · have hy := yld_app_new hT (o := o) (ops := ops) hop hg ht hk hte hsz (BaseA.sl0 (sz := te.size) hb) hs hp hj (by omega) (by rw [Nat.zero_add]; exact h63) (by rw [Nat.zero_add]; exact hby)
    have hyo := hy.out S' hl1 hl2 h1 (fun j hj => h2 j (by
      simp only [appE, List.nil_append] at hj
      simp only [litE]
      exact List.mem_cons_of_mem _ hj)) (by simpa [appE, litE] using h3) C E m a w hr
    have next : ∀ a' w', (∃ E' m', Ext E m (vers S'.h) E' m' (vers ((appE o p 0 n g e segs' ([] ++ rb2)).put S').h) ∧ Rep E' C m' ((appE o p 0 n g e segs' ([] ++ rb2)).put S') a' w') →
        ∃ E' m', Ext E m (vers S'.h) E' m' (vers ((litE o k p n g e segs' rb2).put S').h) ∧ Rep E' C m' ((litE o k p n g e segs' rb2).put S') a' w' := by
      rintro a' w' ⟨E', m', k1, k2⟩
      have e1 : ((litE o k p n g e segs' rb2).put S') = ⟨((appE o p 0 n g e segs' ([] ++ rb2)).put S').t, ((appE o p 0 n g e segs' ([] ++ rb2)).put S').h.set k (.gone 1)⟩ := by
        simp only [Eff.put, litE, appE, setB, Nat.zero_add, St.mk.injEq, true_and]
        rw [List.set_comm _ _ (Ne.symm hpk)]
      have e2 : ((appE o p 0 n g e segs' ([] ++ rb2)).put S').h[k]? = some (.mem e segs0 1 0) := by
        simp only [Eff.put, appE, setB]
        rw [List.getElem?_set_ne hpk]; exact hh2
      have e3 : vers (((appE o p 0 n g e segs' ([] ++ rb2)).put S').h.set k (.gone 1)) = vers ((appE o p 0 n g e segs' ([] ++ rb2)).put S').h := vers_set (B' := .gone 1) e2 rfl
      rw [e1]
      refine ⟨E', m', by simp only; rw [e3]; exact k1, ?_⟩
      refine k2.up ?_ (k2.rel.forget e2)
      rw [e3]; exact .refl ..
    unfold opW at hyo ⊢
    split
    · rename_i hw
      rw [if_pos hw] at hyo
      exact wp_onlyN hyo next
    · rename_i hw
      rw [if_neg hw] at hyo
      exact next _ _ hyo
end
end SX
end Go.Proofs.YtlgjjklikbpcoaaGreatDoor

/- SX: calls that hand back a value and leave what is tracked as it was. -/
set_option linter.unusedVariables false
set_option linter.unusedSimpArgs false
namespace Go.Proofs.YtlgjjklikbpcoaaGreatDoor
namespace SX
open Go
theorem setB_same {ρ : Nat → Nat} {H Hc : List SB} (hinj : ∀ a b, a < H.length → b < H.length → ρ a = ρ b → a = b) (hg : ∀ (j : Nat) (B : SB), H[j]? = some B → Hc[ρ j]? = some (renB ρ B)) : setB Hc (zipB ρ H 0) = Hc := by
  apply List.ext_getElem?
  intro k
  by_cases hk : ∃ j, j < H.length ∧ ρ j = k
  · obtain ⟨j, hj, rfl⟩ := hk
    have h1 := hg j _ (List.getElem?_eq_getElem hj)
    have := zip_get (ρ := ρ) (H := H) (Hc := Hc) (i := 0) (j := j) (fun a b ha hb e => hinj a b ha hb (by simpa using e)) (List.getElem?_eq_getElem hj) (by simpa using (List.getElem?_eq_some_iff.1 h1).1)
    simp only [Nat.zero_add] at this
    rw [this, h1]
  · exact zip_other fun j hj e => hk ⟨j, hj, by simpa using e⟩
theorem Ctr.spread {P : Program} {f : FuncId} {args0 : List SV} {H0 : List SB} {v : SV} (hc : Ctr P f args0 H0 (fun r h => r = v ∧ h = H0)) (hv : ∀ ρ, ren ρ v = v) (Hc : List SB) (ks : List Nat) (hnd : nodupB ks = true) (hks : ks.length = H0.length) (hH : Lent (rho ks Hc.length) Hc H0 0)
    {args : List SV} (ha : renL (rho ks Hc.length) args0 = args) : Ctr P f args Hc (fun r h => r = v ∧ h = Hc) := by
  subst ha
  have h1 := Cp.lend callX_m hc Hc ks [] (by rw [List.append_nil]; exact hnd) hks (by rw [List.append_nil]; exact hH) rfl (fun r H' hk => by rw [hk.2, List.append_nil]; exact ⟨Nat.le_refl _, by omega⟩)
  rw [List.append_nil] at h1
  refine h1.mono callX_m ?_
  rintro r h ⟨r0, H', ⟨rfl, rfl⟩, rfl, rfl⟩
  refine ⟨hv _, setB_same ?_ ?_⟩
  · have hnd' := nodupB_ok hnd
    intro a b ha hb e
    rw [← hks] at ha hb
    have h2 : ks[a]? = some (rho ks Hc.length a) := by simp only [rho, List.getD_eq_getElem?_getD, List.getElem?_eq_getElem ha, Option.getD_some]
    have h3 : ks[b]? = some (rho ks Hc.length b) := by simp only [rho, List.getD_eq_getElem?_getD, List.getElem?_eq_getElem hb, Option.getD_some]
    rw [e, ← h3] at h2
    exact (List.getElem?_inj ha hnd').1 h2
  · have := Lent_get hH
    simpa only [Nat.zero_add] using this
theorem Joins.arrN {α : Type} {d : α} {n N : Nat} {enc : α → List SV} {xs : List α} {y : α} {new : List SV} (hN : xs.length = N) (hn : new = enc y) (hw : ∀ x, wdL (enc x) = n) : Joins [.arr N α d n enc xs] new [.arr (N + 1) α d n enc (xs ++ [y])] := by
  subst hN
  have := Joins.arr (d := d) (xs := xs) hn hw
  rwa [List.length_append, List.length_singleton] at this
section
variable {P : Program} {T : Tb} {ops : Array Oper} {o : Oper}
theorem OpC.callG {K : St → Prop} {t : List SV} {h : List SB} {c : Call} (hop : o.op = .call c) {fo : Operand} (hcal : c.callee = .value fo) {p : List (Nat × Bool)} (hg : guardOf ops t o = some p) {f : FuncId} {fst caps : List SV} (hf : calB (evG p t fo) = some (f, fst, caps))
    {args : List SV} (ha : fst ++ (c.args.toList.map (evG p t) ++ caps) = args) (hl : (c.args.toList.map (evG p t)).all live = true) {r : SV} (hc : gB t p = true → Ctr P f args h (fun r' h' => r' = r ∧ h' = h)) (hK : putK t h o.dst (wrapG p o.dst r) K) : OpC P T ops o K ⟨t, h⟩ := by
  subst ha
  rw [putK_eq] at hK
  refine ⟨fun C E m a w hr => ?_⟩
  obtain ⟨g, hgv, hw⟩ := guardOf_spec hr hg
  unfold opW
  rw [hw]
  cases g with
  | true =>
    simp only [if_true]
    refine wp_call hop hcal hr hgv hf hl rfl (hc (GV_gB hgv)) ?_
    rintro r' H' E' m' w' ⟨rfl, rfl⟩ k2 k3 k4
    have := (hr.up k3 k4).putG (o := o) hgv (x := r') (v := den E' r') (fun _ => .inr ⟨k2, rfl⟩) (fun h => by cases h)
    exact ⟨E', m', _, hK, k3, this⟩
  | false =>
    simp only [Bool.false_eq_true, if_false]
    exact ⟨E, m, _, hK, .refl .., hr.putG (x := r) hgv (fun h => by cases h) (fun _ => rfl)⟩
theorem OpD.yld {n : Nat} {K : Eff → Nat → St → Prop} {S : St} {e : Eff} (n' : Nat) (hd : e.d = o.dst) (hv : hang e.v = []) (hw : ∀ k ∈ wN e.wb, k ∈ e.rb) (hy : Yld P ops o e S) (hK : K e n' (e.put S)) : OpD P ops o n K S :=
  ⟨e, n', hd, hy, (by rw [hv]; intro k hk; cases hk), hw, hK⟩
end
end SX
end Go.Proofs.YtlgjjklikbpcoaaGreatDoor

/- SX: a row that is not written any more stays as it is. -/
set_option linter.unusedVariables false
set_option linter.unusedSimpArgs false
namespace Go.Proofs.YtlgjjklikbpcoaaGreatDoor
namespace SX
open Go

section
variable {α : Type} {d : α} {n : Nat} {enc : α → List SV} {xs : List α}
structure Lies (m : Mem) (E : Env) (k ver N n : Nat) (α : Type) (enc : α → List SV) (xs : List α) (d : α) (b c : Nat) : Prop where
  e : E k ver = some (b, c)
  le : N ≤ c
  im : ∃ arr ty fr, m b = some (.cells arr ty fr) ∧ ∀ j, j < N → ∀ u v, (cellsL E0 (enc (xs.getD j d)))[u]? = some v → arr[j * n + u]? = some v
theorem still_base {E C m t h a w} (hr : Rep E C m ⟨t, h⟩ a w) {k ver N g : Nat} {ty : TypeId} (hk : h[k]? = some (.mem ty [.arr N α d n enc xs] ver (g + 1))) (hn : n = g + 1) (hv : ver ≠ 0) (hw : ∀ x, wdL (enc x) = n) (hok : ∀ x m, OkL m [] (enc x)) :
    ∃ m' b c, Ext E m (vers h) E m' (vers (h.set k (.gone ver))) ∧ Rep E C m' ⟨t, h.set k (.gone ver)⟩ a w ∧ Lies m' E k ver N n α enc xs d b c := by
  have hvs : vers (h.set k (.gone ver)) = vers h := vers_set (B' := .gone ver) hk rfl
  have hkl : k < h.length := (List.getElem?_eq_some_iff.1 hk).1
  have hgk : (h.set k (.gone ver))[k]? = some (.gone ver) := by simp [List.getElem?_set, hkl]
  have hge : ∀ j, j ≠ k → (h.set k (.gone ver))[j]? = h[j]? := fun j hj => List.getElem?_set_ne (Ne.symm hj)
  have hblk : ∀ j b, BlkAt E (h.set k (.gone ver)) j b → j ≠ k ∧ BlkAt E h j b := by
    rintro j b ⟨B', hB', hb⟩
    by_cases hj : j = k
    · subst hj; rw [hgk] at hB'; cases hB'; exact hb.elim
    · rw [hge j hj] at hB'; exact ⟨hj, B', hB', hb⟩
  obtain ⟨o1, _, o3⟩ := hr.rel.bl k _ hk
  obtain ⟨b, c, sp, e1, e2, e3, _⟩ := o3 hv
  have hat : BlkAt E h k b := ⟨_, hk, hv, c, e1⟩
  obtain ⟨s1, s2⟩ := hr.rel.sp k b hat
  have hm1 : ∀ b' o, m b' = some o → (fun b' => if b' = b then some (.cells (cellsL E [.arr N α d n enc xs] ++ sp).toArray ty (0, 0)) else m b') b' = some o := fun b' o ho => by
    have : b' ≠ b := fun e => by subst e; rw [s1] at ho; cases ho
    simp only [if_neg this]; exact ho
  have hx : Ext E m (vers h) E (fun b' => if b' = b then some (.cells (cellsL E [.arr N α d n enc xs] ++ sp).toArray ty (0, 0)) else m b') (vers (h.set k (.gone ver))) := ⟨hm1, fun _ _ h => by rw [hvs]; exact h, fun _ _ _ => rfl⟩
  refine ⟨_, b, c, hx, hr.up hx ?_, e1, ?_, _, _, _, if_pos rfl, ?_⟩
  · refine ⟨hr.rel.os, hr.rel.tape, hr.rel.output, ?_, hr.rel.fr, ⟨?_, hr.rel.mf.2.mono hm1⟩, ?_, ?_, ?_, ?_⟩
    · intro b' o ho
      by_cases hb : b' = b
      · subst hb; simp only [if_true] at ho; cases ho; exact e2
      · simp only [if_neg hb] at ho; exact hr.rel.im b' o ho
    · intro b' o ho
      have : b' ≠ b := fun e => by subst e; rw [s2] at ho; cases ho
      simp only [if_neg this]; exact hr.rel.mf.1 b' o ho
    · intro j B' hB'
      by_cases hj : j = k
      · subst hj; rw [hgk] at hB'; cases hB'; trivial
      · rw [hge j hj] at hB'
        exact (hr.rel.bl j B' hB').mono hx (fun _ _ => rfl) (fun _ _ => rfl)
    · rw [hvs]; exact hr.rel.nn
    · intro j b' hb
      obtain ⟨h1, h2⟩ := hblk j b' hb
      have : b' ≠ b := fun e => by subst e; exact h1 (hr.rel.inj j k _ h2 hat)
      simp only [if_neg this]; exact hr.rel.sp j b' h2
    · intro i j b' h1 h2; exact hr.rel.inj i j b' (hblk i b' h1).2 (hblk j b' h2).2
  · have h6 := length_cellsL E [.arr N α d n enc xs] _ o1
    simp only [wdL, wd, Nat.add_zero] at h6
    have h7 : N * n ≤ c * n := by
      have h8 : N * n ≤ c * (g + 1) := by omega
      rwa [← hn] at h8
    exact Nat.le_of_mul_le_mul_right h7 (by omega)
  · intro j hj u v hu
    have h1 := cells_arr (d := d) (ys := xs) hw hok E hj hu
    simp only [List.getElem?_toArray]
    rw [List.getElem?_append_left (List.getElem?_eq_some_iff.1 h1).1]
    exact h1
theorem still_slot {E C m t h a w} (hr : Rep E C m ⟨t, h⟩ a w) {k ver N b c : Nat} (hL : Lies m E k ver N n α enc xs d b c) (hN : xs.length = N) (hw : ∀ x, wdL (enc x) = n) (hok : ∀ x m, OkL m [] (enc x)) {j i len : Nat} (hj : t[j]? = some (.sl k ver (i * n) len none i)) (hi : i + len ≤ N) :
    ∃ (ad : Addr) (cap : Nat), Rep E C m ⟨t.set j (.imm α d n enc ((xs.drop i).take len) (some ad) cap), h⟩ a w := by
  have hlt : j < t.length := (List.getElem?_eq_some_iff.1 hj).1
  obtain ⟨h1, h2, arr, ty, fr, h3, h4⟩ := hL
  refine ⟨⟨b, if len = 0 ∧ c = i then 0 else i * n, none⟩, c - i, ?_, ?_, hr.df, hr.rel⟩
  · simpa using hr.sz
  · intro q x v hx hv
    by_cases hq : q = j
    · subst hq
      rw [List.getElem?_set_self hlt] at hx
      cases hx
      have h0 := hr.sl q _ v hj hv
      have hl : ((xs.drop i).take len).length = len := by simp; omega
      refine ⟨?_, ?_⟩
      · simp only [Ok, hl]
        refine ⟨by omega, fun hne => ⟨_, arr, ty, fr, rfl, rfl, h3, fun p hp u v hu => ?_⟩, hw, fun p hp => hok _ _⟩
        have hl0 : len ≠ 0 := by omega
        rw [if_neg (fun h => hl0 h.1)]
        have hg : ((xs.drop i).take len).getD p d = xs.getD (i + p) d := by
          simp only [List.getD_eq_getElem?_getD]
          rw [List.getElem?_take_of_lt (by omega), List.getElem?_drop]
        rw [hg] at hu
        have := h4 (i + p) (by omega) u v hu
        rw [Nat.add_mul] at this
        exact this
      · rw [h0.2]
        simp only [den, wrapV, cells, List.headD_cons, h1, Option.getD_none, true_and, hl]
    · rw [List.getElem?_set_ne (Ne.symm hq)] at hx
      exact (hr.sl q x v hx hv).set_plain hj ⟨fun b => by simp, fun q b => by simp⟩
section
variable {P : Program} {T : Tb} {ops : Array Oper} {o : Oper}
theorem OpC.from {K : St → Prop} {S : St} (h : ∀ C E m a w, Rep E C m S a w → ∃ E' m' S', OpC P T ops o K S' ∧ Ext E m (vers S.h) E' m' (vers S'.h) ∧ Rep E' C m' S' a w) : OpC P T ops o K S := by
  refine ⟨fun C E m a w hr => ?_⟩
  obtain ⟨E', m', S', h1, h2, h3⟩ := h C E m a w hr
  have h4 := h1.out C E' m' a w h3
  unfold opW at h4 ⊢
  have next : ∀ a' w', (∃ E2 m2 S2, K S2 ∧ Ext E' m' (vers S'.h) E2 m2 (vers S2.h) ∧ Rep E2 C m2 S2 a' w') → ∃ E2 m2 S2, K S2 ∧ Ext E m (vers S.h) E2 m2 (vers S2.h) ∧ Rep E2 C m2 S2 a' w' := by
    rintro a' w' ⟨E2, m2, S2, k1, k2, k3⟩
    exact ⟨E2, m2, S2, k1, h2.trans k2, k3⟩
  split
  · rename_i hw
    rw [if_pos hw] at h4
    exact wp_onlyN h4 next
  · rename_i hw
    rw [if_neg hw] at h4
    exact next _ _ h4
end
end
end SX
end Go.Proofs.YtlgjjklikbpcoaaGreatDoor

/- SX: operations that touch memory, behind guards whose value is known. -/
set_option linter.unusedVariables false
set_option linter.unusedSimpArgs false
namespace Go.Proofs.YtlgjjklikbpcoaaGreatDoor
namespace SX
open Go
section
variable {P : Program} {T : Tb} {ops : Array Oper} {o : Oper}
theorem OpC.guardT (hT : TabOk P T) {K : St → Prop} {t : List SV} {h : List SB} {p : List (Nat × Bool)} (hg : guardOf ops t o = some p) (hb : gB t p = true) (hK : sop P T ops { o with guard := none } K ⟨t, h⟩) : OpC P T ops o K ⟨t, h⟩ := by
  refine ⟨fun C E m a w hr => ?_⟩
  have h1 := (sop_sound hT hK).out C E m a w hr
  obtain ⟨g, hgv, hw⟩ := guardOf_spec hr hg
  have hg1 : g = true := by rw [← GV_gB hgv]; exact hb
  unfold opW at h1 ⊢
  rw [hw, hg1, if_pos rfl]
  rw [show Region.wanted { o with guard := none } (yielded ops a.tmps) = true by simp [Region.wanted], if_pos rfl] at h1
  exact h1
theorem OpC.skipG {K : St → Prop} {t : List SV} {h : List SB} {p : List (Nat × Bool)} (hg : guardOf ops t o = some p) (hb : gB t p = false) (x : SV) (hK : putK t h o.dst (wrapG p o.dst x) K) : OpC P T ops o K ⟨t, h⟩ := by
  rw [putK_eq] at hK
  refine ⟨fun C E m a w hr => ?_⟩
  obtain ⟨g, hgv, hw⟩ := guardOf_spec hr hg
  have hg1 : g = false := by rw [← GV_gB hgv]; exact hb
  subst hg1
  unfold opW
  rw [hw]
  simp only [Bool.false_eq_true, if_false]
  exact ⟨E, m, _, hK, .refl .., hr.putG (x := x) hgv (fun h => by cases h) (fun _ => rfl)⟩
def notB : SV → Bool
  | .b _ => false
  | .grd _ _ => false
  | .dead => false
  | _ => true
theorem Rep.open {E C m t h a w} (hr : Rep E C m ⟨t, h⟩ a w) {j : Nat} {q : List (Nat × Bool)} {y : SV} (hj : t[j]? = some (.grd q y)) (hb : gB t q = true) (hy : notB y = true) : Rep E C m ⟨t.set j y, h⟩ a w := by
  have hlt : j < t.length := (List.getElem?_eq_some_iff.1 hj).1
  have hn : (∀ b, SV.grd q y ≠ .b b) ∧ ∀ q' b, SV.grd q y ≠ .grd q' (.b b) := ⟨fun b => by simp, fun q' b e => by cases e; cases hy⟩
  refine ⟨by simpa using hr.sz, ?_, hr.df, hr.rel⟩
  intro i x v hx hv
  by_cases hi : i = j
  · subst hi
    rw [List.getElem?_set_self hlt] at hx
    cases hx
    obtain ⟨g, hgv, h1, _⟩ := hr.sl i _ v hj hv
    obtain ⟨h2, h3, h4⟩ := h1 (by rw [← GV_gB hgv]; exact hb)
    rw [h4]
    exact SlotOk_live ⟨h2, h3⟩
  · rw [List.getElem?_set_ne (Ne.symm hi)] at hx
    exact (hr.sl i x v hx hv).set_plain hj hn
theorem OpC.open {K : St → Prop} {t : List SV} {h : List SB} (j : Nat) {q : List (Nat × Bool)} {y : SV} (hj : t[j]? = some (.grd q y)) (hb : gB t q = true) (hy : notB y = true) (hK : OpC P T ops o K ⟨t.set j y, h⟩) : OpC P T ops o K ⟨t, h⟩ :=
  OpC.from fun C E m a w hr => ⟨E, m, _, hK, .refl .., hr.open hj hb hy⟩
/-! ### In a region whose order is drawn -/
end
end SX
end Go.Proofs.YtlgjjklikbpcoaaGreatDoor
