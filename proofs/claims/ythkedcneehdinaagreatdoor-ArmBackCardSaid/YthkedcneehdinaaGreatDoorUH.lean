/- A part of SX: symbolic and concrete runs of the program, with contracts of functions; lemmas without further conditions. -/
import Derived.Lib.IndexMore
import Derived.Lib.IndexBytes
import Derived.Test.YthkedcneehdinaaGreatDoorRows
import Derived.ProofKit
import Derived.LaidMore
import Derived.OpenShut
import Derived.Stop.Joined
import Derived.Carry
import Derived.SizedLaws
import Derived.ChangeMaps5
import Derived.JoinedOf
import Derived.Test.YthkedcneehdinaaGreatDoorUG
set_option linter.unusedVariables false
set_option linter.unusedSimpArgs false
set_option linter.unusedSectionVars false
/- What is printed is read again: parts that the three machines share. -/
set_option linter.unusedVariables false
set_option maxRecDepth 100000
namespace Go.Proofs.YthkedcneehdinaaGreatDoor
namespace SX
open Go Go.Proofs
theorem eqI_eq {x y : In} (h : eqI x y = true) : x = y := by
  obtain ⟨op, dst, a, b, imm, loc, off, ix, sz, fn, acq, wk, rel, pr, su, to, ze⟩ := x
  obtain ⟨op', dst', a', b', imm', loc', off', ix', sz', fn', acq', wk', rel', pr', su', to', ze'⟩ := y
  simp only [eqI, Bool.and_eq_true, decide_eq_true_eq, beq_iff_eq] at h
  obtain ⟨rfl, rfl, rfl, rfl, rfl, rfl, rfl, rfl, rfl, rfl, rfl, rfl, rfl, rfl, rfl, rfl, rfl⟩ := h
  rfl
theorem rgB_ok {n : Int} (h : rgB n = true) : 0 ≤ n ∧ n < 8 := by
  unfold rgB at h
  simpa using h
/-! What a right instruction is like, by its operation. -/
theorem fm1 {i : In} (hf : formP i = true) (h : i.op = 1) : (0 ≤ i.dst ∧ i.dst < 8) ∧ i = { none_ 1 with dst := i.dst, imm := i.imm } := by
  have hf : form1 i = true := by unfold formP at hf; rwa [if_pos h] at hf
  simp only [form1, Bool.and_eq_true] at hf
  exact ⟨rgB_ok hf.1, (eqI_eq hf.2).symm⟩
theorem fm2 {i : In} (hf : formP i = true) (h : i.op = 2) : (0 ≤ i.dst ∧ i.dst < 8) ∧ (0 ≤ i.a ∧ i.a < 8) ∧ i = { none_ 2 with dst := i.dst, a := i.a } := by
  have hf : form2 i = true := by unfold formP at hf; rw [if_neg (by omega), if_pos h] at hf; exact hf
  simp only [form2, Bool.and_eq_true] at hf
  exact ⟨rgB_ok hf.1.1, rgB_ok hf.1.2, (eqI_eq hf.2).symm⟩
theorem fm3 {i : In} (hf : formP i = true) (h : i.op = 3) : (0 ≤ i.dst ∧ i.dst < 8) ∧ (0 ≤ i.a ∧ i.a < 8) ∧ (i.fn = 1 ∨ i.fn = 2 ∨ i.fn = 3 ∨ i.fn = 4 ∨ i.fn = 5) ∧ (i.b = -1 ∨ (0 ≤ i.b ∧ i.b < 8) ∧ i.imm = 0) ∧ i = { none_ 3 with dst := i.dst, a := i.a, b := i.b, imm := i.imm, fn := i.fn } := by
  have hf : form3 i = true := by unfold formP at hf; rw [if_neg (by omega), if_neg (by omega), if_pos h] at hf; exact hf
  unfold form3 at hf
  split at hf
  · rename_i hb
    simp only [Bool.and_eq_true, decide_eq_true_eq] at hf
    obtain ⟨⟨⟨⟨h1, h2⟩, h3⟩, h4⟩, h5⟩ := hf
    exact ⟨rgB_ok h1, rgB_ok h2, by omega, .inl hb, (eqI_eq h5).symm⟩
  · simp only [Bool.and_eq_true, decide_eq_true_eq] at hf
    obtain ⟨⟨⟨⟨⟨h1, h2⟩, h3⟩, h4⟩, h6⟩, h5⟩ := hf
    have e := eqI_eq h5
    have e0 : i.imm = 0 := by have := congrArg In.imm e; exact this.symm
    refine ⟨rgB_ok h1, rgB_ok h2, by omega, .inr ⟨rgB_ok h6, e0⟩, ?_⟩
    rw [e0]; exact e.symm
theorem fm4 {i : In} (hf : formP i = true) (h : i.op = 4) : (0 ≤ i.dst ∧ i.dst < 8) ∧ accB i = true ∧ ¬ (i.acq = true ∧ i.wk = true) ∧ i = { none_ 4 with dst := i.dst, loc := i.loc, off := i.off, ix := i.ix, sz := i.sz, acq := i.acq, wk := i.wk } := by
  have hf : form4 i = true := by unfold formP at hf; rw [if_neg (by omega), if_neg (by omega), if_neg (by omega), if_pos h] at hf; exact hf
  simp only [form4, Bool.and_eq_true] at hf
  obtain ⟨⟨⟨h1, h2⟩, h3⟩, h5⟩ := hf
  exact ⟨rgB_ok h1, h2, (fun ⟨x, y⟩ => by rw [x, y] at h3; cases h3), (eqI_eq h5).symm⟩
theorem fm5 {i : In} (hf : formP i = true) (h : i.op = 5) : accB i = true ∧ (i.a = -1 ∨ (0 ≤ i.a ∧ i.a < 8) ∧ i.imm = 0) ∧ i = { none_ 5 with a := i.a, imm := i.imm, loc := i.loc, off := i.off, ix := i.ix, sz := i.sz, rel := i.rel } := by
  have hf : form5 i = true := by unfold formP at hf; rw [if_neg (by omega), if_neg (by omega), if_neg (by omega), if_neg (by omega), if_pos h] at hf; exact hf
  unfold form5 at hf
  split at hf
  · rename_i hb
    simp only [Bool.and_eq_true] at hf
    exact ⟨hf.1, .inl hb, (eqI_eq hf.2).symm⟩
  · simp only [Bool.and_eq_true] at hf
    obtain ⟨⟨h1, h2⟩, h5⟩ := hf
    have e := eqI_eq h5
    have e0 : i.imm = 0 := by have := congrArg In.imm e; exact this.symm
    refine ⟨h1, .inr ⟨rgB_ok h2, e0⟩, ?_⟩
    rw [e0]; exact e.symm
theorem fm6 {i : In} (hf : formP i = true) (h : i.op = 6) : (0 ≤ i.dst ∧ i.dst < 8) ∧ (0 ≤ i.a ∧ i.a < 8) ∧ accB i = true ∧ (i.fn = 6 ∨ i.fn = 1) ∧ i = { none_ 6 with dst := i.dst, a := i.a, loc := i.loc, off := i.off, ix := i.ix, sz := i.sz, fn := i.fn, acq := i.acq, rel := i.rel } := by
  have hf : form6 i = true := by unfold formP at hf; rw [if_neg (by omega), if_neg (by omega), if_neg (by omega), if_neg (by omega), if_neg (by omega), if_pos h] at hf; exact hf
  simp only [form6, Bool.and_eq_true, Bool.or_eq_true, decide_eq_true_eq] at hf
  obtain ⟨⟨⟨⟨h1, h2⟩, h3⟩, h4⟩, h5⟩ := hf
  exact ⟨rgB_ok h1, rgB_ok h2, h3, h4, (eqI_eq h5).symm⟩
theorem fm7 {i : In} (hf : formP i = true) (h : i.op = 7) : (i.pr = 1 ∨ i.pr = 2 ∨ i.pr = 3) ∧ (i.su = 1 ∨ i.su = 2 ∨ i.su = 3) ∧ i = { none_ 7 with pr := i.pr, su := i.su } := by
  have hf : form7 i = true := by unfold formP at hf; rw [if_neg (by omega), if_neg (by omega), if_neg (by omega), if_neg (by omega), if_neg (by omega), if_neg (by omega), if_pos h] at hf; exact hf
  simp only [form7, fnB, Bool.and_eq_true, decide_eq_true_eq] at hf
  exact ⟨by omega, by omega, (eqI_eq hf.2).symm⟩
theorem fm8 {i : In} (hf : formP i = true) (h : i.op = 8) : i = none_ 8 := by
  have hf : form8 i = true := by unfold formP at hf; rw [if_neg (by omega), if_neg (by omega), if_neg (by omega), if_neg (by omega), if_neg (by omega), if_neg (by omega), if_neg (by omega), if_pos h] at hf; exact hf
  simp only [form8, Bool.and_eq_true] at hf
  exact (eqI_eq hf.2).symm
theorem fm9 {i : In} (hf : formP i = true) (h : i.op = 9) : (0 ≤ i.a ∧ i.a < 8) ∧ i = { none_ 9 with a := i.a, to := i.to, ze := i.ze } := by
  have hf : form9 i = true := by unfold formP at hf; rw [if_neg (by omega), if_neg (by omega), if_neg (by omega), if_neg (by omega), if_neg (by omega), if_neg (by omega), if_neg (by omega), if_neg (by omega), if_pos h] at hf; exact hf
  simp only [form9, Bool.and_eq_true] at hf
  exact ⟨rgB_ok hf.1, (eqI_eq hf.2).symm⟩
theorem fm_op {i : In} (hf : formP i = true) : i.op = 1 ∨ i.op = 2 ∨ i.op = 3 ∨ i.op = 4 ∨ i.op = 5 ∨ i.op = 6 ∨ i.op = 7 ∨ i.op = 8 ∨ i.op = 9 := by
  unfold formP at hf
  repeat' split at hf
  all_goals first | omega | cases hf
/-- What is read of a right one is right. -/
theorem fm_to {i : In} (hf : formP i = true) : formP { i with to := 0 } = true := by
  obtain ⟨op, dst, a, b, imm, loc, off, ix, sz, fn, acq, wk, rel, pr, su, to, ze⟩ := i
  rcases fm_op hf with h | h | h | h | h | h | h | h | h
  all_goals (have h : op = _ := h; subst h)
  · have e := congrArg In.to (fm1 hf rfl).2; have e : to = 0 := e; subst e; exact hf
  · have e := congrArg In.to (fm2 hf rfl).2.2; have e : to = 0 := e; subst e; exact hf
  · have e := congrArg In.to (fm3 hf rfl).2.2.2.2; have e : to = 0 := e; subst e; exact hf
  · have e := congrArg In.to (fm4 hf rfl).2.2.2; have e : to = 0 := e; subst e; exact hf
  · have e := congrArg In.to (fm5 hf rfl).2.2; have e : to = 0 := e; subst e; exact hf
  · have e := congrArg In.to (fm6 hf rfl).2.2.2.2; have e : to = 0 := e; subst e; exact hf
  · have e := congrArg In.to (fm7 hf rfl).2.2; have e : to = 0 := e; subst e; exact hf
  · have e := congrArg In.to (fm8 hf rfl); have e : to = 0 := e; subst e; exact hf
  · have hf : form9 _ = true := hf
    show form9 _ = true
    simp only [form9, eqI, Bool.and_eq_true, decide_eq_true_eq] at hf ⊢
    obtain ⟨h1, h2⟩ := hf
    obtain ⟨a1, a2, a3, a4, a5, a6, a7, a8, a9, a10, a11, a12, a13, a14, a15, a16, a17⟩ := h2
    exact ⟨h1, a1, a2, a3, a4, a5, a6, a7, a8, a9, a10, a11, a12, a13, a14, a15, trivial, a17⟩
/-! A register or a number. -/
def orK (L : Lg) (r n : Int) : List Ky := if 0 ≤ r then [(1, nmF L.rs r, 0)] else immK L n
theorem toks_or {L : Lg} (hL : LgOk L) {r n : Int} (hr : r = -1 ∨ (0 ≤ r ∧ r < 8)) (hn : in64 n) {x : List UInt8} {ks : List Ky} (h1 : stopB namB x = true) (h2 : stopB numB x = true) (h : Toks x ks) : Toks (orF L.rs L.h r n ++ x) (orK L r n ++ ks) := by
  unfold orF orK
  rcases hr with rfl | ⟨h3, h4⟩
  · rw [if_neg (by decide), if_neg (by decide)]
    exact toks_imm hL hn.1 hn.2 h2 h
  · rw [if_pos h3, if_pos h3]
    exact toks_reg hL h3 h4 h1 h
theorem eit_or {L : Lg} (hL : LgOk L) {ts : List Tk} {p : Nat} {r n : Int} {l : List Ky} (hr : r = -1 ∨ (0 ≤ r ∧ r < 8) ∧ n = 0) (hn : in64 n) (h : Dr ts p (orK L r n ++ l)) : ∃ p', eitP L ts (st p) = ((r, n), st p') ∧ Dr ts p' l := by
  unfold orK at h
  rcases hr with rfl | ⟨⟨h3, h4⟩, rfl⟩
  · rw [if_neg (by decide)] at h
    exact eit_imm hL hn.1 hn.2 h
  · rw [if_pos h3] at h
    exact ⟨p + 1, eit_reg hL h3 h4 h⟩
/-- A MEM that is read gives back what it was. -/
theorem mem_back {L : Lg} (hL : LgOk L) {ts : List Tk} {p : Nat} {i j : In} {z : Int} {l : List Ky} (ha : accB i = true) (h0 : j.off = 0) (h1 : j.ix = -1) (h : Dr ts p (memK L i ++ l)) : ∃ p', memP L ts j z (st p) = ({ j with loc := i.loc, off := i.off, ix := i.ix, sz := z }, st p') ∧ Dr ts p' l := by
  obtain ⟨p', e, h2⟩ := mem_at hL (j := j) (z := z) ha h
  refine ⟨p', ?_, h2⟩
  obtain ⟨_, _, a3, _⟩ := accB_ok ha
  rw [e, h0, h1]
  congr 2
  · split
    · rename_i hh; exact hh.symm
    · rfl
  · split
    · rfl
    · omega
/-! What is read stays. -/
theorem ix_keep (L : Lg) (ts : List Tk) (j : In) (s : RS) : ∃ a b c, (ixP L ts j s).1 = { j with loc := a, off := b, ix := c } := ⟨j.loc, j.off, _, rfl⟩
theorem plus_keep (L : Lg) (ts : List Tk) (j : In) (s : RS) : ∃ a b c, (plusP L ts j s).1 = { j with loc := a, off := b, ix := c } := by
  unfold plusP
  split
  · split
    · obtain ⟨a, b, c, h⟩ := ix_keep L ts { j with off := (tkAt ts s.p).n } (goF (goF s))
      exact ⟨a, b, c, by rw [h]⟩
    · exact ⟨j.loc, _, j.ix, rfl⟩
  · exact ix_keep L ts j s
theorem mem_keep (L : Lg) (ts : List Tk) (j : In) (z : Int) (s : RS) : ∃ a b c, (memP L ts j z s).1 = { j with loc := a, off := b, ix := c, sz := z } := by
  unfold memP
  dsimp only
  split
  · obtain ⟨a, b, c, h⟩ := plus_keep L ts { j with loc := (ofP locI ts (markP ts [91] s)).1, sz := z } (goF (ofP locI ts (markP ts [91] s)).2)
    exact ⟨a, b, c, by rw [h]⟩
  · exact ⟨_, j.off, j.ix, rfl⟩
theorem zero_in : in64 0 := ⟨by decide, by decide⟩
theorem wrap_in (n : Int) : in64 (IntKind.i64.wrap n) := by rw [IntKind.wrap_i64]; unfold in64; omega
theorem nm_in (ts : List Tk) (g : Int) (s : RS) : in64 (nmP ts g s).1 := by
  unfold nmP
  split
  · exact wrap_in _
  · exact zero_in
theorem num_in (ts : List Tk) (s : RS) : in64 (numP ts s).1 := by
  unfold numP
  split
  · split <;> exact nm_in _ _ _
  · exact zero_in
theorem eit_in (L : Lg) (ts : List Tk) (s : RS) : in64 (eitP L ts s).1.2 := by
  unfold eitP
  split
  · exact zero_in
  · exact num_in _ _
theorem word_ok {ts : List Tk} {s : RS} (h : (wordP ts s).2.e = 0) : ∃ p, (tkAt ts p).k = 1 ∧ (wordP ts s).1 = (tkAt ts p).s := by
  unfold wordP at h ⊢
  split at h
  · rename_i h0
    rw [if_pos h0]
    split at h
    · rename_i h1; exact ⟨s.p, h1, by rw [if_pos h1]⟩
    · exact absurd h (miss_e ts s)
  · rename_i h0; exact absurd h h0
/-- What a reader that says yes has read can be printed. -/
def GoodR (ts : List Tk) (pr : In → List UInt8 → List UInt8) (r : Rd × RS) : Prop :=
  r.1.known = true → r.2.e = 0 → formP r.1.i = true → pr r.1.i r.1.lb ≠ [] ∧ r.1.i.to = 0 ∧ in64 r.1.i.imm ∧ (if r.1.i.op = 9 then ∃ p, (tkAt ts p).k = 1 ∧ r.1.lb = (tkAt ts p).s else r.1.lb = [])
theorem parse_ok {rd : List Tk → List UInt8 → RS → Rd × RS} {ts : List Tk} {i : In} {lb : List UInt8} (h : parseP rd ts = ⟨i, lb, 0, 0⟩) :
    ∃ r : Rd × RS, r = rd ts (wordP ts rs0).1 (wordP ts rs0).2 ∧ r.1.known = true ∧ r.2.e = 0 ∧ r.1.i = i ∧ r.1.lb = lb ∧ formP i = true := by
  refine ⟨_, rfl, ?_⟩
  unfold parseP endP at h
  generalize rd ts (wordP ts rs0).1 (wordP ts rs0).2 = r at h ⊢
  obtain ⟨⟨j, kn, l⟩, s⟩ := r
  dsimp only at h ⊢
  have hout : ∀ s' : RS, outF ⟨j, kn, l⟩ s' = ⟨i, lb, 0, 0⟩ → s'.e = 0 ∧ j = i ∧ l = lb := by
    intro s' hh
    unfold outF at hh
    split at hh
    · rename_i h0; simp only [Pr.mk.injEq] at hh; exact ⟨h0, hh.1, hh.2.1⟩
    · rename_i h0; simp only [Pr.mk.injEq] at hh; exact absurd hh.2.2.1 h0
  obtain ⟨h1, rfl, rfl⟩ := hout _ h
  split at h1
  · exact absurd h1 (failF_e (by decide))
  · rename_i h34
    have hf : formP j = true := by
      cases hq : formP j with
      | true => rfl
      | false => exact absurd (by unfold rgtF; rw [hq]; rfl) h34
    unfold moreF at h1
    cases kn with
    | false =>
      have h1 : (if (failF s 21 (whF ts 0)).p < ts.length then failF (failF s 21 (whF ts 0)) 25 (whF ts (failF s 21 (whF ts 0)).p) else failF s 21 (whF ts 0)).e = 0 := h1
      split at h1
      · exact absurd h1 (failF_e (by decide))
      · exact absurd h1 (failF_e (by decide))
    | true =>
      have h1 : (if s.p < ts.length then failF s 25 (whF ts s.p) else s).e = 0 := h1
      split at h1
      · exact absurd h1 (failF_e (by decide))
      · exact ⟨rfl, h1, rfl, rfl, hf⟩
/-! Names in a text. -/
theorem step_nmB {s : List UInt8} {p : Nat} {t : Tk} (h : stepF s p = .tok t) (hk : t.k = 1) : nmB t.s = true := by
  unfold stepF at h
  split at h
  · cases h
  split at h
  · split at h <;> cases h
  split at h
  · split at h <;> cases h
    exact absurd hk (by show ¬ (2 : Int) = 1; decide)
  split at h
  · rename_i hl
    cases h
    have hne : s ≠ [] := by rintro rfl; exact absurd hl (by decide)
    have hp : 0 < rowF namB s := rowF_pos hne (by
      unfold namB
      simp only [Bool.or_eq_true, decide_eq_true_eq] at hl ⊢
      rcases hl with hl | hl
      · exact .inl (.inl (.inl hl))
      · exact .inl (.inr hl))
    show nmB (s.take (rowF namB s)) = true
    unfold nmB
    rw [cd_take hp, hl, Bool.and_true]
    exact List.all_eq_true.2 fun c hc => rowF_all namB s c hc
  split at h
  · cases h; exact absurd hk (by show ¬ (3 : Int) = 1; decide)
  split at h
  · cases h; exact absurd hk (by show ¬ (3 : Int) = 1; decide)
  · cases h
theorem tok_names (s : List UInt8) : ∀ t ∈ (tokF s).1, t.k = 1 → nmB t.s = true ∧ t.s.length ≤ s.length := by
  have key : ∀ (f p : Nat) (out : List Tk), (∀ t ∈ out, t.k = 1 → nmB t.s = true ∧ t.s.length ≤ s.length) → ∀ t ∈ (tokC s f p out).1, t.k = 1 → nmB t.s = true ∧ t.s.length ≤ s.length := by
    intro f
    induction f with
    | zero => intro p out h; exact h
    | succ f ih =>
      intro p out h t ht
      unfold tokC at ht
      split at ht
      · exact h t ht
      · split at ht
        · exact ih _ _ h t ht
        · rename_i y hy
          refine ih _ _ (fun x hx => ?_) t ht
          rcases List.mem_append.1 hx with hx | hx
          · exact h x hx
          · rw [List.mem_singleton.1 hx]
            intro hk
            have := step_len hy
            rw [List.length_drop] at this
            exact ⟨step_nmB hy hk, by omega⟩
        · cases ht
  unfold tokF
  split
  · intro t ht; cases ht
  · exact key _ _ _ fun t ht => by cases ht
theorem named_of {s : List UInt8} (h : nmB s = true) (hl : s.length ≤ 8192) : namedF s = true := by
  have ht : Toks s [(1, s, 0)] := by
    have := Toks.nam (r := []) h rfl .nil
    simpa using this
  obtain ⟨ts, h1, h2⟩ := toks_tokF ht hl
  match ts, h2 with
  | [t], h2 =>
    simp only [List.map_cons, List.map_nil, List.cons.injEq, and_true, key, Prod.mk.injEq] at h2
    unfold namedF
    rw [h1]
    simp [h2.1, h2.2.1]
  | [], h2 => cases h2
  | _ :: _ :: _, h2 => simp at h2
/-- What is printed is parsed as it was; what was parsed is printed. -/
structure Back (rd : List Tk → List UInt8 → RS → Rd × RS) (pr : In → List UInt8 → List UInt8) : Prop where
  out : ∀ i lb, formP i = true → in64 i.imm → pr i lb ≠ [] → (i.op = 9 → namedF lb = true) → (pr i lb).length ≤ 8192 → ∃ ts, tokF (pr i lb) = (ts, 0, 0) ∧ parseP rd ts = ⟨{ i with to := 0 }, if i.op = 9 then lb else [], 0, 0⟩
  good : ∀ ts nm s, GoodR ts pr (rd ts nm s)
  len : ∀ i lb, formP i = true → in64 i.imm → (pr i lb).length ≤ lb.length + 150
theorem Back.read {rd : List Tk → List UInt8 → RS → Rd × RS} {pr : In → List UInt8 → List UInt8} (hB : Back rd pr) {text : List UInt8} {ts : List Tk} {i : In} {lb : List UInt8} (ht : tokF text = (ts, 0, 0)) (hl : text.length ≤ 8000) (h : parseP rd ts = ⟨i, lb, 0, 0⟩) :
    formP i = true ∧ in64 i.imm ∧ pr i lb ≠ [] ∧ (i.op = 9 → namedF lb = true) ∧ (pr i lb).length ≤ 8192 ∧ lb.length ≤ 8000 ∧ ∃ us, tokF (pr i lb) = (us, 0, 0) ∧ parseP rd us = ⟨i, lb, 0, 0⟩ := by
  obtain ⟨r, hr, h1, h2, rfl, rfl, h5⟩ := parse_ok h
  have hg := hB.good ts (wordP ts rs0).1 (wordP ts rs0).2
  rw [← hr] at hg
  obtain ⟨g1, g2, g3, g4⟩ := hg h1 h2 h5
  have hn : (r.1.i.op = 9 → namedF r.1.lb = true) ∧ r.1.lb.length ≤ 8000 ∧ (if r.1.i.op = 9 then r.1.lb else []) = r.1.lb := by
    by_cases h9 : r.1.i.op = 9
    · rw [if_pos h9] at g4 ⊢
      obtain ⟨p, k1, k2⟩ := g4
      have hm : tkAt ts p ∈ (tokF text).1 := by
        rw [ht]
        have hp := at_lt (ts := ts) (p := p) (by rw [k1]; decide)
        unfold tkAt
        rw [List.getD_eq_getElem?_getD, List.getElem?_eq_getElem hp]
        exact List.getElem_mem hp
      have hq := tok_names text _ hm k1
      rw [← k2] at hq
      exact ⟨fun _ => named_of hq.1 (by omega), by omega, rfl⟩
    · rw [if_neg h9] at g4 ⊢
      rw [g4]
      exact ⟨fun h => absurd h h9, by decide, rfl⟩
  obtain ⟨n1, n2, n3⟩ := hn
  have hlen := hB.len r.1.i r.1.lb h5 g3
  obtain ⟨us, u1, u2⟩ := hB.out r.1.i r.1.lb h5 g3 g1 n1 (by omega)
  refine ⟨h5, g3, g1, n1, by omega, n2, us, u1, ?_⟩
  rw [u2, n3]
  congr 1
  rw [← g2]
end SX
end Go.Proofs.YthkedcneehdinaaGreatDoor

/- x86: what is printed is read again, plain. -/
set_option linter.unusedVariables false
set_option maxRecDepth 100000
namespace Go.Proofs.YthkedcneehdinaaGreatDoor
namespace SX
open Go Go.Proofs
theorem line2 {n x y : List UInt8} : lineF n [x, y] = (n ++ [32]) ++ (x ++ (44 :: (y ++ []))) := by unfold lineF; rw [jn2]; simp
theorem line3 {n x y z : List UInt8} : lineF n [x, y, z] = (n ++ [32]) ++ (x ++ (44 :: (y ++ (44 :: (z ++ []))))) := by unfold lineF; rw [jn3]; simp
theorem sz_cases {i : In} (ha : accB i = true) : i.sz = 1 ∨ i.sz = 2 ∨ i.sz = 4 ∨ i.sz = 8 := (accB_ok ha).2.2.2
/-- What a reader makes of a text's words. -/
def Rds (rd : List Tk → List UInt8 → RS → Rd × RS) (nm : List UInt8) (ks : List Ky) (i : In) (lb : List UInt8) : Prop := ∀ ts, Dr ts 1 ks → ∃ p', rd ts nm (st 1) = (⟨i, true, lb⟩, st p') ∧ Dr ts p' []
theorem out_of {rd : List Tk → List UInt8 → RS → Rd × RS} {t nm : List UInt8} {ks : List Ky} {i : In} {lb l : List UInt8} (hf : formP i = true) (hl : t.length ≤ 8192) (ht : Toks t ((1, nm, 0) :: ks)) (hlb : (if i.op = 9 then lb else []) = l) (hr : Rds rd nm ks { i with to := 0 } l) :
    ∃ ts, tokF t = (ts, 0, 0) ∧ parseP rd ts = ⟨{ i with to := 0 }, if i.op = 9 then lb else [], 0, 0⟩ := by
  rw [hlb]
  exact parse_of ht hl (fm_to hf) hr
theorem nm_len3 (a n : Int) : (nmF (regsL a) n).length ≤ 3 := nameF_len a n
theorem or_len (a r n : Int) (h : List UInt8) (hh : h.length ≤ 1) (hn : in64 n) : (orF (regsL a) h r n).length ≤ 25 := by
  have h1 := itoa_len hn
  have h2 := nm_len3 a r
  unfold orF
  split
  · omega
  · rw [List.length_append]; omega
theorem sz_len (a z : Int) : (szT a z).length ≤ 1 := by
  have he : ∀ (z : Int) (e0 e1 e2 e3 : List UInt8), e0.length ≤ 1 → e1.length ≤ 1 → e2.length ≤ 1 → e3.length ≤ 1 → (endF z e0 e1 e2 e3).length ≤ 1 := by
    intro z e0 e1 e2 e3 h0 h1 h2 h3
    unfold endF
    repeat' split
    all_goals first | assumption | exact Nat.zero_le _
  unfold szT
  repeat' split
  all_goals exact he _ _ _ _ _ (by decide) (by decide) (by decide) (by decide)
theorem at_len {a : Int} {i : In} (ha : accB i = true) : (atF (regsL a) i).length ≤ 40 := by
  obtain ⟨h1, h2, h3, h4⟩ := accB_ok ha
  have hi := itoa_small h2.1 h2.2
  have hn := nm_len3 a i.ix
  unfold atF offF ixF locF
  simp only [List.length_append, List.length_cons, List.length_nil]
  split <;> split <;> simp <;> omega
theorem fn_len (a n : Int) : (fnT a n).length ≤ 3 := by
  unfold fnT
  repeat' split
  all_goals
    rw [List.getD_eq_getElem?_getD]
    match n.toNat with
    | 0 => decide
    | 1 => decide
    | 2 => decide
    | 3 => decide
    | 4 => decide
    | 5 => decide
    | _ + 6 => exact Nat.zero_le _
theorem br_len (a : Int) (z : Bool) : (brT a z).length ≤ 4 := by
  unfold brT
  cases z <;> (repeat' split) <;> decide
theorem line2_len {n x y : List UInt8} {k : Nat} (h : n.length + x.length + y.length + 2 ≤ k) : (lineF n [x, y]).length ≤ k := by
  rw [line2]; simp; omega
theorem line3_len {n x y z : List UInt8} {k : Nat} (h : n.length + x.length + y.length + z.length + 3 ≤ k) : (lineF n [x, y, z]).length ≤ k := by
  rw [line3]; simp; omega
end SX
end Go.Proofs.YthkedcneehdinaaGreatDoor

/- RISC-V: what is printed is read again, plain. -/
set_option linter.unusedVariables false
set_option maxRecDepth 100000
namespace Go.Proofs.YthkedcneehdinaaGreatDoor
namespace SX
open Go Go.Proofs
theorem of_at {f : List UInt8 → Int} {ts : List Tk} {p : Nat} {w : List UInt8} {l : List Ky} (hf : 0 ≤ f w) (h : Dr ts p ((1, w, 0) :: l)) : ofP f ts (st p) = (f w, st (p + 1)) ∧ Dr ts (p + 1) l := by
  obtain ⟨e1, e2⟩ := word_at h
  refine ⟨?_, e2⟩
  unfold ofP
  rw [e1]
  dsimp only
  rw [if_neg (by omega)]
theorem of_nn (f : List UInt8 → Int) (ts : List Tk) (s : RS) : 0 ≤ (ofP f ts s).1 := by
  unfold ofP
  split
  · exact Int.le_refl _
  · dsimp only; omega
end SX
end Go.Proofs.YthkedcneehdinaaGreatDoor

/- Arm: what is printed is read again, plain. -/
set_option linter.unusedVariables false
set_option maxRecDepth 100000
namespace Go.Proofs.YthkedcneehdinaaGreatDoor
namespace SX
open Go Go.Proofs
theorem ard_1 {dst imm : Int} (hd : 0 ≤ dst ∧ dst < 8) (hi : in64 imm) : Rds readAP [77, 79, 86] ((1, nmF lgA.rs dst, 0) :: (3, [44], 0) :: (orK lgA (-1) imm ++ [])) { none_ 1 with dst := dst, imm := imm } [] := by
  intro ts hD
  obtain ⟨e1, d1⟩ := reg_at lgA_ok hd.1 hd.2 hD
  obtain ⟨e2, d2⟩ := mark_at d1
  obtain ⟨p', e3, d3⟩ := eit_or lgA_ok (.inl rfl) hi d2
  refine ⟨p', ?_, d3⟩
  unfold readAP
  rw [if_pos rfl]; dsimp only; rw [e1]; dsimp only; rw [e2, e3]; rfl
theorem ard_2 {dst a : Int} (hd : 0 ≤ dst ∧ dst < 8) (ha : 0 ≤ a ∧ a < 8) : Rds readAP [77, 79, 86] ((1, nmF lgA.rs dst, 0) :: (3, [44], 0) :: (orK lgA a 0 ++ [])) { none_ 2 with dst := dst, a := a } [] := by
  intro ts hD
  obtain ⟨e1, d1⟩ := reg_at lgA_ok hd.1 hd.2 hD
  obtain ⟨e2, d2⟩ := mark_at d1
  obtain ⟨p', e3, d3⟩ := eit_or lgA_ok (.inr ⟨ha, rfl⟩) ⟨by decide, by decide⟩ d2
  refine ⟨p', ?_, d3⟩
  unfold readAP
  rw [if_pos rfl]; dsimp only; rw [e1]; dsimp only; rw [e2, e3]; dsimp only; rw [if_pos ha.1]; rfl
theorem fnA_cases {fn : Int} (hfn : fn = 1 ∨ fn = 2 ∨ fn = 3 ∨ fn = 4 ∨ fn = 5) : fnT 3 fn ≠ [77, 79, 86] ∧ fnA (fnT 3 fn) = fn ∧ 0 < fn ∧ nmB (fnT 3 fn) = true := by
  rcases hfn with rfl | rfl | rfl | rfl | rfl <;> decide
theorem ard_3 {dst a b imm fn : Int} (hd : 0 ≤ dst ∧ dst < 8) (ha : 0 ≤ a ∧ a < 8) (hb : b = -1 ∨ (0 ≤ b ∧ b < 8) ∧ imm = 0) (hi : in64 imm) (hfn : fn = 1 ∨ fn = 2 ∨ fn = 3 ∨ fn = 4 ∨ fn = 5) : Rds readAP (fnT 3 fn) ((1, nmF lgA.rs dst, 0) :: (3, [44], 0) :: (1, nmF lgA.rs a, 0) :: (3, [44], 0) :: (orK lgA b imm ++ [])) { none_ 3 with dst := dst, a := a, b := b, imm := imm, fn := fn } [] := by
  intro ts hD
  obtain ⟨e1, d1⟩ := reg_at lgA_ok hd.1 hd.2 hD
  obtain ⟨e2, d2⟩ := mark_at d1
  obtain ⟨e3, d3⟩ := reg_at lgA_ok ha.1 ha.2 d2
  obtain ⟨e4, d4⟩ := mark_at d3
  obtain ⟨p', e5, d5⟩ := eit_or lgA_ok hb hi d4
  refine ⟨p', ?_, d5⟩
  obtain ⟨h1, h2, h3, _⟩ := fnA_cases hfn
  unfold readAP
  rw [if_neg h1, h2, if_pos h3]; dsimp only; rw [e1]; dsimp only; rw [e2, e3]; dsimp only; rw [e4, e5]
/-- A name that stands for an access. -/
structure AcOk (nm : List UInt8) (x : In) : Prop where
  h1 : nm ≠ [77, 79, 86]
  h2 : ¬ 0 < fnA nm
  h3 : nm ≠ [68, 77, 66]
  h4 : nm ≠ [73, 83, 66]
  h5 : ¬ (nm = [67, 66, 90] ∨ nm = [67, 66, 78, 90])
  h6 : memA nm = (x, true)
  h7 : nmB nm = true
  h8 : nm.length ≤ 20
theorem ld_ok {z : Int} (hz : z = 1 ∨ z = 2 ∨ z = 4 ∨ z = 8) {acq wk : Bool} (h : ¬ (acq = true ∧ wk = true)) : AcOk (ldT acq wk ++ szT 3 z) { none_ 4 with acq := acq, wk := wk, sz := z } := by
  rcases hz with rfl | rfl | rfl | rfl <;> cases acq <;> cases wk
  all_goals first | exact absurd ⟨rfl, rfl⟩ h | exact ⟨by decide, by decide, by decide, by decide, by decide, rfl, by decide, by decide⟩
theorem st_ok {z : Int} (hz : z = 1 ∨ z = 2 ∨ z = 4 ∨ z = 8) {rel : Bool} : AcOk (stT rel ++ szT 3 z) { none_ 5 with rel := rel, sz := z } := by
  rcases hz with rfl | rfl | rfl | rfl <;> cases rel
  all_goals exact ⟨by decide, by decide, by decide, by decide, by decide, rfl, by decide, by decide⟩
theorem sw_ok (i : In) (hfn : i.fn = 6 ∨ i.fn = 1) (hz : i.sz = 1 ∨ i.sz = 2 ∨ i.sz = 4 ∨ i.sz = 8) : AcOk (swT i) { none_ 6 with fn := i.fn, acq := i.acq, rel := i.rel, sz := i.sz } := by
  obtain ⟨op, dst, a, b, imm, loc, off, ix, sz, fn, acq, wk, rel, pr, su, to, ze⟩ := i
  have hfn : fn = 6 ∨ fn = 1 := hfn
  have hz : sz = 1 ∨ sz = 2 ∨ sz = 4 ∨ sz = 8 := hz
  have e : swT ⟨op, dst, a, b, imm, loc, off, ix, sz, fn, acq, wk, rel, pr, su, to, ze⟩ = swT ⟨0, 0, 0, 0, 0, 0, 0, 0, sz, fn, acq, false, rel, 0, 0, 0, false⟩ := rfl
  rw [e]
  show AcOk _ { none_ 6 with fn := fn, acq := acq, rel := rel, sz := sz }
  rcases hfn with rfl | rfl <;> rcases hz with rfl | rfl | rfl | rfl <;> cases acq <;> cases rel
  all_goals exact ⟨by decide, by decide, by decide, by decide, by decide, rfl, by decide, by decide⟩
theorem a_pre {ts : List Tk} {nm : List UInt8} {s : RS} {x : In} (h : AcOk nm x) : readAP ts nm s = (if x.op = 4 then
      let r := regP lgA ts s
      let m := memP lgA ts { x with dst := r.1 } x.sz (markP ts [44] r.2)
      (⟨m.1, true, []⟩, m.2)
    else if x.op = 5 then
      let r := regP lgA ts s
      let m := memP lgA ts { x with a := r.1 } x.sz (markP ts [44] r.2)
      (⟨m.1, true, []⟩, m.2)
    else
      let r := regP lgA ts s
      let v := regP lgA ts (markP ts [44] r.2)
      let m := memP lgA ts { x with a := r.1, dst := v.1 } x.sz (markP ts [44] v.2)
      (⟨m.1, true, []⟩, m.2)) := by
  unfold readAP
  rw [if_neg h.h1, if_neg h.h2, if_neg h.h3, if_neg h.h4, if_neg h.h5, h.h6, if_pos rfl]
theorem a_ld {ts : List Tk} {nm : List UInt8} {s : RS} {x : In} (h : AcOk nm x) (hx : x.op = 4) : readAP ts nm s = (⟨(memP lgA ts { x with dst := (regP lgA ts s).1 } x.sz (markP ts [44] (regP lgA ts s).2)).1, true, []⟩, (memP lgA ts { x with dst := (regP lgA ts s).1 } x.sz (markP ts [44] (regP lgA ts s).2)).2) := by
  rw [a_pre h, if_pos hx]
theorem a_st {ts : List Tk} {nm : List UInt8} {s : RS} {x : In} (h : AcOk nm x) (hx : x.op = 5) : readAP ts nm s = (⟨(memP lgA ts { x with a := (regP lgA ts s).1 } x.sz (markP ts [44] (regP lgA ts s).2)).1, true, []⟩, (memP lgA ts { x with a := (regP lgA ts s).1 } x.sz (markP ts [44] (regP lgA ts s).2)).2) := by
  rw [a_pre h, if_neg (by omega), if_pos hx]
theorem a_sw {ts : List Tk} {nm : List UInt8} {s : RS} {x : In} (h : AcOk nm x) (hx : x.op = 6) : readAP ts nm s = (⟨(memP lgA ts { x with a := (regP lgA ts s).1, dst := (regP lgA ts (markP ts [44] (regP lgA ts s).2)).1 } x.sz (markP ts [44] (regP lgA ts (markP ts [44] (regP lgA ts s).2)).2)).1, true, []⟩, (memP lgA ts { x with a := (regP lgA ts s).1, dst := (regP lgA ts (markP ts [44] (regP lgA ts s).2)).1 } x.sz (markP ts [44] (regP lgA ts (markP ts [44] (regP lgA ts s).2)).2)).2) := by
  rw [a_pre h, if_neg (by omega), if_neg (by omega)]
theorem ard_4 {i : In} {dst : Int} (hd : 0 ≤ dst ∧ dst < 8) (ha : accB i = true) (hq : ¬ (i.acq = true ∧ i.wk = true)) : Rds readAP (ldT i.acq i.wk ++ szT 3 i.sz) ((1, nmF lgA.rs dst, 0) :: (3, [44], 0) :: (memK lgA i ++ [])) { none_ 4 with dst := dst, loc := i.loc, off := i.off, ix := i.ix, sz := i.sz, acq := i.acq, wk := i.wk } [] := by
  intro ts hD
  obtain ⟨e1, d1⟩ := reg_at lgA_ok hd.1 hd.2 hD
  obtain ⟨e2, d2⟩ := mark_at d1
  obtain ⟨p', e3, d3⟩ := mem_back lgA_ok (j := { none_ 4 with acq := i.acq, wk := i.wk, sz := i.sz, dst := dst }) (z := i.sz) ha rfl rfl d2
  refine ⟨p', ?_, d3⟩
  have h := ld_ok (sz_cases ha) hq
  rw [a_ld h rfl, e1]; dsimp only; rw [e2, e3]
theorem ard_5 {i : In} {a : Int} (hd : 0 ≤ a ∧ a < 8) (ha : accB i = true) : Rds readAP (stT i.rel ++ szT 3 i.sz) ((1, nmF lgA.rs a, 0) :: (3, [44], 0) :: (memK lgA i ++ [])) { none_ 5 with a := a, loc := i.loc, off := i.off, ix := i.ix, sz := i.sz, rel := i.rel } [] := by
  intro ts hD
  obtain ⟨e1, d1⟩ := reg_at lgA_ok hd.1 hd.2 hD
  obtain ⟨e2, d2⟩ := mark_at d1
  obtain ⟨p', e3, d3⟩ := mem_back lgA_ok (j := { none_ 5 with rel := i.rel, sz := i.sz, a := a }) (z := i.sz) ha rfl rfl d2
  refine ⟨p', ?_, d3⟩
  have h := st_ok (sz_cases ha) (rel := i.rel)
  rw [a_st h rfl, e1]; dsimp only; rw [e2, e3]
theorem ard_6 {i : In} {dst a : Int} (hd : 0 ≤ dst ∧ dst < 8) (haa : 0 ≤ a ∧ a < 8) (ha : accB i = true) (hfn : i.fn = 6 ∨ i.fn = 1) : Rds readAP (swT i) ((1, nmF lgA.rs a, 0) :: (3, [44], 0) :: (1, nmF lgA.rs dst, 0) :: (3, [44], 0) :: (memK lgA i ++ [])) { none_ 6 with dst := dst, a := a, loc := i.loc, off := i.off, ix := i.ix, sz := i.sz, fn := i.fn, acq := i.acq, rel := i.rel } [] := by
  intro ts hD
  obtain ⟨e1, d1⟩ := reg_at lgA_ok haa.1 haa.2 hD
  obtain ⟨e2, d2⟩ := mark_at d1
  obtain ⟨e3, d3⟩ := reg_at lgA_ok hd.1 hd.2 d2
  obtain ⟨e4, d4⟩ := mark_at d3
  obtain ⟨p', e5, d5⟩ := mem_back lgA_ok (j := { none_ 6 with fn := i.fn, acq := i.acq, rel := i.rel, sz := i.sz, a := a, dst := dst }) (z := i.sz) ha rfl rfl d4
  refine ⟨p', ?_, d5⟩
  have h := sw_ok i hfn (sz_cases ha)
  rw [a_sw h rfl, e1]; dsimp only; rw [e2, e3]; dsimp only; rw [e4, e5]
theorem ard_7 {pr su : Int} {w : List UInt8} (h0 : 0 ≤ brI w) (hp : prA (brI w) = pr) (hs : suA (brI w) = su) : Rds readAP [68, 77, 66] ((1, w, 0) :: []) { none_ 7 with pr := pr, su := su } [] := by
  intro ts hD
  obtain ⟨e1, d1⟩ := of_at (f := brI) h0 hD
  refine ⟨_, ?_, d1⟩
  unfold readAP
  rw [if_neg (by decide), if_neg (by decide), if_pos rfl]; dsimp only; rw [e1]; dsimp only; rw [hp, hs]
theorem ard_8 : Rds readAP [73, 83, 66] [] (none_ 8) [] := by
  intro ts hD
  refine ⟨1, ?_, hD⟩
  unfold readAP
  rw [if_neg (by decide), if_neg (by decide), if_neg (by decide), if_pos rfl]
theorem ard_9 {a : Int} {ze : Bool} {lb : List UInt8} (hd : 0 ≤ a ∧ a < 8) : Rds readAP (brT 3 ze) ((1, nmF lgA.rs a, 0) :: (3, [44], 0) :: (1, lb, 0) :: []) { none_ 9 with a := a, ze := ze } lb := by
  intro ts hD
  obtain ⟨e1, d1⟩ := reg_at lgA_ok hd.1 hd.2 hD
  obtain ⟨e2, d2⟩ := mark_at d1
  obtain ⟨e3, d3⟩ := word_at d2
  refine ⟨_, ?_, d3⟩
  have hx : brT 3 ze ≠ [77, 79, 86] ∧ ¬ 0 < fnA (brT 3 ze) ∧ brT 3 ze ≠ [68, 77, 66] ∧ brT 3 ze ≠ [73, 83, 66] ∧ (brT 3 ze = [67, 66, 90] ∨ brT 3 ze = [67, 66, 78, 90]) ∧ decide (brT 3 ze = [67, 66, 90]) = ze := by cases ze <;> decide
  unfold readAP
  rw [if_neg hx.1, if_neg hx.2.1, if_neg hx.2.2.1, if_neg hx.2.2.2.1, if_pos hx.2.2.2.2.1, hx.2.2.2.2.2]; dsimp only; rw [e1]; dsimp only; rw [e2, e3]
theorem line1 {n x : List UInt8} : lineF n [x] = (n ++ [32]) ++ (x ++ []) := by unfold lineF; rw [jn1]; simp
theorem arm_out (i : In) (lb : List UInt8) (hf : formP i = true) (hi : in64 i.imm) (hne : paT i lb ≠ []) (hn : i.op = 9 → namedF lb = true) (hl : (paT i lb).length ≤ 8192) : ∃ ts, tokF (paT i lb) = (ts, 0, 0) ∧ parseP readAP ts = ⟨{ i with to := 0 }, if i.op = 9 then lb else [], 0, 0⟩ := by
  rcases fm_op hf with h | h | h | h | h | h | h | h | h
  · obtain ⟨hd, e⟩ := fm1 hf h
    have et : paT i lb = lineF [77, 79, 86] [nmF lgA.rs i.dst, orF lgA.rs lgA.h (-1) i.imm] := by unfold paT; rw [if_pos h]; rfl
    rw [et] at hl ⊢
    refine out_of hf hl ?_ (if_neg (by omega)) (show Rds readAP _ _ { i with to := 0 } [] from by rw [e]; exact ard_1 hd hi)
    rw [line2]
    exact toks_line (by decide) (toks_reg lgA_ok hd.1 hd.2 rfl (.mrk (by decide) (toks_or lgA_ok (.inl rfl) hi rfl rfl .nil)))
  · obtain ⟨hd, ha, e⟩ := fm2 hf h
    have et : paT i lb = lineF [77, 79, 86] [nmF lgA.rs i.dst, orF lgA.rs lgA.h i.a 0] := by unfold paT; rw [if_neg (by omega), if_pos h]; unfold orF; rw [if_pos ha.1]; rfl
    rw [et] at hl ⊢
    refine out_of hf hl ?_ (if_neg (by omega)) (show Rds readAP _ _ { i with to := 0 } [] from by rw [e]; exact ard_2 hd ha)
    rw [line2]
    exact toks_line (by decide) (toks_reg lgA_ok hd.1 hd.2 rfl (.mrk (by decide) (toks_or lgA_ok (.inr ha) ⟨by decide, by decide⟩ rfl rfl .nil)))
  · obtain ⟨hd, ha, hfn, hb, e⟩ := fm3 hf h
    have et : paT i lb = lineF (fnT 3 i.fn) [nmF lgA.rs i.dst, nmF lgA.rs i.a, orF lgA.rs lgA.h i.b i.imm] := by unfold paT; rw [if_neg (by omega), if_neg (by omega), if_pos h]; rfl
    rw [et] at hl ⊢
    refine out_of (nm := fnT 3 i.fn) (ks := (1, nmF lgA.rs i.dst, 0) :: (3, [44], 0) :: (1, nmF lgA.rs i.a, 0) :: (3, [44], 0) :: (orK lgA i.b i.imm ++ [])) hf hl ?_ (if_neg (by omega)) ?_
    · rw [line3]
      exact toks_line (fnA_cases hfn).2.2.2 (toks_reg lgA_ok hd.1 hd.2 rfl (.mrk (by decide) (toks_reg lgA_ok ha.1 ha.2 rfl (.mrk (by decide) (toks_or lgA_ok (hb.imp id And.left) hi rfl rfl .nil)))))
    · rw [show ({ i with to := 0 } : In) = { none_ 3 with dst := i.dst, a := i.a, b := i.b, imm := i.imm, fn := i.fn } from by rw [e]; rfl]
      exact ard_3 hd ha hb hi hfn
  · obtain ⟨hd, ha, haw, e⟩ := fm4 hf h
    have et : paT i lb = lineF (ldT i.acq i.wk ++ szT 3 i.sz) [nmF lgA.rs i.dst, atF lgA.rs i] := by unfold paT; rw [if_neg (by omega), if_neg (by omega), if_neg (by omega), if_pos h]; rfl
    rw [et] at hl ⊢
    refine out_of (nm := (ldT i.acq i.wk ++ szT 3 i.sz)) hf hl ?_ (if_neg (by omega)) ?_ (ks := (1, nmF lgA.rs i.dst, 0) :: (3, [44], 0) :: (memK lgA i ++ []))
    · rw [line2]
      exact toks_line (ld_ok (sz_cases ha) haw).h7 (toks_reg lgA_ok hd.1 hd.2 rfl (.mrk (by decide) (toks_mem lgA_ok ha .nil)))
    · have := ard_4 hd ha haw
      rw [show ({ i with to := 0 } : In) = { none_ 4 with dst := i.dst, loc := i.loc, off := i.off, ix := i.ix, sz := i.sz, acq := i.acq, wk := i.wk } from by rw [e]; rfl]
      exact this
  · obtain ⟨ha, hb, e⟩ := fm5 hf h
    have hq : ¬ i.a < 0 := fun hq => hne (by unfold paT; rw [if_neg (by omega), if_neg (by omega), if_neg (by omega), if_neg (by omega), if_pos h, if_pos hq])
    have hb : (0 ≤ i.a ∧ i.a < 8) ∧ i.imm = 0 := hb.resolve_left (by omega)
    have et : paT i lb = lineF (stT i.rel ++ szT 3 i.sz) [nmF lgA.rs i.a, atF lgA.rs i] := by unfold paT; rw [if_neg (by omega), if_neg (by omega), if_neg (by omega), if_neg (by omega), if_pos h, if_neg hq]; rfl
    rw [et] at hl ⊢
    refine out_of (nm := (stT i.rel ++ szT 3 i.sz)) hf hl ?_ (if_neg (by omega)) ?_ (ks := (1, nmF lgA.rs i.a, 0) :: (3, [44], 0) :: (memK lgA i ++ []))
    · rw [line2]
      exact toks_line (st_ok (sz_cases ha)).h7 (toks_reg lgA_ok hb.1.1 hb.1.2 rfl (.mrk (by decide) (toks_mem lgA_ok ha .nil)))
    · have := ard_5 hb.1 ha
      rw [show ({ i with to := 0 } : In) = { none_ 5 with a := i.a, loc := i.loc, off := i.off, ix := i.ix, sz := i.sz, rel := i.rel } from by rw [e, hb.2]; rfl]
      exact this
  · obtain ⟨hd, ha', ha, hfn, e⟩ := fm6 hf h
    have et : paT i lb = lineF (swT i) [nmF lgA.rs i.a, nmF lgA.rs i.dst, atF lgA.rs i] := by unfold paT; rw [if_neg (by omega), if_neg (by omega), if_neg (by omega), if_neg (by omega), if_neg (by omega), if_pos h]; rfl
    rw [et] at hl ⊢
    refine out_of (nm := swT i) hf hl ?_ (if_neg (by omega)) ?_ (ks := (1, nmF lgA.rs i.a, 0) :: (3, [44], 0) :: (1, nmF lgA.rs i.dst, 0) :: (3, [44], 0) :: (memK lgA i ++ []))
    · rw [line3]
      exact toks_line (sw_ok i hfn (sz_cases ha)).h7 (toks_reg lgA_ok ha'.1 ha'.2 rfl (.mrk (by decide) (toks_reg lgA_ok hd.1 hd.2 rfl (.mrk (by decide) (toks_mem lgA_ok ha .nil)))))
    · have := ard_6 hd ha' ha hfn
      rw [show ({ i with to := 0 } : In) = { none_ 6 with dst := i.dst, a := i.a, loc := i.loc, off := i.off, ix := i.ix, sz := i.sz, fn := i.fn, acq := i.acq, rel := i.rel } from by rw [e]; rfl]
      exact this
  · obtain ⟨hp, hs, e⟩ := fm7 hf h
    have hw : ∃ w, paT i lb = lineF [68, 77, 66] [w] ∧ nmB w = true ∧ 0 ≤ brI w ∧ prA (brI w) = i.pr ∧ suA (brI w) = i.su := by
      by_cases h1 : i.pr = 3 ∧ i.su = 3
      · exact ⟨[83, 89], by unfold paT; rw [if_neg (by omega), if_neg (by omega), if_neg (by omega), if_neg (by omega), if_neg (by omega), if_neg (by omega), if_pos h, if_pos h1], by decide, by decide, by rw [h1.1]; decide, by rw [h1.2]; decide⟩
      by_cases h2 : i.pr = 1 ∧ i.su = 3
      · exact ⟨[76, 68], by unfold paT; rw [if_neg (by omega), if_neg (by omega), if_neg (by omega), if_neg (by omega), if_neg (by omega), if_neg (by omega), if_pos h, if_neg h1, if_pos h2], by decide, by decide, by rw [h2.1]; decide, by rw [h2.2]; decide⟩
      by_cases h3 : i.pr = 2 ∧ i.su = 2
      · exact ⟨[83, 84], by unfold paT; rw [if_neg (by omega), if_neg (by omega), if_neg (by omega), if_neg (by omega), if_neg (by omega), if_neg (by omega), if_pos h, if_neg h1, if_neg h2, if_pos h3], by decide, by decide, by rw [h3.1]; decide, by rw [h3.2]; decide⟩
      exact absurd (by unfold paT; rw [if_neg (by omega), if_neg (by omega), if_neg (by omega), if_neg (by omega), if_neg (by omega), if_neg (by omega), if_pos h, if_neg h1, if_neg h2, if_neg h3]) hne
    obtain ⟨w, et, w1, w2, w3, w4⟩ := hw
    rw [et] at hl ⊢
    refine out_of (nm := [68, 77, 66]) hf hl ?_ (if_neg (by omega)) ?_ (ks := (1, w, 0) :: [])
    · rw [line1]
      exact toks_line (by decide) (.nam w1 rfl .nil)
    · rw [show ({ i with to := 0 } : In) = { none_ 7 with pr := i.pr, su := i.su } from by rw [e]; rfl]
      exact ard_7 w2 w3 w4
  · have e := fm8 hf h
    have et : paT i lb = [73, 83, 66] := by unfold paT; rw [if_neg (by omega), if_neg (by omega), if_neg (by omega), if_neg (by omega), if_neg (by omega), if_neg (by omega), if_neg (by omega), if_pos h]
    rw [et] at hl ⊢
    refine out_of (nm := [73, 83, 66]) hf hl ?_ (if_neg (by omega)) ?_ (ks := [])
    · exact Toks.nam (w := [73, 83, 66]) (r := []) (by decide) rfl .nil
    · rw [show ({ i with to := 0 } : In) = none_ 8 from by rw [e]; rfl]
      exact ard_8
  · obtain ⟨ha, e⟩ := fm9 hf h
    have et : paT i lb = lineF (brT 3 i.ze) [nmF lgA.rs i.a, lb] := by unfold paT; rw [if_neg (by omega), if_neg (by omega), if_neg (by omega), if_neg (by omega), if_neg (by omega), if_neg (by omega), if_neg (by omega), if_neg (by omega), if_pos h]; rfl
    rw [et] at hl ⊢
    have hnm : nmB (brT 3 i.ze) = true := by cases i.ze <;> decide
    refine out_of (nm := (brT 3 i.ze)) hf hl ?_ (if_pos h) ?_ (ks := (1, nmF lgA.rs i.a, 0) :: (3, [44], 0) :: (1, lb, 0) :: [])
    · rw [line2]
      exact toks_line hnm (toks_reg lgA_ok ha.1 ha.2 rfl (.mrk (by decide) (.nam (named_nm (hn h)) rfl .nil)))
    · rw [show ({ i with to := 0 } : In) = { none_ 9 with a := i.a, ze := i.ze } from by rw [e]; rfl]
      exact ard_9 ha
/-! What was read can be printed. -/
theorem memA_is (nm : List UInt8) (h : (memA nm).2 = true) : (∃ x y z, (memA nm).1 = { none_ 4 with acq := x, wk := y, sz := z }) ∨ (∃ x z, (memA nm).1 = { none_ 5 with rel := x, sz := z }) ∨ (∃ f x y z, (memA nm).1 = { none_ 6 with fn := f, acq := x, rel := y, sz := z }) := by
  unfold memA at h ⊢
  dsimp only at h ⊢
  split
  · exact .inl ⟨_, _, _, rfl⟩
  split
  · exact .inr (.inl ⟨_, _, rfl⟩)
  rename_i h1 h2
  rw [if_neg h1, if_neg h2] at h
  split
  · rename_i h3
    rw [if_pos h3] at h
    unfold restA at h ⊢
    split
    · exact .inr (.inr ⟨6, _, _, _, rfl⟩)
    · rename_i h4; rw [if_neg h4] at h; cases h
  rename_i h3
  rw [if_neg h3] at h
  split
  · rename_i h4
    rw [if_pos h4] at h
    unfold restA at h ⊢
    split
    · exact .inr (.inr ⟨1, _, _, _, rfl⟩)
    · rename_i h5; rw [if_neg h5] at h; cases h
  · rename_i h4; rw [if_neg h4] at h; cases h
theorem pa5_ne {dst a b imm loc off ix sz fn pr su to : Int} {acq wk rel ze : Bool} {lb : List UInt8} (h : 0 ≤ a) : paT ⟨5, dst, a, b, imm, loc, off, ix, sz, fn, acq, wk, rel, pr, su, to, ze⟩ lb ≠ [] := by
  have h' : ¬ a < 0 := by omega
  simp [paT, h', line_ne]
theorem pa7_ne {k : Int} {lb : List UInt8} : paT { none_ 7 with pr := prA k, su := suA k } lb ≠ [] := by
  unfold prA suA
  by_cases h1 : k = 1
  · subst h1; exact line_ne
  by_cases h2 : k = 2
  · subst h2; exact line_ne
  rw [if_neg h1, if_neg h2]
  exact line_ne
theorem arm_good (ts : List Tk) (nm : List UInt8) (s : RS) : GoodR ts paT (readAP ts nm s) := by
  unfold readAP
  split
  · dsimp only
    intro _ _ _
    refine ⟨?_, rfl, eit_in _ _ _, ?_⟩
    · by_cases h : 0 ≤ (eitP lgA ts (markP ts [44] (regP lgA ts s).2)).1.1
      · rw [if_pos h]; exact line_ne
      · rw [if_neg h]; exact line_ne
    · by_cases h : 0 ≤ (eitP lgA ts (markP ts [44] (regP lgA ts s).2)).1.1
      · rw [if_pos h]; rfl
      · rw [if_neg h]; rfl
  split
  · dsimp only
    intro _ _ _
    exact ⟨line_ne, rfl, eit_in _ _ _, rfl⟩
  split
  · dsimp only
    intro _ _ _
    exact ⟨pa7_ne, rfl, zero_in, rfl⟩
  split
  · intro _ _ _
    exact ⟨fun h => absurd (show ([73, 83, 66] : List UInt8) = [] from h) (by decide), rfl, zero_in, rfl⟩
  split
  · dsimp only
    intro _ he _
    exact ⟨line_ne, rfl, zero_in, word_ok he⟩
  split
  · rename_i hm
    rcases memA_is nm hm with ⟨x, y, z, e⟩ | ⟨x, z, e⟩ | ⟨f, x, y, z, e⟩
    · rw [e, if_pos (show ({ none_ 4 with acq := x, wk := y, sz := z } : In).op = 4 from rfl)]
      dsimp only
      intro _ _ _
      obtain ⟨p, q, r, e⟩ := mem_keep lgA ts { none_ 4 with acq := x, wk := y, sz := z, dst := (regP lgA ts s).1 } z (markP ts [44] (regP lgA ts s).2)
      rw [e]
      exact ⟨line_ne, rfl, zero_in, rfl⟩
    · rw [e, if_neg (show ¬ ({ none_ 5 with rel := x, sz := z } : In).op = 4 from by show ¬ (5 : Int) = 4; decide), if_pos (show ({ none_ 5 with rel := x, sz := z } : In).op = 5 from rfl)]
      dsimp only
      intro _ _ _
      obtain ⟨p, q, r, e⟩ := mem_keep lgA ts { none_ 5 with rel := x, sz := z, a := (regP lgA ts s).1 } z (markP ts [44] (regP lgA ts s).2)
      rw [e]
      have hnn : 0 ≤ (regP lgA ts s).1 := of_nn _ _ _
      exact ⟨pa5_ne hnn, rfl, zero_in, rfl⟩
    · rw [e, if_neg (show ¬ ({ none_ 6 with fn := f, acq := x, rel := y, sz := z } : In).op = 4 from by show ¬ (6 : Int) = 4; decide), if_neg (show ¬ ({ none_ 6 with fn := f, acq := x, rel := y, sz := z } : In).op = 5 from by show ¬ (6 : Int) = 5; decide)]
      dsimp only
      intro _ _ _
      obtain ⟨p, q, r, e⟩ := mem_keep lgA ts { none_ 6 with fn := f, acq := x, rel := y, sz := z, a := (regP lgA ts s).1, dst := (regP lgA ts (markP ts [44] (regP lgA ts s).2)).1 } z (markP ts [44] (regP lgA ts (markP ts [44] (regP lgA ts s).2)).2)
      rw [e]
      exact ⟨line_ne, rfl, zero_in, rfl⟩
  · intro h; cases h
theorem arm_len (i : In) (lb : List UInt8) (hf : formP i = true) (hi : in64 i.imm) : (paT i lb).length ≤ lb.length + 150 := by
  have n1 := nm_len3 3 i.dst
  have n2 := nm_len3 3 i.a
  have f1 := fn_len 3 i.fn
  have b1 := br_len 3 i.ze
  have o0 := or_len 3 (-1) i.imm [35] (by decide) hi
  have o1 := or_len 3 i.b i.imm [35] (by decide) hi
  unfold paT
  split
  · exact line2_len (by show 3 + _ + _ + 2 ≤ _; omega)
  split
  · exact line2_len (by show 3 + _ + _ + 2 ≤ _; omega)
  split
  · exact line3_len (by omega)
  split
  · rename_i h
    obtain ⟨_, ha, hq, _⟩ := fm4 hf h
    have h1 := at_len (a := 3) ha
    have h2 := (ld_ok (sz_cases ha) hq).h8
    exact line2_len (by omega)
  split
  · rename_i h
    obtain ⟨ha, _⟩ := fm5 hf h
    have h1 := at_len (a := 3) ha
    have h2 := (st_ok (sz_cases ha) (rel := i.rel)).h8
    split
    · exact Nat.zero_le _
    · exact line2_len (by omega)
  split
  · rename_i h
    obtain ⟨_, _, ha, hfn, _⟩ := fm6 hf h
    have h1 := at_len (a := 3) ha
    have h2 := (sw_ok i hfn (sz_cases ha)).h8
    exact line3_len (by omega)
  split
  · have e1 : ∀ w : List UInt8, w.length ≤ 2 → (lineF [68, 77, 66] [w]).length ≤ lb.length + 150 := by
      intro w hw
      rw [line1]; simp; omega
    split
    · exact e1 _ (by decide)
    split
    · exact e1 _ (by decide)
    split
    · exact e1 _ (by decide)
    · exact Nat.zero_le _
  split
  · show 3 ≤ _; omega
  split
  · exact line2_len (by omega)
  · exact Nat.zero_le _
theorem arm_back : Back readAP paT := ⟨arm_out, arm_good, arm_len⟩
end SX
end Go.Proofs.YthkedcneehdinaaGreatDoor

/- Words of a text, plain: blanks first. -/
set_option linter.unusedVariables false
namespace Go.Proofs.YthkedcneehdinaaGreatDoor
namespace SX
open Go Go.Proofs
end SX
end Go.Proofs.YthkedcneehdinaaGreatDoor

/- Words of a text: the reference's small functions. -/
set_option linter.unusedVariables false
set_option maxRecDepth 100000
namespace Go.Proofs.YthkedcneehdinaaGreatDoor
namespace SX
open Go Go.Proofs
end SX
end Go.Proofs.YthkedcneehdinaaGreatDoor

/- Words of a text: the reference's numbers. -/
set_option linter.unusedVariables false
set_option maxRecDepth 100000
namespace Go.Proofs.YthkedcneehdinaaGreatDoor
namespace SX
open Go Go.Proofs
end SX
end Go.Proofs.YthkedcneehdinaaGreatDoor

/- Words of a text: the reference's Value. Printed by rkc.py. -/
set_option linter.unusedVariables false
set_option maxRecDepth 100000
namespace Go.Proofs.YthkedcneehdinaaGreatDoor
namespace SX
open Go Go.Proofs
end SX
end Go.Proofs.YthkedcneehdinaaGreatDoor

/- Words of a text: where a comment ends, plain; the reference's blanks, plain. -/
set_option linter.unusedVariables false
set_option maxRecDepth 100000
namespace Go.Proofs.YthkedcneehdinaaGreatDoor
namespace SX
open Go Go.Proofs
end SX
end Go.Proofs.YthkedcneehdinaaGreatDoor

/- Words of a text: the reference's blanks. -/
set_option linter.unusedVariables false
set_option maxRecDepth 100000
namespace Go.Proofs.YthkedcneehdinaaGreatDoor
namespace SX
open Go Go.Proofs
end SX
end Go.Proofs.YthkedcneehdinaaGreatDoor

/- Words of a text: the reference's Tokens (written by tools/rkf.py). -/
set_option linter.unusedVariables false
set_option maxRecDepth 100000
namespace Go.Proofs.YthkedcneehdinaaGreatDoor
namespace SX
open Go Go.Proofs
end SX
end Go.Proofs.YthkedcneehdinaaGreatDoor

/- Is a text one name: the reference's answer. -/
set_option linter.unusedVariables false
set_option maxRecDepth 100000
namespace Go.Proofs.YthkedcneehdinaaGreatDoor
namespace SX
open Go Go.Proofs
end SX
end Go.Proofs.YthkedcneehdinaaGreatDoor

/- Readers of words: rules; the cursor's functions. -/
set_option linter.unusedVariables false
set_option maxRecDepth 100000
namespace Go.Proofs.YthkedcneehdinaaGreatDoor
namespace SX
open Go Go.Proofs
section
variable {P : Program} {T : Tb}
/-- A function that hands back a value, and leaves the blocks that it is lent so. -/
theorem Ctr.enterH (hT : TabOk P T) {f : FuncId} {fn : Func} {c : Code} {n : Nat} (hf : P.funcs[f]? = some fn) (hb : fn.body = some c) (hn : fn.ntmps = n) (hnm : (fn.name == "runtime.NumGoroutine") = false) {args : List SV} {H H' : List SB} {r : SV}
    (hl : Nat.ble args.length n = true) (hr : Bnd H'.length r) (hH : BndH H'.length H') (hle : H.length ≤ H'.length) (h : sx P T c (retK T fn.results.toList (fun r' h => r' = r ∧ ∃ X, h = H' ++ X)) ⟨args ++ List.replicate (n - args.length) .dead, H⟩) : Ctr P f args H (fun r' h => r' = r ∧ h = H') := by
  have h1 := Ctr.enter hT hf hb hn hnm hl h
  exact h1.trim callX_m fun r' H1 ⟨e, X, hX⟩ => ⟨H', X, hX, hle, hH, by rw [e]; exact hr, e, rfl⟩
variable {ops : Array Oper} {o : Oper}
/-- A call that is lent the blocks ks, and hands them back so. -/
theorem OpC.callH {K : St → Prop} {t : List SV} {h : List SB} {c : Call} (hop : o.op = .call c) {fo : Operand} (hcal : c.callee = .value fo) (hg : guardOf ops t o = some []) {f : FuncId} {fst caps : List SV} (hf : calB (evG [] t fo) = some (f, fst, caps))
    (ks : List Nat) {ρ : Nat → Nat} (hρ : rho ks h.length = ρ) {args0 : List SV} {H0 H1 : List SB} {r0 : SV} (hc : Ctr P f args0 H0 (fun r h => r = r0 ∧ h = H1))
    (ha : fst ++ (c.args.toList.map (evG [] t) ++ caps) = renL ρ args0) (hl : (c.args.toList.map (evG [] t)).all live = true) (hnd : nodupB ks = true) (hks : ks.length = H0.length) (hH : Lent ρ h H0 0) (hlen : H1.length = H0.length)
    (hK : setBK h (zipB ρ H1 0) fun h2 => putK t h2 o.dst (ren ρ r0) K) : OpC P T ops o K ⟨t, h⟩ := by
  refine OpC.callL hop hcal hg hf ks 0 (ns := []) rfl (h1 := h) (by simp) (ρ := ρ) (by rw [List.append_nil]; exact hρ) hc ha hl (by rw [List.append_nil]; exact hnd) hks hH rfl (fun r H' hk => ?_) ?_
  · rw [hk.2, List.append_nil, hlen, hks]; exact ⟨Nat.le_refl _, Nat.le_refl _⟩
  · rintro r H' ⟨rfl, rfl⟩
    exact hK
end
section
variable (ts : List Tk) (ad : Option Addr) (cap : Nat)
def curB (p : Nat) : SB := .mem 158 [.imm Tk tk0 4 tkenc ts ad cap, .i .i64 p] 1 0
def rdrB (c l : Nat) (lb : List UInt8) (e q : Int) : SB := .mem 107 [.ptr c 1 0 [], .ptr l 1 0 [], .s lb, .i .i64 e, .i .i64 q] 1 0
end
variable {ts : List Tk} {ad : Option Addr} {cap : Nat}
theorem bndCur {M p : Nat} : BndB M (curB ts ad cap p) := ⟨rfl, rfl, trivial⟩
theorem wfn {p : Nat} (hp : p ≤ ts.length) (hl : ts.length ≤ 100000) : IntKind.i64.wrap ((p : Int) + 1) = ((p + 1 : Nat) : Int) := w64 (by omega) (by omega)
theorem left_ok {p : Nat} (hp : p ≤ ts.length) (hl : ts.length ≤ 100000) : Ctr Tryz.prog 70 [.ptr 0 1 0 []] [curB ts ad cap p] (fun r h => r = .i .i64 ((ts.length - p : Nat) : Int) ∧ h = [curB ts ad cap p]) := by
  have e : IntKind.i64.wrap ((ts.length : Int) - (p : Int)) = ((ts.length - p : Nat) : Int) := by rw [w64 (by omega) (by omega)]; omega
  rw [← e]
  refine Ctr.enterH tabOkF (fn := Tryz.f70) rfl rfl rfl rfl rfl rfl ⟨bndCur, trivial⟩ (Nat.le_refl _) ?_
  refine WpC.dr tabOkF mixed 0 ?_
  refine ⟨by kernel_rfl, ?_⟩
  exact ⟨rfl, _, rfl⟩
theorem peek_ok {p : Nat} (hp : p ≤ ts.length) : Ctr Tryz.prog 124 [.ptr 0 1 0 []] [curB ts ad cap p] (fun r h => r = .tup [.agg (tkenc (tkAt ts p)), .b (decide (p < ts.length))] ∧ h = [curB ts ad cap p]) := by
  refine Ctr.enterH tabOkF (fn := Tryz.f124) rfl rfl rfl rfl rfl rfl ⟨bndCur, trivial⟩ (Nat.le_refl _) ?_
  refine WpC.dr tabOkF mixed 0 ?_
  refine ⟨by kernel_rfl, ?_⟩
  refine ⟨fun h1 => ?_, fun h1 => ?_⟩
  · have h1 : (p : Int) = (ts.length : Int) := of_decide_eq_true h1
    have e1 : tkAt ts p = tk0 := by unfold tkAt; rw [List.getD_eq_getElem?_getD, List.getElem?_eq_none (by omega)]; rfl
    rw [e1, decide_eq_false (by omega)]
    exact ⟨rfl, _, rfl⟩
  · have h1 : ¬ (p : Int) = (ts.length : Int) := of_decide_eq_false h1
    rw [decide_eq_true (by omega)]
    refine WpC.dr tabOkF mixed 0 ?_
    refine ⟨fun _ => ⟨by omega, by omega⟩, ?_⟩
    refine ⟨by kernel_rfl, ?_⟩
    exact ⟨rfl, _, rfl⟩
theorem next_ok {p : Nat} (hp : p < ts.length) (hl : ts.length ≤ 100000) : Ctr Tryz.prog 198 [.ptr 0 1 0 []] [curB ts ad cap p] (fun r h => r = .tup [.agg (tkenc (tkAt ts p)), .b true] ∧ h = [curB ts ad cap (p + 1)]) := by
  have hk := peek_ok (ad := ad) (cap := cap) (p := p) (ts := ts) (by omega)
  rw [decide_eq_true hp] at hk
  have e1 := wfn (ts := ts) (p := p) (by omega) hl
  have eB : curB ts ad cap (p + 1) = .mem 158 [.imm Tk tk0 4 tkenc ts ad cap, .i .i64 (IntKind.i64.wrap ((p : Int) + 1))] 1 0 := by rw [e1]; rfl
  rw [eB]
  refine Ctr.enterH tabOkF (fn := Tryz.f198) rfl rfl rfl rfl rfl rfl ⟨⟨rfl, rfl, trivial⟩, trivial⟩ (Nat.le_refl _) ?_
  refine OpC.callH rfl rfl rfl rfl [0] rfl hk rfl rfl rfl rfl ⟨rfl, trivial⟩ rfl ?_
  refine ⟨fun _ => ?_, fun h => no_tf h⟩
  exact ⟨rfl, _, rfl⟩
theorem name_ok {p : Nat} (hp : p ≤ ts.length) (hl : ts.length ≤ 100000) : Ctr Tryz.prog 154 [.ptr 0 1 0 []] [curB ts ad cap p]
    (fun r h => r = .tup [.s (if (tkAt ts p).k = 1 then (tkAt ts p).s else []), .b (decide ((tkAt ts p).k = 1))] ∧ h = [curB ts ad cap (if (tkAt ts p).k = 1 then p + 1 else p)]) := by
  have hk := peek_ok (ad := ad) (cap := cap) hp
  by_cases h1 : (tkAt ts p).k = 1
  · have hlt := at_lt (ts := ts) (p := p) (by rw [h1]; decide)
    rw [if_pos h1, if_pos h1, decide_eq_true h1]
    rw [decide_eq_true hlt] at hk
    have e1 := wfn (ts := ts) (p := p) (by omega) hl
    have eB : curB ts ad cap (p + 1) = .mem 158 [.imm Tk tk0 4 tkenc ts ad cap, .i .i64 (IntKind.i64.wrap ((p : Int) + 1))] 1 0 := by rw [e1]; rfl
    rw [eB]
    refine Ctr.enterH tabOkF (fn := Tryz.f154) rfl rfl rfl rfl rfl rfl ⟨⟨rfl, rfl, trivial⟩, trivial⟩ (Nat.le_refl _) ?_
    refine OpC.callH rfl rfl rfl rfl [0] rfl hk rfl rfl rfl rfl ⟨rfl, trivial⟩ rfl ?_
    refine ⟨fun h => ?_, fun _ => ⟨rfl, _, rfl⟩⟩
    have h : (!decide ((tkAt ts p).k = 1)) = true := h
    rw [decide_eq_true h1] at h; cases h
  · rw [if_neg h1, if_neg h1, decide_eq_false h1]
    refine Ctr.enterH tabOkF (fn := Tryz.f154) rfl rfl rfl rfl rfl rfl ⟨bndCur, trivial⟩ (Nat.le_refl _) ?_
    refine OpC.callH rfl rfl rfl rfl [0] rfl hk rfl rfl rfl rfl ⟨rfl, trivial⟩ rfl ?_
    refine ⟨fun _ => ⟨rfl, _, rfl⟩, fun h => ?_⟩
    have h : ((!decide (p < ts.length)) || (!decide ((tkAt ts p).k = 1))) = false := h
    rw [decide_eq_false h1, Bool.not_false, Bool.or_true] at h; cases h
theorem at_ok {p : Nat} (hp : p ≤ ts.length) (hl : ts.length ≤ 100000) : Ctr Tryz.prog 68 [.ptr 0 1 0 []] [curB ts ad cap p] (fun r h => r = .i .i64 (whF ts p) ∧ h = [curB ts ad cap p]) := by
  have hk := peek_ok (ad := ad) (cap := cap) hp
  refine Ctr.enterH tabOkF (fn := Tryz.f68) rfl rfl rfl rfl rfl rfl ⟨bndCur, trivial⟩ (Nat.le_refl _) ?_
  refine OpC.callH rfl rfl rfl rfl [0] rfl hk rfl rfl rfl rfl ⟨rfl, trivial⟩ rfl ?_
  unfold whF
  refine ⟨fun h1 => ?_, fun h1 => ?_⟩
  · have h1 : p < ts.length := of_decide_eq_true h1
    rw [if_pos h1]
    exact ⟨rfl, _, rfl⟩
  · have h1 : ¬ p < ts.length := of_decide_eq_false h1
    rw [if_neg h1]
    refine ⟨fun h2 => ?_, fun h2 => ?_⟩
    · have h2 : (ts.length : Int) = 0 := of_decide_eq_true h2
      rw [if_pos (by omega)]
      exact ⟨rfl, _, rfl⟩
    · have h2 : ¬ (ts.length : Int) = 0 := of_decide_eq_false h2
      rw [if_neg (by omega)]
      have e1 : IntKind.i64.wrap ((ts.length : Int) - 1) = ((ts.length - 1 : Nat) : Int) := by rw [w64 (by omega) (by omega)]; omega
      refine WpC.dr tabOkF mixed 1 ?_
      refine ⟨fun _ => ?_, ?_⟩
      · show (0 : Int) ≤ IntKind.i64.wrap ((ts.length : Int) - 1) ∧ IntKind.i64.wrap ((ts.length : Int) - 1) < (ts.length : Int)
        rw [e1]; omega
      refine ⟨by kernel_rfl, ?_⟩
      refine ⟨i_cg ?_, _, rfl⟩
      show IntKind.i64.wrap ((ts.getD (IntKind.i64.wrap ((ts.length : Int) - 1)).toNat tk0).a + ((ts.getD (IntKind.i64.wrap ((ts.length : Int) - 1)).toNat tk0).s.length : Int)) = _
      rw [e1, Int.toNat_natCast]; rfl
end SX
end Go.Proofs.YthkedcneehdinaaGreatDoor

/- Readers of words: Take of one mark. -/
set_option linter.unusedVariables false
set_option maxRecDepth 100000
namespace Go.Proofs.YthkedcneehdinaaGreatDoor
namespace SX
open Go Go.Proofs
variable {ts : List Tk} {ad : Option Addr} {cap : Nat}
theorem take_in {m : List UInt8} {p : Nat} (hlt : p < ts.length) (e0 : IntKind.i64.wrap ((p : Int) + ((0 : Nat) : Int)) = (p : Int)) : ((!decide ((ts.getD (IntKind.i64.wrap ((p : Int) + ((0 : Nat) : Int))).toNat tk0).s = m)) || decide ((ts.getD (IntKind.i64.wrap ((p : Int) + ((0 : Nat) : Int))).toNat tk0).k = 2)) = !takeB ts m p := by
  rw [e0, Int.toNat_natCast]
  show ((!decide ((tkAt ts p).s = m)) || decide ((tkAt ts p).k = 2)) = _
  unfold takeB
  rw [decide_eq_true hlt]
  cases decide ((tkAt ts p).s = m) <;> cases decide ((tkAt ts p).k = 2) <;> rfl
theorem take_ok {m : List UInt8} {p : Nat} {b : Bool} {q : Nat} (hb : takeB ts m p = b) (hq : q = if b then p + 1 else p) (hp : p ≤ ts.length) (hl : ts.length ≤ 100000) : Ctr Tryz.prog 188 [.ptr 0 1 0 [], .sl 1 1 0 1 (some 1) 0] [curB ts ad cap p, strB [m]] (fun r h => r = .b b ∧ h = [curB ts ad cap q, strB [m]]) := by
  have hL := left_ok (ad := ad) (cap := cap) hp hl
  have e0 : IntKind.i64.wrap ((p : Int) + ((0 : Nat) : Int)) = (p : Int) := w64 (by omega) (by omega)
  have e1 : IntKind.i64.wrap ((p : Int) + 1) = ((p + 1 : Nat) : Int) := wfn hp hl
  have eB : ∀ x : Int, x = ((p + 1 : Nat) : Int) → .mem 158 [.imm Tk tk0 4 tkenc ts ad cap, .i .i64 x] 1 0 = curB ts ad cap (p + 1) := fun x h => by rw [h]; rfl
  refine Ctr.enterH tabOkF (fn := Tryz.f188) rfl rfl rfl rfl rfl rfl ⟨bndCur, ⟨rfl, trivial⟩, trivial⟩ (Nat.le_refl _) ?_
  refine OpC.callH rfl rfl rfl rfl [0] rfl hL rfl rfl rfl rfl ⟨rfl, trivial⟩ rfl ?_
  refine ⟨fun h1 => ?_, fun h1 => ?_⟩
  · have h1 : ((ts.length - p : Nat) : Int) < 1 := of_decide_eq_true h1
    have hbf : b = false := by
      rw [← hb]; unfold takeB; rw [decide_eq_false (by omega)]; rfl
    subst hbf
    rw [hq]
    exact ⟨rfl, _, rfl⟩
  · have h1 : ¬ ((ts.length - p : Nat) : Int) < 1 := of_decide_eq_false h1
    have hlt : p < ts.length := by omega
    have ht := take_in (m := m) hlt e0
    rw [hb] at ht
    refine WpC.loop tabOkF (β := Nat) (fun k => k = 0 ∨ (k = 1 ∧ b = true)) (fun k => [(15, .i .i64 k)]) (fun _ => [curB ts ad cap p, strB [m]]) (fun k => 1 - k) 0 (2 ^ 51 - 1 - 3 - 2 ^ 14 - 2 ^ 13) (.inl rfl) ?_ ?_
    · exact ⟨rfl, ⟨⟨rfl, rfl, rfl⟩, trivial⟩, ⟨[], rfl⟩, ⟨bndCur, ⟨rfl, trivial⟩, trivial⟩, rfl⟩
    · rintro k (rfl | ⟨rfl, hbt⟩)
      · refine ⟨fun _ => ?_, fun h => no_tf h⟩
        refine ⟨fun _ => by decide, ?_⟩
        refine WpC.dr tabOkF mixed 1 ?_
        refine ⟨fun _ => ?_, ?_⟩
        · show (0 : Int) ≤ IntKind.i64.wrap ((p : Int) + ((0 : Nat) : Int)) ∧ IntKind.i64.wrap ((p : Int) + ((0 : Nat) : Int)) < (ts.length : Int)
          rw [e0]; omega
        refine ⟨by kernel_rfl, ?_⟩
        refine ⟨fun h2 => ?_, fun h2 => ?_⟩
        · have h2 := ht.symm.trans h2
          have hbf : b = false := by cases b with | false => rfl | true => cases h2
          subst hbf
          rw [hq]
          exact ⟨rfl, _, rfl⟩
        · have h2 := ht.symm.trans h2
          have hbt : b = true := by cases b with | true => rfl | false => cases h2
          exact ⟨1, .inr ⟨rfl, hbt⟩, by decide, rfl, ⟨⟨rfl, rfl, rfl⟩, trivial⟩, ⟨_, rfl⟩, ⟨bndCur, ⟨rfl, trivial⟩, trivial⟩, rfl⟩
      · refine ⟨fun h => no_ft h, fun _ => ?_⟩
        subst hbt
        rw [hq, if_pos rfl]
        refine ⟨rfl, [], ?_⟩
        rw [← eB _ e1]
        rfl
end SX
end Go.Proofs.YthkedcneehdinaaGreatDoor

/- Readers of words: the reader's small functions. -/
set_option linter.unusedVariables false
set_option maxRecDepth 100000
namespace Go.Proofs.YthkedcneehdinaaGreatDoor
namespace SX
open Go Go.Proofs
/-- What a reader stands on: a language, a row of words, a label. -/
structure Rc where
  L : Lg
  rd : Nat
  pr : Nat
  ts : List Tk
  ad : Option Addr
  cap : Nat
  lb : List UInt8
def hR (c : Rc) (s : RS) : List SB := [rowS c.L.s0 c.L.s1 c.L.s2 c.L.s3 c.L.s4 c.L.s5 c.L.s6 c.L.s7, langB c.L.h c.rd c.pr, curB c.ts c.ad c.cap s.p, rdrB 2 1 c.lb s.e s.q]
theorem bndR {c : Rc} {s : RS} : BndH 4 (hR c s) := ⟨⟨rfl, rfl, rfl, rfl, rfl, rfl, rfl, rfl, trivial⟩, ⟨rfl, rfl, rfl, rfl, trivial⟩, bndCur, ⟨rfl, rfl, rfl, rfl, rfl, trivial⟩, trivial⟩
/-- A state that may be. -/
structure Rk (c : Rc) (s : RS) : Prop where
  p : s.p ≤ c.ts.length
  l : c.ts.length ≤ 100000
variable {c : Rc} {s : RS}
theorem Rk.fail (h : Rk c s) (e q : Int) : Rk c (failF s e q) := by
  unfold failF; split
  · exact ⟨h.p, h.l⟩
  · exact h
theorem Rk.miss (h : Rk c s) : Rk c (missP c.ts s) := by unfold missP; split <;> exact h.fail _ _
theorem Rk.go (h : Rk c s) (hl : s.p < c.ts.length) : Rk c (goF s) := ⟨hl, h.l⟩
theorem take_lt {ts : List Tk} {m : List UInt8} {p : Nat} (h : takeB ts m p = true) : p < ts.length := by
  unfold takeB at h
  simp only [Bool.and_eq_true, decide_eq_true_eq] at h
  exact h.1
theorem Rk.mark (h : Rk c s) (m : List UInt8) : Rk c (markP c.ts m s) := by
  unfold markP
  split
  · split
    · rename_i ht; exact h.go (take_lt ht)
    · exact h.miss
  · exact h
theorem Rk.word (h : Rk c s) : Rk c (wordP c.ts s).2 := by
  unfold wordP
  split
  · split
    · rename_i hk; exact h.go (at_lt (by rw [hk]; decide))
    · exact h.miss
  · exact h
theorem Rk.of (h : Rk c s) (f : List UInt8 → Int) : Rk c (ofP f c.ts s).2 := by
  unfold ofP
  split
  · exact h.word.fail _ _
  · exact h.word
theorem rfail_ok (e q : Int) : Ctr Tryz.prog 71 [.ptr 3 1 0 [], .i .i64 e, .i .i64 q] (hR c s) (fun r h => r = .tup [] ∧ h = hR c (failF s e q)) := by
  obtain ⟨p, e0, q0⟩ := s
  by_cases he : e0 = 0
  · subst he
    refine Ctr.enterH tabOkF (fn := Tryz.f71) rfl rfl rfl rfl rfl rfl bndR (Nat.le_refl _) ?_
    refine ⟨fun _ => ?_, fun h => no_tf h⟩
    exact ⟨rfl, _, rfl⟩
  · have e1 : failF ⟨p, e0, q0⟩ e q = ⟨p, e0, q0⟩ := fail_dead he e q
    rw [e1]
    refine Ctr.enterH tabOkF (fn := Tryz.f71) rfl rfl rfl rfl rfl rfl bndR (Nat.le_refl _) ?_
    refine ⟨fun h => absurd (of_decide_eq_true h) he, fun _ => ?_⟩
    exact ⟨rfl, _, rfl⟩
theorem miss_ok (hk : Rk c s) : Ctr Tryz.prog 155 [.ptr 3 1 0 []] (hR c s) (fun r h => r = .tup [] ∧ h = hR c (missP c.ts s)) := by
  refine Ctr.enterH tabOkF (fn := Tryz.f155) rfl rfl rfl rfl rfl rfl bndR (Nat.le_refl _) ?_
  refine OpC.callH rfl rfl rfl rfl [2] rfl (left_ok (ad := c.ad) (cap := c.cap) hk.p hk.l) rfl rfl rfl rfl ⟨rfl, trivial⟩ rfl ?_
  unfold missP
  refine ⟨fun h1 => ?_, fun h1 => ?_⟩
  · have h1 : ((c.ts.length - s.p : Nat) : Int) = 0 := of_decide_eq_true h1
    have h2 : ¬ s.p < c.ts.length := by omega
    rw [if_neg h2]
    refine OpC.callH rfl rfl rfl rfl [2] rfl (at_ok (ad := c.ad) (cap := c.cap) hk.p hk.l) rfl rfl rfl rfl ⟨rfl, trivial⟩ rfl ?_
    refine OpC.callH rfl rfl rfl rfl [0, 1, 2, 3] rfl (rfail_ok 24 (whF c.ts s.p)) rfl rfl rfl rfl ⟨rfl, rfl, rfl, rfl, trivial⟩ rfl ?_
    exact ⟨rfl, _, rfl⟩
  · have h1 : ¬ ((c.ts.length - s.p : Nat) : Int) = 0 := of_decide_eq_false h1
    rw [if_pos (by have := hk.p; omega)]
    refine OpC.callH rfl rfl rfl rfl [2] rfl (at_ok (ad := c.ad) (cap := c.cap) hk.p hk.l) rfl rfl rfl rfl ⟨rfl, trivial⟩ rfl ?_
    refine OpC.callH rfl rfl rfl rfl [0, 1, 2, 3] rfl (rfail_ok 22 (whF c.ts s.p)) rfl rfl rfl rfl ⟨rfl, rfl, rfl, rfl, trivial⟩ rfl ?_
    exact ⟨rfl, _, rfl⟩
theorem nmd_ok (hk : Rk c s) : Ctr Tryz.prog 195 [.ptr 3 1 0 []] (hR c s) (fun r h => r = .b (nmdB c.ts s) ∧ h = hR c s) := by
  have e : nmdB c.ts s = (decide (s.p < c.ts.length) && decide ((tkAt c.ts s.p).k = 1)) := by
    unfold nmdB
    by_cases h3 : (tkAt c.ts s.p).k = 1
    · rw [decide_eq_true h3, decide_eq_true (at_lt (by rw [h3]; decide))]; rfl
    · rw [decide_eq_false h3, Bool.and_false]
  rw [e]
  refine Ctr.enterH tabOkF (fn := Tryz.f195) rfl rfl rfl rfl rfl rfl bndR (Nat.le_refl _) ?_
  refine OpC.callH rfl rfl rfl rfl [2] rfl (peek_ok (ad := c.ad) (cap := c.cap) hk.p) rfl rfl rfl rfl ⟨rfl, trivial⟩ rfl ?_
  exact ⟨rfl, _, rfl⟩
theorem rmark_w (hk : Rk c s) (m : List UInt8) : Ctr Tryz.prog 137 [.ptr 3 1 0 [], .s m] (hR c s) (fun r h => r = .tup [] ∧ h = hR c (markP c.ts m s)) := by
  obtain ⟨p, e0, q0⟩ := s
  by_cases he : e0 = 0
  · subst he
    unfold markP
    rw [if_pos rfl]
    refine Ctr.enterH tabOkF (fn := Tryz.f137) rfl rfl rfl rfl rfl rfl bndR (Nat.le_refl _) ?_
    refine OpC.open 13 rfl rfl rfl ?_
    refine OpC.open 14 rfl rfl rfl ?_
    refine OpC.guardT tabOkF rfl rfl ?_
    refine OpC.guardT tabOkF rfl rfl ?_
    cases hb : takeB c.ts m p with
    | true =>
      refine OpC.callH rfl rfl rfl rfl [2, 4] rfl (take_ok (ad := c.ad) (cap := c.cap) (m := m) hb rfl hk.p hk.l) rfl rfl rfl rfl ⟨rfl, rfl, trivial⟩ rfl ?_
      refine ⟨fun h => no_ft h, fun _ => ?_⟩
      exact ⟨rfl, _, rfl⟩
    | false =>
      refine OpC.callH rfl rfl rfl rfl [2, 4] rfl (take_ok (ad := c.ad) (cap := c.cap) (m := m) hb rfl hk.p hk.l) rfl rfl rfl rfl ⟨rfl, rfl, trivial⟩ rfl ?_
      refine ⟨fun _ => ?_, fun h => no_tf h⟩
      refine OpC.callH rfl rfl rfl rfl [0, 1, 2, 3] rfl (miss_ok (s := ⟨p, 0, q0⟩) hk) rfl rfl rfl rfl ⟨rfl, rfl, rfl, rfl, trivial⟩ rfl ?_
      exact ⟨rfl, _, rfl⟩
  · have e1 : markP c.ts m ⟨p, e0, q0⟩ = ⟨p, e0, q0⟩ := by unfold markP; rw [if_neg he]
    rw [e1]
    refine Ctr.enterH tabOkF (fn := Tryz.f137) rfl rfl rfl rfl rfl rfl bndR (Nat.le_refl _) ?_
    have hg : (decide (e0 = 0) == true) = false := by rw [decide_eq_false he]; rfl
    refine OpC.skipG rfl hg (.raw (.pointer none)) ?_
    refine OpC.skipG rfl hg (.b false) ?_
    refine ⟨fun h => ?_, fun _ => ⟨rfl, _, rfl⟩⟩
    have h : (decide (e0 = 0) && !false) = true := h
    rw [decide_eq_false he] at h; cases h
theorem rword_w (hk : Rk c s) : Ctr Tryz.prog 90 [.ptr 3 1 0 []] (hR c s) (fun r h => r = .tup [.s (wordP c.ts s).1, .i .i64 (whF c.ts s.p)] ∧ h = hR c (wordP c.ts s).2) := by
  obtain ⟨p, e0, q0⟩ := s
  have hat := at_ok (ad := c.ad) (cap := c.cap) hk.p hk.l
  by_cases he : e0 = 0
  · subst he
    unfold wordP
    rw [if_pos rfl]
    have hn := name_ok (ad := c.ad) (cap := c.cap) hk.p hk.l
    by_cases h1 : (tkAt c.ts p).k = 1
    · have h1' : (tkAt c.ts (⟨p, 0, q0⟩ : RS).p).k = 1 := h1
      rw [if_pos h1'] at hn ⊢
      rw [if_pos h1', decide_eq_true h1'] at hn
      refine Ctr.enterH tabOkF (fn := Tryz.f90) rfl rfl rfl rfl rfl rfl bndR (Nat.le_refl _) ?_
      refine OpC.callH rfl rfl rfl rfl [2] rfl hat rfl rfl rfl rfl ⟨rfl, trivial⟩ rfl ?_
      refine ⟨fun h => no_ft h, fun _ => ?_⟩
      refine OpC.callH rfl rfl rfl rfl [2] rfl hn rfl rfl rfl rfl ⟨rfl, trivial⟩ rfl ?_
      refine ⟨fun h => no_ft h, fun _ => ?_⟩
      exact ⟨rfl, _, rfl⟩
    · have h1' : ¬ (tkAt c.ts (⟨p, 0, q0⟩ : RS).p).k = 1 := h1
      rw [if_neg h1'] at hn ⊢
      rw [if_neg h1', decide_eq_false h1'] at hn
      refine Ctr.enterH tabOkF (fn := Tryz.f90) rfl rfl rfl rfl rfl rfl bndR (Nat.le_refl _) ?_
      refine OpC.callH rfl rfl rfl rfl [2] rfl hat rfl rfl rfl rfl ⟨rfl, trivial⟩ rfl ?_
      refine ⟨fun h => no_ft h, fun _ => ?_⟩
      refine OpC.callH rfl rfl rfl rfl [2] rfl hn rfl rfl rfl rfl ⟨rfl, trivial⟩ rfl ?_
      refine ⟨fun _ => ?_, fun h => no_tf h⟩
      refine OpC.callH rfl rfl rfl rfl [0, 1, 2, 3] rfl (miss_ok (s := ⟨p, 0, q0⟩) hk) rfl rfl rfl rfl ⟨rfl, rfl, rfl, rfl, trivial⟩ rfl ?_
      exact ⟨rfl, _, rfl⟩
  · have e1 : wordP c.ts ⟨p, e0, q0⟩ = ([], ⟨p, e0, q0⟩) := by unfold wordP; rw [if_neg he]
    rw [e1]
    refine Ctr.enterH tabOkF (fn := Tryz.f90) rfl rfl rfl rfl rfl rfl bndR (Nat.le_refl _) ?_
    refine OpC.callH rfl rfl rfl rfl [2] rfl hat rfl rfl rfl rfl ⟨rfl, trivial⟩ rfl ?_
    refine ⟨fun _ => ⟨rfl, _, rfl⟩, fun h => ?_⟩
    have h : (!decide (e0 = 0)) = false := h
    rw [decide_eq_false he] at h; cases h
end SX
end Go.Proofs.YthkedcneehdinaaGreatDoor

/- Which register a name is. Cut from XRg. -/
set_option linter.unusedVariables false
set_option maxRecDepth 100000
namespace Go.Proofs.YthkedcneehdinaaGreatDoor
namespace SX
open Go Go.Proofs
set_option maxHeartbeats 1000000 in
theorem index_s (s0 s1 s2 s3 s4 s5 s6 s7 v : List UInt8) : Ctr Tryz.prog 102 [.sl 0 1 0 8 (some 8) 0, .s v] [rowS s0 s1 s2 s3 s4 s5 s6 s7] (fun r h => r = .i .i64 (idxF s0 s1 s2 s3 s4 s5 s6 s7 v) ∧ h = [rowS s0 s1 s2 s3 s4 s5 s6 s7]) := by
  refine Ctr.enterG tabOkF (fn := Tryz.f102) rfl rfl rfl rfl rfl rfl ⟨⟨rfl, rfl, rfl, rfl, rfl, rfl, rfl, rfl, trivial⟩, trivial⟩ ?_
  refine WpC.loop tabOkF (β := Nat) (fun k => k ≤ 8 ∧ (0 < k → v ≠ s0) ∧ (1 < k → v ≠ s1) ∧ (2 < k → v ≠ s2) ∧ (3 < k → v ≠ s3) ∧ (4 < k → v ≠ s4) ∧ (5 < k → v ≠ s5) ∧ (6 < k → v ≠ s6) ∧ (7 < k → v ≠ s7)) (fun k => [(8, .i .i64 k)]) (fun _ => [rowS s0 s1 s2 s3 s4 s5 s6 s7]) (fun k => 8 - k) 0 524080 ⟨by decide, fun h => absurd h (by decide), fun h => absurd h (by decide), fun h => absurd h (by decide), fun h => absurd h (by decide), fun h => absurd h (by decide), fun h => absurd h (by decide), fun h => absurd h (by decide), fun h => absurd h (by decide)⟩ ?_ ?_
  · exact ⟨rfl, ⟨⟨rfl, rfl, rfl⟩, trivial⟩, ⟨[], rfl⟩, ⟨⟨rfl, rfl, rfl, rfl, rfl, rfl, rfl, rfl, trivial⟩, trivial⟩, rfl⟩
  · rintro k ⟨hk, q0, q1, q2, q3, q4, q5, q6, q7⟩
    rcases (by omega : k = 0 ∨ k = 1 ∨ k = 2 ∨ k = 3 ∨ k = 4 ∨ k = 5 ∨ k = 6 ∨ k = 7 ∨ k = 8) with rfl | rfl | rfl | rfl | rfl | rfl | rfl | rfl | rfl
    · refine ⟨fun _ => ?_, fun h => absurd h (by decide)⟩
      refine ⟨fun _ => by decide, ?_⟩
      refine ⟨fun h => ?_, fun h => ?_⟩
      · have e : v = s0 := of_decide_eq_true h
        refine ⟨i_cg ?_, _, rfl⟩
        unfold idxF
        rw [if_pos e]
        rfl
      · have e0 : ¬ v = s0 := of_decide_eq_false h
        exact ⟨1, ⟨by decide, fun _ => e0, fun h => absurd h (by decide), fun h => absurd h (by decide), fun h => absurd h (by decide), fun h => absurd h (by decide), fun h => absurd h (by decide), fun h => absurd h (by decide), fun h => absurd h (by decide)⟩, by decide, rfl, ⟨⟨rfl, rfl, rfl⟩, trivial⟩, ⟨[], rfl⟩, ⟨⟨rfl, rfl, rfl, rfl, rfl, rfl, rfl, rfl, trivial⟩, trivial⟩, rfl⟩
    · have e0 := q0 (by decide)
      refine ⟨fun _ => ?_, fun h => absurd h (by decide)⟩
      refine ⟨fun _ => by decide, ?_⟩
      refine ⟨fun h => ?_, fun h => ?_⟩
      · have e : v = s1 := of_decide_eq_true h
        refine ⟨i_cg ?_, _, rfl⟩
        unfold idxF
        rw [if_neg e0]
        rw [if_pos e]
        rfl
      · have e1 : ¬ v = s1 := of_decide_eq_false h
        exact ⟨2, ⟨by decide, fun _ => e0, fun _ => e1, fun h => absurd h (by decide), fun h => absurd h (by decide), fun h => absurd h (by decide), fun h => absurd h (by decide), fun h => absurd h (by decide), fun h => absurd h (by decide)⟩, by decide, rfl, ⟨⟨rfl, rfl, rfl⟩, trivial⟩, ⟨[], rfl⟩, ⟨⟨rfl, rfl, rfl, rfl, rfl, rfl, rfl, rfl, trivial⟩, trivial⟩, rfl⟩
    · have e0 := q0 (by decide)
      have e1 := q1 (by decide)
      refine ⟨fun _ => ?_, fun h => absurd h (by decide)⟩
      refine ⟨fun _ => by decide, ?_⟩
      refine ⟨fun h => ?_, fun h => ?_⟩
      · have e : v = s2 := of_decide_eq_true h
        refine ⟨i_cg ?_, _, rfl⟩
        unfold idxF
        rw [if_neg e0]
        rw [if_neg e1]
        rw [if_pos e]
        rfl
      · have e2 : ¬ v = s2 := of_decide_eq_false h
        exact ⟨3, ⟨by decide, fun _ => e0, fun _ => e1, fun _ => e2, fun h => absurd h (by decide), fun h => absurd h (by decide), fun h => absurd h (by decide), fun h => absurd h (by decide), fun h => absurd h (by decide)⟩, by decide, rfl, ⟨⟨rfl, rfl, rfl⟩, trivial⟩, ⟨[], rfl⟩, ⟨⟨rfl, rfl, rfl, rfl, rfl, rfl, rfl, rfl, trivial⟩, trivial⟩, rfl⟩
    · have e0 := q0 (by decide)
      have e1 := q1 (by decide)
      have e2 := q2 (by decide)
      refine ⟨fun _ => ?_, fun h => absurd h (by decide)⟩
      refine ⟨fun _ => by decide, ?_⟩
      refine ⟨fun h => ?_, fun h => ?_⟩
      · have e : v = s3 := of_decide_eq_true h
        refine ⟨i_cg ?_, _, rfl⟩
        unfold idxF
        rw [if_neg e0]
        rw [if_neg e1]
        rw [if_neg e2]
        rw [if_pos e]
        rfl
      · have e3 : ¬ v = s3 := of_decide_eq_false h
        exact ⟨4, ⟨by decide, fun _ => e0, fun _ => e1, fun _ => e2, fun _ => e3, fun h => absurd h (by decide), fun h => absurd h (by decide), fun h => absurd h (by decide), fun h => absurd h (by decide)⟩, by decide, rfl, ⟨⟨rfl, rfl, rfl⟩, trivial⟩, ⟨[], rfl⟩, ⟨⟨rfl, rfl, rfl, rfl, rfl, rfl, rfl, rfl, trivial⟩, trivial⟩, rfl⟩
    · have e0 := q0 (by decide)
      have e1 := q1 (by decide)
      have e2 := q2 (by decide)
      have e3 := q3 (by decide)
      refine ⟨fun _ => ?_, fun h => absurd h (by decide)⟩
      refine ⟨fun _ => by decide, ?_⟩
      refine ⟨fun h => ?_, fun h => ?_⟩
      · have e : v = s4 := of_decide_eq_true h
        refine ⟨i_cg ?_, _, rfl⟩
        unfold idxF
        rw [if_neg e0]
        rw [if_neg e1]
        rw [if_neg e2]
        rw [if_neg e3]
        rw [if_pos e]
        rfl
      · have e4 : ¬ v = s4 := of_decide_eq_false h
        exact ⟨5, ⟨by decide, fun _ => e0, fun _ => e1, fun _ => e2, fun _ => e3, fun _ => e4, fun h => absurd h (by decide), fun h => absurd h (by decide), fun h => absurd h (by decide)⟩, by decide, rfl, ⟨⟨rfl, rfl, rfl⟩, trivial⟩, ⟨[], rfl⟩, ⟨⟨rfl, rfl, rfl, rfl, rfl, rfl, rfl, rfl, trivial⟩, trivial⟩, rfl⟩
    · have e0 := q0 (by decide)
      have e1 := q1 (by decide)
      have e2 := q2 (by decide)
      have e3 := q3 (by decide)
      have e4 := q4 (by decide)
      refine ⟨fun _ => ?_, fun h => absurd h (by decide)⟩
      refine ⟨fun _ => by decide, ?_⟩
      refine ⟨fun h => ?_, fun h => ?_⟩
      · have e : v = s5 := of_decide_eq_true h
        refine ⟨i_cg ?_, _, rfl⟩
        unfold idxF
        rw [if_neg e0]
        rw [if_neg e1]
        rw [if_neg e2]
        rw [if_neg e3]
        rw [if_neg e4]
        rw [if_pos e]
        rfl
      · have e5 : ¬ v = s5 := of_decide_eq_false h
        exact ⟨6, ⟨by decide, fun _ => e0, fun _ => e1, fun _ => e2, fun _ => e3, fun _ => e4, fun _ => e5, fun h => absurd h (by decide), fun h => absurd h (by decide)⟩, by decide, rfl, ⟨⟨rfl, rfl, rfl⟩, trivial⟩, ⟨[], rfl⟩, ⟨⟨rfl, rfl, rfl, rfl, rfl, rfl, rfl, rfl, trivial⟩, trivial⟩, rfl⟩
    · have e0 := q0 (by decide)
      have e1 := q1 (by decide)
      have e2 := q2 (by decide)
      have e3 := q3 (by decide)
      have e4 := q4 (by decide)
      have e5 := q5 (by decide)
      refine ⟨fun _ => ?_, fun h => absurd h (by decide)⟩
      refine ⟨fun _ => by decide, ?_⟩
      refine ⟨fun h => ?_, fun h => ?_⟩
      · have e : v = s6 := of_decide_eq_true h
        refine ⟨i_cg ?_, _, rfl⟩
        unfold idxF
        rw [if_neg e0]
        rw [if_neg e1]
        rw [if_neg e2]
        rw [if_neg e3]
        rw [if_neg e4]
        rw [if_neg e5]
        rw [if_pos e]
        rfl
      · have e6 : ¬ v = s6 := of_decide_eq_false h
        exact ⟨7, ⟨by decide, fun _ => e0, fun _ => e1, fun _ => e2, fun _ => e3, fun _ => e4, fun _ => e5, fun _ => e6, fun h => absurd h (by decide)⟩, by decide, rfl, ⟨⟨rfl, rfl, rfl⟩, trivial⟩, ⟨[], rfl⟩, ⟨⟨rfl, rfl, rfl, rfl, rfl, rfl, rfl, rfl, trivial⟩, trivial⟩, rfl⟩
    · have e0 := q0 (by decide)
      have e1 := q1 (by decide)
      have e2 := q2 (by decide)
      have e3 := q3 (by decide)
      have e4 := q4 (by decide)
      have e5 := q5 (by decide)
      have e6 := q6 (by decide)
      refine ⟨fun _ => ?_, fun h => absurd h (by decide)⟩
      refine ⟨fun _ => by decide, ?_⟩
      refine ⟨fun h => ?_, fun h => ?_⟩
      · have e : v = s7 := of_decide_eq_true h
        refine ⟨i_cg ?_, _, rfl⟩
        unfold idxF
        rw [if_neg e0]
        rw [if_neg e1]
        rw [if_neg e2]
        rw [if_neg e3]
        rw [if_neg e4]
        rw [if_neg e5]
        rw [if_neg e6]
        rw [if_pos e]
        rfl
      · have e7 : ¬ v = s7 := of_decide_eq_false h
        exact ⟨8, ⟨by decide, fun _ => e0, fun _ => e1, fun _ => e2, fun _ => e3, fun _ => e4, fun _ => e5, fun _ => e6, fun _ => e7⟩, by decide, rfl, ⟨⟨rfl, rfl, rfl⟩, trivial⟩, ⟨[], rfl⟩, ⟨⟨rfl, rfl, rfl, rfl, rfl, rfl, rfl, rfl, trivial⟩, trivial⟩, rfl⟩
    · have e0 := q0 (by decide)
      have e1 := q1 (by decide)
      have e2 := q2 (by decide)
      have e3 := q3 (by decide)
      have e4 := q4 (by decide)
      have e5 := q5 (by decide)
      have e6 := q6 (by decide)
      have e7 := q7 (by decide)
      refine ⟨fun h => absurd h (by decide), fun _ => ⟨i_cg ?_, _, rfl⟩⟩
      unfold idxF
      rw [if_neg e0, if_neg e1, if_neg e2, if_neg e3, if_neg e4, if_neg e5, if_neg e6, if_neg e7]
theorem lreg_ok (s0 s1 s2 s3 s4 s5 s6 s7 h v : List UInt8) (rd pr : Nat) : Ctr Tryz.prog 54 [.ptr 1 1 0 [], .s v] [rowS s0 s1 s2 s3 s4 s5 s6 s7, langB h rd pr] (fun r h' => r = .i .i64 (idxF s0 s1 s2 s3 s4 s5 s6 s7 v) ∧ h' = [rowS s0 s1 s2 s3 s4 s5 s6 s7, langB h rd pr]) := by
  refine Ctr.enterG tabOkF (fn := Tryz.f54) rfl rfl rfl rfl rfl rfl bndLang ?_
  refine OpC.callG rfl rfl rfl rfl rfl rfl (fun _ => Ctr.spread (index_s s0 s1 s2 s3 s4 s5 s6 s7 v) (fun ρ => rfl) _ [0] rfl rfl ⟨rfl, trivial⟩ rfl) ?_
  exact ⟨rfl, _, rfl⟩
end SX
end Go.Proofs.YthkedcneehdinaaGreatDoor

/- Readers of words: names of some, numbers, places of memory. -/
set_option linter.unusedVariables false
set_option maxRecDepth 100000
namespace Go.Proofs.YthkedcneehdinaaGreatDoor
namespace SX
open Go Go.Proofs
variable {c : Rc} {s : RS}
theorem of_lt {f : List UInt8 → Int} (h : f (wordP c.ts s).1 < 0) : ofP f c.ts s = (0, failF (wordP c.ts s).2 21 (whF c.ts s.p)) := by unfold ofP; rw [if_pos h]
theorem of_ge {f : List UInt8 → Int} (h : ¬ f (wordP c.ts s).1 < 0) : ofP f c.ts s = (f (wordP c.ts s).1, (wordP c.ts s).2) := by unfold ofP; rw [if_neg h]
/-- One of some names, told by a function. -/
theorem of_fn (hk : Rk c s) (fid : Nat) (f : List UInt8 → Int) (hf : ∀ v, CtrV Tryz.prog fid [.s v] (.i .i64 (f v))) : Ctr Tryz.prog 159 [.ptr 3 1 0 [], .fn fid []] (hR c s) (fun r h => r = .i .i64 (ofP f c.ts s).1 ∧ h = hR c (ofP f c.ts s).2) := by
  have hw := rword_w hk
  by_cases h0 : f (wordP c.ts s).1 < 0
  · rw [of_lt h0]
    refine Ctr.enterH tabOkF (fn := Tryz.f159) rfl rfl rfl rfl rfl rfl bndR (Nat.le_refl _) ?_
    refine OpC.callH rfl rfl rfl rfl [0, 1, 2, 3] rfl hw rfl rfl rfl rfl ⟨rfl, rfl, rfl, rfl, trivial⟩ rfl ?_
    refine OpC.callV rfl rfl rfl rfl rfl rfl rfl (fun _ => hf _) ?_
    refine ⟨fun _ => ?_, fun h => absurd h0 (of_decide_eq_false h)⟩
    refine OpC.callH rfl rfl rfl rfl [0, 1, 2, 3] rfl (rfail_ok (s := (wordP c.ts s).2) 21 (whF c.ts s.p)) rfl rfl rfl rfl ⟨rfl, rfl, rfl, rfl, trivial⟩ rfl ?_
    exact ⟨rfl, _, rfl⟩
  · rw [of_ge h0]
    refine Ctr.enterH tabOkF (fn := Tryz.f159) rfl rfl rfl rfl rfl rfl bndR (Nat.le_refl _) ?_
    refine OpC.callH rfl rfl rfl rfl [0, 1, 2, 3] rfl hw rfl rfl rfl rfl ⟨rfl, rfl, rfl, rfl, trivial⟩ rfl ?_
    refine OpC.callV rfl rfl rfl rfl rfl rfl rfl (fun _ => hf _) ?_
    refine ⟨fun h => absurd (of_decide_eq_true h) h0, fun _ => ?_⟩
    exact ⟨rfl, _, rfl⟩
/-- A register's name. -/
theorem of_reg (hk : Rk c s) : Ctr Tryz.prog 159 [.ptr 3 1 0 [], .bm 54 (.ptr 1 1 0 [])] (hR c s) (fun r h => r = .i .i64 (regP c.L c.ts s).1 ∧ h = hR c (regP c.L c.ts s).2) := by
  have hw := rword_w hk
  have hl : ∀ v, Ctr Tryz.prog 54 [.ptr 1 1 0 [], .s v] [rowS c.L.s0 c.L.s1 c.L.s2 c.L.s3 c.L.s4 c.L.s5 c.L.s6 c.L.s7, langB c.L.h c.rd c.pr] (fun r h' => r = .i .i64 (c.L.ix v) ∧ h' = [rowS c.L.s0 c.L.s1 c.L.s2 c.L.s3 c.L.s4 c.L.s5 c.L.s6 c.L.s7, langB c.L.h c.rd c.pr]) := fun v => lreg_ok _ _ _ _ _ _ _ _ _ v _ _
  unfold regP
  by_cases h0 : c.L.ix (wordP c.ts s).1 < 0
  · rw [of_lt h0]
    refine Ctr.enterH tabOkF (fn := Tryz.f159) rfl rfl rfl rfl rfl rfl bndR (Nat.le_refl _) ?_
    refine OpC.callH rfl rfl rfl rfl [0, 1, 2, 3] rfl hw rfl rfl rfl rfl ⟨rfl, rfl, rfl, rfl, trivial⟩ rfl ?_
    refine OpC.callH rfl rfl rfl rfl [0, 1] rfl (hl _) rfl rfl rfl rfl ⟨rfl, rfl, trivial⟩ rfl ?_
    refine ⟨fun _ => ?_, fun h => absurd h0 (of_decide_eq_false h)⟩
    refine OpC.callH rfl rfl rfl rfl [0, 1, 2, 3] rfl (rfail_ok (s := (wordP c.ts s).2) 21 (whF c.ts s.p)) rfl rfl rfl rfl ⟨rfl, rfl, rfl, rfl, trivial⟩ rfl ?_
    exact ⟨rfl, _, rfl⟩
  · rw [of_ge h0]
    refine Ctr.enterH tabOkF (fn := Tryz.f159) rfl rfl rfl rfl rfl rfl bndR (Nat.le_refl _) ?_
    refine OpC.callH rfl rfl rfl rfl [0, 1, 2, 3] rfl hw rfl rfl rfl rfl ⟨rfl, rfl, rfl, rfl, trivial⟩ rfl ?_
    refine OpC.callH rfl rfl rfl rfl [0, 1] rfl (hl _) rfl rfl rfl rfl ⟨rfl, rfl, trivial⟩ rfl ?_
    refine ⟨fun h => absurd (of_decide_eq_true h) h0, fun _ => ?_⟩
    exact ⟨rfl, _, rfl⟩
theorem rreg_w (hk : Rk c s) : Ctr Tryz.prog 136 [.ptr 3 1 0 []] (hR c s) (fun r h => r = .i .i64 (regP c.L c.ts s).1 ∧ h = hR c (regP c.L c.ts s).2) := by
  refine Ctr.enterH tabOkF (fn := Tryz.f136) rfl rfl rfl rfl rfl rfl bndR (Nat.le_refl _) ?_
  refine OpC.callH rfl rfl rfl rfl [0, 1, 2, 3] rfl (of_reg hk) rfl rfl rfl rfl ⟨rfl, rfl, rfl, rfl, trivial⟩ rfl ?_
  exact ⟨rfl, _, rfl⟩
theorem Rk.reg (h : Rk c s) : Rk c (regP c.L c.ts s).2 := h.of _
theorem Rk.nm (h : Rk c s) (g : Int) : Rk c (nmP c.ts g s).2 := by
  unfold nmP
  split
  · rename_i hk; exact h.go (at_lt (by rw [hk]; decide))
  · exact h.miss
theorem Rk.num (h : Rk c s) : Rk c (numP c.ts s).2 := by
  unfold numP
  split
  · split
    · rename_i ht; exact (h.go (take_lt ht)).nm _
    · exact h.nm _
  · exact h
theorem Rk.imm (h : Rk c s) : Rk c (immP c.L c.ts s).2 := by
  unfold immP
  split
  · exact h.num
  · exact (h.mark _).num
set_option maxHeartbeats 1000000 in
theorem rnum_w (hk : Rk c s) : Ctr Tryz.prog 158 [.ptr 3 1 0 []] (hR c s) (fun r h => r = .i .i64 (numP c.ts s).1 ∧ h = hR c (numP c.ts s).2) := by
  obtain ⟨p, e0, q0⟩ := s
  by_cases he : e0 = 0
  · subst he
    cases hb : takeB c.ts [45] p with
    | true =>
      have hp : p < c.ts.length := take_lt hb
      have hk2 : Rk c ⟨p + 1, 0, q0⟩ := ⟨hp, hk.l⟩
      have e1 : numP c.ts ⟨p, 0, q0⟩ = nmP c.ts (-1) ⟨p + 1, 0, q0⟩ := by unfold numP; rw [if_pos rfl]; exact if_pos hb
      rw [e1]
      unfold nmP
      have hpk := peek_ok (ad := c.ad) (cap := c.cap) hk2.p
      by_cases h2 : (tkAt c.ts (p + 1)).k = 2
      · have hlt := at_lt (ts := c.ts) (p := p + 1) (by rw [h2]; decide)
        have h2' : (tkAt c.ts (⟨p + 1, 0, q0⟩ : RS).p).k = 2 := h2
        rw [if_pos h2']
        rw [decide_eq_true (show (⟨p + 1, 0, q0⟩ : RS).p < c.ts.length from hlt)] at hpk
        refine Ctr.enterH tabOkF (fn := Tryz.f158) rfl rfl rfl rfl rfl rfl bndR (Nat.le_refl _) ?_
        refine ⟨fun h => no_ft h, fun _ => ?_⟩
        refine OpC.callH rfl rfl rfl rfl [2, 4] rfl (take_ok (ad := c.ad) (cap := c.cap) hb rfl hk.p hk.l) rfl rfl rfl rfl ⟨rfl, rfl, trivial⟩ rfl ?_
        refine ⟨fun _ => ?_, fun h => no_tf h⟩
        refine OpC.callH rfl rfl rfl rfl [2] rfl hpk rfl rfl rfl rfl ⟨rfl, trivial⟩ rfl ?_
        refine ⟨fun h => ?_, fun _ => ?_⟩
        · have h : (false || (!decide ((tkAt c.ts (p + 1)).k = 2))) = true := h
          rw [decide_eq_true h2] at h; cases h
        refine OpC.callH rfl rfl rfl rfl [2] rfl (next_ok (ad := c.ad) (cap := c.cap) hlt hk.l) rfl rfl rfl rfl ⟨rfl, trivial⟩ rfl ?_
        exact ⟨rfl, _, rfl⟩
      · have h2' : ¬ (tkAt c.ts (⟨p + 1, 0, q0⟩ : RS).p).k = 2 := h2
        rw [if_neg h2']
        refine Ctr.enterH tabOkF (fn := Tryz.f158) rfl rfl rfl rfl rfl rfl bndR (Nat.le_refl _) ?_
        refine ⟨fun h => no_ft h, fun _ => ?_⟩
        refine OpC.callH rfl rfl rfl rfl [2, 4] rfl (take_ok (ad := c.ad) (cap := c.cap) hb rfl hk.p hk.l) rfl rfl rfl rfl ⟨rfl, rfl, trivial⟩ rfl ?_
        refine ⟨fun _ => ?_, fun h => no_tf h⟩
        refine OpC.callH rfl rfl rfl rfl [2] rfl hpk rfl rfl rfl rfl ⟨rfl, trivial⟩ rfl ?_
        refine ⟨fun _ => ?_, fun h => ?_⟩
        · refine OpC.callH rfl rfl rfl rfl [0, 1, 2, 3] rfl (miss_ok (s := ⟨p + 1, 0, q0⟩) hk2) rfl rfl rfl rfl ⟨rfl, rfl, rfl, rfl, trivial⟩ rfl ?_
          exact ⟨rfl, _, rfl⟩
        · have h : ((!decide (p + 1 < c.ts.length)) || (!decide ((tkAt c.ts (p + 1)).k = 2))) = false := h
          rw [decide_eq_false h2, Bool.not_false, Bool.or_true] at h; cases h
    | false =>
      have e1 : numP c.ts ⟨p, 0, q0⟩ = nmP c.ts 1 ⟨p, 0, q0⟩ := by unfold numP; rw [if_pos rfl]; exact if_neg (by rw [hb]; decide)
      rw [e1]
      unfold nmP
      have hpk := peek_ok (ad := c.ad) (cap := c.cap) hk.p
      by_cases h2 : (tkAt c.ts p).k = 2
      · have hlt := at_lt (ts := c.ts) (p := p) (by rw [h2]; decide)
        have h2' : (tkAt c.ts (⟨p, 0, q0⟩ : RS).p).k = 2 := h2
        rw [if_pos h2']
        rw [decide_eq_true (show (⟨p, 0, q0⟩ : RS).p < c.ts.length from hlt)] at hpk
        refine Ctr.enterH tabOkF (fn := Tryz.f158) rfl rfl rfl rfl rfl rfl bndR (Nat.le_refl _) ?_
        refine ⟨fun h => no_ft h, fun _ => ?_⟩
        refine OpC.callH rfl rfl rfl rfl [2, 4] rfl (take_ok (ad := c.ad) (cap := c.cap) hb rfl hk.p hk.l) rfl rfl rfl rfl ⟨rfl, rfl, trivial⟩ rfl ?_
        refine ⟨fun h => no_ft h, fun _ => ?_⟩
        refine OpC.callH rfl rfl rfl rfl [2] rfl hpk rfl rfl rfl rfl ⟨rfl, trivial⟩ rfl ?_
        refine ⟨fun h => ?_, fun _ => ?_⟩
        · have h : (false || (!decide ((tkAt c.ts p).k = 2))) = true := h
          rw [decide_eq_true h2] at h; cases h
        refine OpC.callH rfl rfl rfl rfl [2] rfl (next_ok (ad := c.ad) (cap := c.cap) hlt hk.l) rfl rfl rfl rfl ⟨rfl, trivial⟩ rfl ?_
        exact ⟨rfl, _, rfl⟩
      · have h2' : ¬ (tkAt c.ts (⟨p, 0, q0⟩ : RS).p).k = 2 := h2
        rw [if_neg h2']
        refine Ctr.enterH tabOkF (fn := Tryz.f158) rfl rfl rfl rfl rfl rfl bndR (Nat.le_refl _) ?_
        refine ⟨fun h => no_ft h, fun _ => ?_⟩
        refine OpC.callH rfl rfl rfl rfl [2, 4] rfl (take_ok (ad := c.ad) (cap := c.cap) hb rfl hk.p hk.l) rfl rfl rfl rfl ⟨rfl, rfl, trivial⟩ rfl ?_
        refine ⟨fun h => no_ft h, fun _ => ?_⟩
        refine OpC.callH rfl rfl rfl rfl [2] rfl hpk rfl rfl rfl rfl ⟨rfl, trivial⟩ rfl ?_
        refine ⟨fun _ => ?_, fun h => ?_⟩
        · refine OpC.callH rfl rfl rfl rfl [0, 1, 2, 3] rfl (miss_ok (s := ⟨p, 0, q0⟩) hk) rfl rfl rfl rfl ⟨rfl, rfl, rfl, rfl, trivial⟩ rfl ?_
          exact ⟨rfl, _, rfl⟩
        · have h : ((!decide (p < c.ts.length)) || (!decide ((tkAt c.ts p).k = 2))) = false := h
          rw [decide_eq_false h2, Bool.not_false, Bool.or_true] at h; cases h
  · have e1 : numP c.ts ⟨p, e0, q0⟩ = (0, ⟨p, e0, q0⟩) := by unfold numP; rw [if_neg he]
    rw [e1]
    refine Ctr.enterH tabOkF (fn := Tryz.f158) rfl rfl rfl rfl rfl rfl bndR (Nat.le_refl _) ?_
    refine ⟨fun _ => ⟨rfl, _, rfl⟩, fun h => ?_⟩
    have h : (!decide (e0 = 0)) = false := h
    rw [decide_eq_false he] at h; cases h
theorem rimm_w (hk : Rk c s) : Ctr Tryz.prog 196 [.ptr 3 1 0 []] (hR c s) (fun r h => r = .i .i64 (immP c.L c.ts s).1 ∧ h = hR c (immP c.L c.ts s).2) := by
  unfold immP
  by_cases hh : c.L.h = []
  · rw [if_pos hh]
    refine Ctr.enterH tabOkF (fn := Tryz.f196) rfl rfl rfl rfl rfl rfl bndR (Nat.le_refl _) ?_
    refine ⟨fun h => ?_, fun _ => ?_⟩
    · have h : (!decide (c.L.h = [])) = true := h
      rw [decide_eq_true hh] at h; cases h
    refine OpC.callH rfl rfl rfl rfl [0, 1, 2, 3] rfl (rnum_w hk) rfl rfl rfl rfl ⟨rfl, rfl, rfl, rfl, trivial⟩ rfl ?_
    exact ⟨rfl, _, rfl⟩
  · rw [if_neg hh]
    refine Ctr.enterH tabOkF (fn := Tryz.f196) rfl rfl rfl rfl rfl rfl bndR (Nat.le_refl _) ?_
    refine ⟨fun _ => ?_, fun h => ?_⟩
    rotate_left
    · have h : (!decide (c.L.h = [])) = false := h
      rw [decide_eq_false hh] at h; cases h
    refine OpC.callH rfl rfl rfl rfl [0, 1, 2, 3] rfl (rmark_w hk c.L.h) rfl rfl rfl rfl ⟨rfl, rfl, rfl, rfl, trivial⟩ rfl ?_
    refine OpC.callH rfl rfl rfl rfl [0, 1, 2, 3] rfl (rnum_w (hk.mark c.L.h)) rfl rfl rfl rfl ⟨rfl, rfl, rfl, rfl, trivial⟩ rfl ?_
    exact ⟨rfl, _, rfl⟩
end SX
end Go.Proofs.YthkedcneehdinaaGreatDoor

/- Readers of words: a register or a number; a place of memory. Written by pwe.py. -/
set_option linter.unusedVariables false
set_option maxRecDepth 100000
namespace Go.Proofs.YthkedcneehdinaaGreatDoor
namespace SX
open Go Go.Proofs
variable {c : Rc} {s : RS}
def insB (i : In) : SB := .mem 23 (ienc i) 1 0
def hI (c : Rc) (s : RS) (i : In) : List SB := [rowS c.L.s0 c.L.s1 c.L.s2 c.L.s3 c.L.s4 c.L.s5 c.L.s6 c.L.s7, langB c.L.h c.rd c.pr, curB c.ts c.ad c.cap s.p, rdrB 2 1 c.lb s.e s.q, insB i]
theorem bndI {c : Rc} {s : RS} {i : In} : BndH 5 (hI c s i) := ⟨⟨rfl, rfl, rfl, rfl, rfl, rfl, rfl, rfl, trivial⟩, ⟨rfl, rfl, rfl, rfl, trivial⟩, bndCur, ⟨rfl, rfl, rfl, rfl, rfl, trivial⟩, ⟨rfl, rfl, rfl, rfl, rfl, rfl, rfl, rfl, rfl, rfl, rfl, rfl, rfl, rfl, rfl, rfl, rfl, trivial⟩, trivial⟩
theorem loc_all : ∀ n : Fin 256, Lib.index [120, 121, 122] [UInt8.ofNat n.val] = locI [UInt8.ofNat n.val] := by decide +kernel
theorem loc_w (v : List UInt8) : CtrV Tryz.prog 197 [.s v] (.i .i64 (locI v)) := by
  refine Ctr.enterV tabOkF (fn := Tryz.f197) rfl rfl rfl rfl rfl rfl ?_
  refine ⟨fun h => ?_, fun h => ?_⟩
  · have h : (!decide ((v.length : Int) = 1)) = true := h
    have h : ¬ (v.length : Int) = 1 := by simpa using h
    refine i_cg ?_
    unfold locI
    rw [if_neg (by rintro rfl; exact h rfl), if_neg (by rintro rfl; exact h rfl), if_neg (by rintro rfl; exact h rfl)]
  · have h : (!decide ((v.length : Int) = 1)) = false := h
    have h : (v.length : Int) = 1 := by simpa using h
    refine OpC.callV rfl rfl rfl rfl rfl rfl rfl (fun _ => sIndex_ok [120, 121, 122] v (by decide)) ?_
    refine i_cg ?_
    match v, h with
    | [x], _ =>
      have := loc_all ⟨x.toNat, x.toNat_lt⟩
      have e : UInt8.ofNat x.toNat = x := by simp
      simp only [e] at this
      exact this
    | [], h => simp at h
    | _ :: _ :: _, h => simp at h; omega
theorem eita_w (hk : Rk c s) {i : In} (hi : i.imm = 0) : Ctr Tryz.prog 138 [.ptr 3 1 0 [], .ptr 4 1 2 [], .ptr 4 1 4 []] (hI c s i) (fun r h => r = .tup [] ∧ h = hI c (eitP c.L c.ts s).2 { i with a := (eitP c.L c.ts s).1.1, imm := (eitP c.L c.ts s).1.2 }) := by
  obtain ⟨op, dst, a, b, imm, loc, off, ix, sz, fn, acq, wk, rel, pr, su, to, ze⟩ := i
  dsimp only at hi
  subst hi
  have hn := nmd_ok hk
  unfold eitP
  cases hb : nmdB c.ts s with
  | true =>
    rw [hb] at hn
    rw [if_pos rfl]
    refine Ctr.enterH tabOkF (fn := Tryz.f138) rfl rfl rfl rfl rfl rfl bndI (Nat.le_refl _) ?_
    refine OpC.callH rfl rfl rfl rfl [0, 1, 2, 3] rfl (hn) rfl rfl rfl rfl ⟨rfl, rfl, rfl, rfl, trivial⟩ rfl ?_
    refine ⟨fun _ => ?_, fun h => no_tf h⟩
    refine OpC.callH rfl rfl rfl rfl [0, 1, 2, 3] rfl (rreg_w hk) rfl rfl rfl rfl ⟨rfl, rfl, rfl, rfl, trivial⟩ rfl ?_
    exact ⟨rfl, _, rfl⟩
  | false =>
    rw [hb] at hn
    rw [if_neg (by decide)]
    refine Ctr.enterH tabOkF (fn := Tryz.f138) rfl rfl rfl rfl rfl rfl bndI (Nat.le_refl _) ?_
    refine OpC.callH rfl rfl rfl rfl [0, 1, 2, 3] rfl (hn) rfl rfl rfl rfl ⟨rfl, rfl, rfl, rfl, trivial⟩ rfl ?_
    refine ⟨fun h => no_ft h, fun _ => ?_⟩
    refine OpC.callH rfl rfl rfl rfl [0, 1, 2, 3] rfl (rimm_w hk) rfl rfl rfl rfl ⟨rfl, rfl, rfl, rfl, trivial⟩ rfl ?_
    exact ⟨rfl, _, rfl⟩
theorem eitb_w (hk : Rk c s) {i : In} (hi : i.imm = 0) : Ctr Tryz.prog 138 [.ptr 3 1 0 [], .ptr 4 1 3 [], .ptr 4 1 4 []] (hI c s i) (fun r h => r = .tup [] ∧ h = hI c (eitP c.L c.ts s).2 { i with b := (eitP c.L c.ts s).1.1, imm := (eitP c.L c.ts s).1.2 }) := by
  obtain ⟨op, dst, a, b, imm, loc, off, ix, sz, fn, acq, wk, rel, pr, su, to, ze⟩ := i
  dsimp only at hi
  subst hi
  have hn := nmd_ok hk
  unfold eitP
  cases hb : nmdB c.ts s with
  | true =>
    rw [hb] at hn
    rw [if_pos rfl]
    refine Ctr.enterH tabOkF (fn := Tryz.f138) rfl rfl rfl rfl rfl rfl bndI (Nat.le_refl _) ?_
    refine OpC.callH rfl rfl rfl rfl [0, 1, 2, 3] rfl (hn) rfl rfl rfl rfl ⟨rfl, rfl, rfl, rfl, trivial⟩ rfl ?_
    refine ⟨fun _ => ?_, fun h => no_tf h⟩
    refine OpC.callH rfl rfl rfl rfl [0, 1, 2, 3] rfl (rreg_w hk) rfl rfl rfl rfl ⟨rfl, rfl, rfl, rfl, trivial⟩ rfl ?_
    exact ⟨rfl, _, rfl⟩
  | false =>
    rw [hb] at hn
    rw [if_neg (by decide)]
    refine Ctr.enterH tabOkF (fn := Tryz.f138) rfl rfl rfl rfl rfl rfl bndI (Nat.le_refl _) ?_
    refine OpC.callH rfl rfl rfl rfl [0, 1, 2, 3] rfl (hn) rfl rfl rfl rfl ⟨rfl, rfl, rfl, rfl, trivial⟩ rfl ?_
    refine ⟨fun h => no_ft h, fun _ => ?_⟩
    refine OpC.callH rfl rfl rfl rfl [0, 1, 2, 3] rfl (rimm_w hk) rfl rfl rfl rfl ⟨rfl, rfl, rfl, rfl, trivial⟩ rfl ?_
    exact ⟨rfl, _, rfl⟩
theorem Rk.eit (h : Rk c s) : Rk c (eitP c.L c.ts s).2 := by
  unfold eitP
  split
  · exact h.reg
  · exact h.imm
theorem Rk.plus (h : Rk c s) (i : In) : Rk c (plusP c.L c.ts i s).2 := by
  unfold plusP ixP
  split
  · rename_i hk
    have h1 : Rk c (goF s) := h.go (at_lt (by rw [hk]; decide))
    split
    · rename_i ht; exact (h1.go (take_lt ht)).reg
    · exact h1
  · exact h.reg
theorem Rk.mem (h : Rk c s) (i : In) (z : Int) : Rk c (memP c.L c.ts i z s).2 := by
  unfold memP
  dsimp only
  have h1 := (h.mark [91]).of locI
  refine Rk.mark ?_ _
  split
  · rename_i ht
    simp only [Bool.and_eq_true] at ht
    exact (h1.go (take_lt ht.2)).plus _
  · exact h1
set_option maxHeartbeats 2000000 in
theorem rmem_w (hk : Rk c s) (i : In) (z : Int) : Ctr Tryz.prog 141 [.ptr 3 1 0 [], .ptr 4 1 0 [], .i .i64 z] (hI c s i) (fun r h => r = .tup [] ∧ h = hI c (memP c.L c.ts i z s).2 (memP c.L c.ts i z s).1) := by
  obtain ⟨op, dst, a, b, imm, loc, off, ix, sz, fn, acq, wk, rel, pr, su, to, ze⟩ := i
  have hof := of_fn (hk.mark [91]) 197 locI loc_w
  have hk1 := (hk.mark [91]).of locI
  unfold memP
  dsimp only
  generalize ofP locI c.ts (markP c.ts [91] s) = w at *
  obtain ⟨v, p, e0, q0⟩ := w
  dsimp only at hof hk1 ⊢
  by_cases he : e0 = 0
  · subst he
    cases hb : takeB c.ts [43] p with
    | true =>
      simp only [decide_true, Bool.and_self, if_true]
      have hp : p < c.ts.length := take_lt hb
      have hk2 : Rk c ⟨p + 1, 0, q0⟩ := ⟨hp, hk1.l⟩
      have hpk := peek_ok (ad := c.ad) (cap := c.cap) (show p + 1 ≤ c.ts.length from hp)
      unfold plusP
      rw [show goF (⟨p, 0, q0⟩ : RS) = ⟨p + 1, 0, q0⟩ from rfl]
      by_cases h2 : (tkAt c.ts (p + 1)).k = 2
      · have hlt := at_lt (ts := c.ts) (p := p + 1) (by rw [h2]; decide)
        have hk3 : Rk c ⟨p + 1 + 1, 0, q0⟩ := ⟨hlt, hk1.l⟩
        have h2' : (tkAt c.ts (⟨p + 1, 0, q0⟩ : RS).p).k = 2 := h2
        rw [if_pos h2', show goF (⟨p + 1, 0, q0⟩ : RS) = ⟨p + 1 + 1, 0, q0⟩ from rfl]
        rw [decide_eq_true hlt] at hpk
        cases hb2 : takeB c.ts [43] (p + 1 + 1) with
        | true =>
          have hk4 : Rk c ⟨p + 1 + 1 + 1, 0, q0⟩ := ⟨take_lt hb2, hk1.l⟩
          rw [if_pos rfl, show goF (⟨p + 1 + 1, 0, q0⟩ : RS) = ⟨p + 1 + 1 + 1, 0, q0⟩ from rfl]
          unfold ixP
          dsimp only
          refine Ctr.enterH tabOkF (fn := Tryz.f141) rfl rfl rfl rfl rfl rfl bndI (Nat.le_refl _) ?_
          refine OpC.callH rfl rfl rfl rfl [0, 1, 2, 3] rfl (rmark_w hk [91]) rfl rfl rfl rfl ⟨rfl, rfl, rfl, rfl, trivial⟩ rfl ?_
          refine OpC.callH rfl rfl rfl rfl [0, 1, 2, 3] rfl (hof) rfl rfl rfl rfl ⟨rfl, rfl, rfl, rfl, trivial⟩ rfl ?_
          refine OpC.open 28 rfl rfl rfl ?_
          refine OpC.guardT tabOkF rfl rfl ?_
          refine OpC.guardT tabOkF rfl rfl ?_
          refine OpC.callH rfl rfl rfl rfl [2, 5] rfl (take_ok (ad := c.ad) (cap := c.cap) (m := [43]) hb rfl (Nat.le_of_lt hp) hk1.l) rfl rfl rfl rfl ⟨rfl, rfl, trivial⟩ rfl ?_
          refine ⟨fun _ => ?_, fun h => no_tf h⟩
          refine OpC.callH rfl rfl rfl rfl [2] rfl (hpk) rfl rfl rfl rfl ⟨rfl, trivial⟩ rfl ?_
          refine ⟨fun _ => ?_, fun h => ?_⟩
          rotate_left
          · have h : (true && decide ((tkAt c.ts (p + 1)).k = 2)) = false := h
            rw [decide_eq_true h2] at h; cases h
          refine OpC.callH rfl rfl rfl rfl [2] rfl (next_ok (ad := c.ad) (cap := c.cap) hlt hk1.l) rfl rfl rfl rfl ⟨rfl, trivial⟩ rfl ?_
          refine OpC.callH rfl rfl rfl rfl [2, 7] rfl (take_ok (ad := c.ad) (cap := c.cap) (m := [43]) hb2 rfl hk3.p hk1.l) rfl rfl rfl rfl ⟨rfl, rfl, trivial⟩ rfl ?_
          refine ⟨fun _ => ?_, fun h => no_tf h⟩
          refine OpC.callH rfl rfl rfl rfl [0, 1, 2, 3] rfl (rreg_w hk4) rfl rfl rfl rfl ⟨rfl, rfl, rfl, rfl, trivial⟩ rfl ?_
          refine OpC.callH rfl rfl rfl rfl [0, 1, 2, 3] rfl (rmark_w hk4.reg [93]) rfl rfl rfl rfl ⟨rfl, rfl, rfl, rfl, trivial⟩ rfl ?_
          exact ⟨rfl, _, rfl⟩
        | false =>
          rw [if_neg (by decide)]
          dsimp only
          refine Ctr.enterH tabOkF (fn := Tryz.f141) rfl rfl rfl rfl rfl rfl bndI (Nat.le_refl _) ?_
          refine OpC.callH rfl rfl rfl rfl [0, 1, 2, 3] rfl (rmark_w hk [91]) rfl rfl rfl rfl ⟨rfl, rfl, rfl, rfl, trivial⟩ rfl ?_
          refine OpC.callH rfl rfl rfl rfl [0, 1, 2, 3] rfl (hof) rfl rfl rfl rfl ⟨rfl, rfl, rfl, rfl, trivial⟩ rfl ?_
          refine OpC.open 28 rfl rfl rfl ?_
          refine OpC.guardT tabOkF rfl rfl ?_
          refine OpC.guardT tabOkF rfl rfl ?_
          refine OpC.callH rfl rfl rfl rfl [2, 5] rfl (take_ok (ad := c.ad) (cap := c.cap) (m := [43]) hb rfl (Nat.le_of_lt hp) hk1.l) rfl rfl rfl rfl ⟨rfl, rfl, trivial⟩ rfl ?_
          refine ⟨fun _ => ?_, fun h => no_tf h⟩
          refine OpC.callH rfl rfl rfl rfl [2] rfl (hpk) rfl rfl rfl rfl ⟨rfl, trivial⟩ rfl ?_
          refine ⟨fun _ => ?_, fun h => ?_⟩
          rotate_left
          · have h : (true && decide ((tkAt c.ts (p + 1)).k = 2)) = false := h
            rw [decide_eq_true h2] at h; cases h
          refine OpC.callH rfl rfl rfl rfl [2] rfl (next_ok (ad := c.ad) (cap := c.cap) hlt hk1.l) rfl rfl rfl rfl ⟨rfl, trivial⟩ rfl ?_
          refine OpC.callH rfl rfl rfl rfl [2, 7] rfl (take_ok (ad := c.ad) (cap := c.cap) (m := [43]) hb2 rfl hk3.p hk1.l) rfl rfl rfl rfl ⟨rfl, rfl, trivial⟩ rfl ?_
          refine ⟨fun h => no_ft h, fun _ => ?_⟩
          refine OpC.callH rfl rfl rfl rfl [0, 1, 2, 3] rfl (rmark_w hk3 [93]) rfl rfl rfl rfl ⟨rfl, rfl, rfl, rfl, trivial⟩ rfl ?_
          exact ⟨rfl, _, rfl⟩
      · have h2' : ¬ (tkAt c.ts (⟨p + 1, 0, q0⟩ : RS).p).k = 2 := h2
        rw [if_neg h2']
        unfold ixP
        dsimp only
        refine Ctr.enterH tabOkF (fn := Tryz.f141) rfl rfl rfl rfl rfl rfl bndI (Nat.le_refl _) ?_
        refine OpC.callH rfl rfl rfl rfl [0, 1, 2, 3] rfl (rmark_w hk [91]) rfl rfl rfl rfl ⟨rfl, rfl, rfl, rfl, trivial⟩ rfl ?_
        refine OpC.callH rfl rfl rfl rfl [0, 1, 2, 3] rfl (hof) rfl rfl rfl rfl ⟨rfl, rfl, rfl, rfl, trivial⟩ rfl ?_
        refine OpC.open 28 rfl rfl rfl ?_
        refine OpC.guardT tabOkF rfl rfl ?_
        refine OpC.guardT tabOkF rfl rfl ?_
        refine OpC.callH rfl rfl rfl rfl [2, 5] rfl (take_ok (ad := c.ad) (cap := c.cap) (m := [43]) hb rfl (Nat.le_of_lt hp) hk1.l) rfl rfl rfl rfl ⟨rfl, rfl, trivial⟩ rfl ?_
        refine ⟨fun _ => ?_, fun h => no_tf h⟩
        refine OpC.callH rfl rfl rfl rfl [2] rfl (hpk) rfl rfl rfl rfl ⟨rfl, trivial⟩ rfl ?_
        refine ⟨fun h => ?_, fun _ => ?_⟩
        · have h : (decide (p + 1 < c.ts.length) && decide ((tkAt c.ts (p + 1)).k = 2)) = true := h
          rw [decide_eq_false h2, Bool.and_false] at h; cases h
        refine OpC.callH rfl rfl rfl rfl [0, 1, 2, 3] rfl (rreg_w hk2) rfl rfl rfl rfl ⟨rfl, rfl, rfl, rfl, trivial⟩ rfl ?_
        refine OpC.callH rfl rfl rfl rfl [0, 1, 2, 3] rfl (rmark_w hk2.reg [93]) rfl rfl rfl rfl ⟨rfl, rfl, rfl, rfl, trivial⟩ rfl ?_
        exact ⟨rfl, _, rfl⟩
    | false =>
      simp only [Bool.and_false, Bool.false_eq_true, if_false]
      refine Ctr.enterH tabOkF (fn := Tryz.f141) rfl rfl rfl rfl rfl rfl bndI (Nat.le_refl _) ?_
      refine OpC.callH rfl rfl rfl rfl [0, 1, 2, 3] rfl (rmark_w hk [91]) rfl rfl rfl rfl ⟨rfl, rfl, rfl, rfl, trivial⟩ rfl ?_
      refine OpC.callH rfl rfl rfl rfl [0, 1, 2, 3] rfl (hof) rfl rfl rfl rfl ⟨rfl, rfl, rfl, rfl, trivial⟩ rfl ?_
      refine OpC.open 28 rfl rfl rfl ?_
      refine OpC.guardT tabOkF rfl rfl ?_
      refine OpC.guardT tabOkF rfl rfl ?_
      refine OpC.callH rfl rfl rfl rfl [2, 5] rfl (take_ok (ad := c.ad) (cap := c.cap) (m := [43]) hb rfl hk1.p hk1.l) rfl rfl rfl rfl ⟨rfl, rfl, trivial⟩ rfl ?_
      refine ⟨fun h => no_ft h, fun _ => ?_⟩
      refine OpC.callH rfl rfl rfl rfl [0, 1, 2, 3] rfl (rmark_w hk1 [93]) rfl rfl rfl rfl ⟨rfl, rfl, rfl, rfl, trivial⟩ rfl ?_
      exact ⟨rfl, _, rfl⟩
  · rw [decide_eq_false he]
    simp only [Bool.false_and, Bool.false_eq_true, if_false]
    have hg : (decide (e0 = 0) == true) = false := by rw [decide_eq_false he]; rfl
    refine Ctr.enterH tabOkF (fn := Tryz.f141) rfl rfl rfl rfl rfl rfl bndI (Nat.le_refl _) ?_
    refine OpC.callH rfl rfl rfl rfl [0, 1, 2, 3] rfl (rmark_w hk [91]) rfl rfl rfl rfl ⟨rfl, rfl, rfl, rfl, trivial⟩ rfl ?_
    refine OpC.callH rfl rfl rfl rfl [0, 1, 2, 3] rfl (hof) rfl rfl rfl rfl ⟨rfl, rfl, rfl, rfl, trivial⟩ rfl ?_
    refine OpC.skipG rfl hg (.raw (.pointer none)) ?_
    refine OpC.skipG rfl hg (.b false) ?_
    refine ⟨fun h => ?_, fun _ => ?_⟩
    · have h : (decide (e0 = 0) && false) = true := h
      rw [Bool.and_false] at h; cases h
    refine OpC.callH rfl rfl rfl rfl [0, 1, 2, 3] rfl (rmark_w hk1 [93]) rfl rfl rfl rfl ⟨rfl, rfl, rfl, rfl, trivial⟩ rfl ?_
    exact ⟨rfl, _, rfl⟩
end SX
end Go.Proofs.YthkedcneehdinaaGreatDoor

/- Readers of words: a new reader; names of functions, sizes. -/
set_option linter.unusedVariables false
set_option maxRecDepth 100000
namespace Go.Proofs.YthkedcneehdinaaGreatDoor
namespace SX
open Go Go.Proofs
/-- A row that is handed back stays. -/
theorem Cp.row1 {α : Type} {d : α} {n : Nat} {enc : α → List SV} {X : List Value → World → (Value → World → Prop) → Prop} (hX : XMono X) {args : List SV} {H : List SB} {ty : TypeId} {g k : Nat} (hn : n = g + 1) (hw : ∀ x, wdL (enc x) = n) (hok : ∀ x m, OkL m [] (enc x)) {K : SV → List SB → Prop}
    (h : Cp X args H (fun r h => ∃ (xs : List α) (ver : Nat), r = .sl k ver 0 xs.length none 0 ∧ h[k]? = some (.mem ty [.arr xs.length α d n enc xs] ver n) ∧ ver ≠ 0 ∧ ∀ ad cap, K (.imm α d n enc xs (some ad) cap) (h.set k (.gone ver)))) : Cp X args H K := by
  subst hn
  refine ⟨fun C E m w hr ha => hX _ _ _ _ (h.out C E m w hr ha) fun v w' ⟨r, H', E', m', h1, ⟨xs, ver, e, hk, hv, hK⟩, h3, h4, h5⟩ => ?_⟩
  subst e
  have hrep : Rep E' C m' ⟨[.sl k ver 0 xs.length none 0], H'⟩ ⟨#[den E' (.sl k ver 0 xs.length none 0)], []⟩ w' :=
    ⟨rfl, fun q x u hx hu => by
      rcases q with _ | q
      · simp at hx hu; subst hx; subst hu
        exact ⟨h3.1, rfl⟩
      · simp at hx, rfl, h5⟩
  obtain ⟨m2, b, c, e1, e2, e3⟩ := still_base (k := k) hrep hk rfl hv hw hok
  obtain ⟨ad, cap, e4⟩ := still_slot (j := 0) (i := 0) (len := xs.length) e2 e3 rfl hw hok (by simp) (by omega)
  have e5 := e4.sl 0 _ _ rfl rfl
  simp only [List.drop_zero, List.take_length] at e5
  have e6 : Ok m2 (vers (H'.set k (.gone ver))) (.imm α d (g + 1) enc xs (some ad) cap) ∧ den E' (.sl k ver 0 xs.length none 0) = den E' (.imm α d (g + 1) enc xs (some ad) cap) := e5
  exact ⟨_, _, E', m2, h1.trans e6.2, hK ad cap, ⟨e6.1, rfl⟩, h4.trans e1, e4.rel⟩
/-- nil, as a row that stays. -/
theorem Cp.nil1 {α : Type} {d : α} {n : Nat} {enc : α → List SV} {X : List Value → World → (Value → World → Prop) → Prop} (hX : XMono X) {args : List SV} {H : List SB} (hw : ∀ x, wdL (enc x) = n) {K : SV → List SB → Prop}
    (h : Cp X args H (fun r h => r = .nils ∧ K (.imm α d n enc [] none 0) h)) : Cp X args H K := by
  refine ⟨fun C E m w hr ha => hX _ _ _ _ (h.out C E m w hr ha) fun v w' ⟨r, H', E', m', h1, ⟨e, hK⟩, h3, h4, h5⟩ => ?_⟩
  subst e
  refine ⟨_, H', E', m', ?_, hK, ⟨?_, rfl⟩, h4, h5⟩
  · rw [h1]; simp [den, wrapV, cells]
  · simp only [Ok]
    exact ⟨Nat.le_refl _, fun hh => absurd rfl hh, hw, fun j hj => absurd hj (Nat.not_lt_zero _)⟩
theorem tok_bytes (n : Nat) (h : n ≤ 100000) : n * 40 ≤ 140737488355328 := by omega
/-- A copy of words stays. -/
theorem clone_tk (ts : List Tk) (ad : Option Addr) (cap : Nat) (hl : ts.length ≤ 100000) (hn : ad = none → ts = []) : Ctr Tryz.prog 187 [.imm Tk tk0 4 tkenc ts ad cap] [] (fun r h => (∃ ad' cap', r = .imm Tk tk0 4 tkenc ts ad' cap') ∧ ∃ X, h = X) := by
  cases ad with
  | none =>
    obtain rfl := hn rfl
    refine Cp.nil1 (α := Tk) (d := tk0) (n := 4) (enc := tkenc) callX_m tkw ?_
    refine Ctr.enter tabOkF (fn := Tryz.f187) rfl rfl rfl rfl rfl ?_
    refine ⟨fun _ => ?_, fun h => no_tf h⟩
    exact ⟨rfl, ⟨_, _, rfl⟩, _, rfl⟩
  | some ad =>
    refine Cp.row1 (α := Tk) (d := tk0) (enc := tkenc) (n := 4) (g := 3) (k := 1) (ty := 42) callX_m rfl tkw tkok ?_
    refine Ctr.enter tabOkF (fn := Tryz.f187) rfl rfl rfl rfl rfl ?_
    refine ⟨fun h => no_ft h, fun _ => ?_⟩
    refine OpC.yld 1 rfl (yld_app_lit tabOkF rfl rfl rfl rfl rfl rfl rfl rfl (fun E => rfl) (SrcA.imm rfl rfl rfl) (p := 1) rfl Joins.nil (Nat.le_trans hl (by decide)) ?_) (fun d hd => by cases hd; rfl) ?_
    · exact tok_bytes _ hl
    exact ⟨ts, 1, rfl, rfl, by decide, fun ad' cap' => ⟨⟨ad', cap', rfl⟩, _, rfl⟩⟩
theorem clone_tk0 (ts : List Tk) (ad : Option Addr) (cap : Nat) (hl : ts.length ≤ 100000) (hn : ad = none → ts = []) : Ctr Tryz.prog 187 [.imm Tk tk0 4 tkenc ts ad cap] [] (fun r h => (∃ ad' cap', r = .imm Tk tk0 4 tkenc ts ad' cap') ∧ h = []) :=
  (clone_tk ts ad cap hl hn).trim callX_m fun r H1 ⟨⟨a, c, h1⟩, _⟩ => ⟨[], H1, rfl, Nat.le_refl _, trivial, by rw [h1]; rfl, ⟨a, c, h1⟩, rfl⟩
theorem new_w (ts : List Tk) (ad : Option Addr) (cap : Nat) (hl : ts.length ≤ 100000) (hn : ad = none → ts = []) : Ctr Tryz.prog 123 [.imm Tk tk0 4 tkenc ts ad cap] [] (fun r h => r = .ptr 0 1 0 [] ∧ ∃ ad' cap', h = [curB ts ad' cap' 0]) := by
  have key : Ctr Tryz.prog 123 [.imm Tk tk0 4 tkenc ts ad cap] [] (fun r h => r = .ptr 0 1 0 [] ∧ ∃ ad' cap' X, h = curB ts ad' cap' 0 :: X) := by
    refine Ctr.enter tabOkF (fn := Tryz.f123) rfl rfl rfl rfl rfl ?_
    refine OpC.callL rfl rfl rfl rfl [] 0 rfl rfl rfl (clone_tk0 ts ad cap hl hn) rfl rfl rfl rfl trivial rfl (fun r H' hk => ?_) ?_
    · rw [hk.2]; exact ⟨Nat.le_refl _, Nat.le_refl _⟩
    rintro r H' ⟨⟨ad', cap', rfl⟩, rfl⟩
    exact ⟨rfl, ad', cap', [], rfl⟩
  exact key.trim callX_m fun r H1 ⟨h1, ad', cap', X, h2⟩ => ⟨[curB ts ad' cap' 0], X, h2, Nat.zero_le _, ⟨bndCur, trivial⟩, by rw [h1]; rfl, h1, ad', cap', rfl⟩
theorem none_w (op : Int) : CtrV Tryz.prog 135 [.i .i64 op] (.agg (ienc (none_ op))) := by
  refine Ctr.enterV tabOkF (fn := Tryz.f135) rfl rfl rfl rfl rfl rfl ?_
  exact rfl
set_option maxHeartbeats 1000000 in
theorem index6_s (s0 s1 s2 s3 s4 s5 v : List UInt8) : Ctr Tryz.prog 102 [.sl 0 1 0 6 (some 6) 0, .s v] [strB [s0, s1, s2, s3, s4, s5]] (fun r h => r = .i .i64 (idx6 s0 s1 s2 s3 s4 s5 v) ∧ h = [strB [s0, s1, s2, s3, s4, s5]]) := by
  refine Ctr.enterG tabOkF (fn := Tryz.f102) rfl rfl rfl rfl rfl rfl ⟨⟨rfl, rfl, rfl, rfl, rfl, rfl, trivial⟩, trivial⟩ ?_
  refine WpC.loop tabOkF (β := Nat) (fun k => k ≤ 6 ∧ (0 < k → v ≠ s0) ∧ (1 < k → v ≠ s1) ∧ (2 < k → v ≠ s2) ∧ (3 < k → v ≠ s3) ∧ (4 < k → v ≠ s4) ∧ (5 < k → v ≠ s5)) (fun k => [(8, .i .i64 k)]) (fun _ => [strB [s0, s1, s2, s3, s4, s5]]) (fun k => 6 - k) 0 524080 ⟨by decide, fun h => absurd h (by decide), fun h => absurd h (by decide), fun h => absurd h (by decide), fun h => absurd h (by decide), fun h => absurd h (by decide), fun h => absurd h (by decide)⟩ ?_ ?_
  · exact ⟨rfl, ⟨⟨rfl, rfl, rfl⟩, trivial⟩, ⟨[], rfl⟩, ⟨⟨rfl, rfl, rfl, rfl, rfl, rfl, trivial⟩, trivial⟩, rfl⟩
  · rintro k ⟨hk, q0, q1, q2, q3, q4, q5⟩
    rcases (by omega : k = 0 ∨ k = 1 ∨ k = 2 ∨ k = 3 ∨ k = 4 ∨ k = 5 ∨ k = 6) with rfl | rfl | rfl | rfl | rfl | rfl | rfl
    · refine ⟨fun _ => ?_, fun h => absurd h (by decide)⟩
      refine ⟨fun _ => by decide, ?_⟩
      refine ⟨fun h => ?_, fun h => ?_⟩
      · have e : v = s0 := of_decide_eq_true h
        refine ⟨i_cg ?_, _, rfl⟩
        unfold idx6
        rw [if_pos e]
        rfl
      · have e0 : ¬ v = s0 := of_decide_eq_false h
        exact ⟨1, ⟨by decide, fun _ => e0, fun h => absurd h (by decide), fun h => absurd h (by decide), fun h => absurd h (by decide), fun h => absurd h (by decide), fun h => absurd h (by decide)⟩, by decide, rfl, ⟨⟨rfl, rfl, rfl⟩, trivial⟩, ⟨[], rfl⟩, ⟨⟨rfl, rfl, rfl, rfl, rfl, rfl, trivial⟩, trivial⟩, rfl⟩
    · have e0 := q0 (by decide)
      refine ⟨fun _ => ?_, fun h => absurd h (by decide)⟩
      refine ⟨fun _ => by decide, ?_⟩
      refine ⟨fun h => ?_, fun h => ?_⟩
      · have e : v = s1 := of_decide_eq_true h
        refine ⟨i_cg ?_, _, rfl⟩
        unfold idx6
        rw [if_neg e0]
        rw [if_pos e]
        rfl
      · have e1 : ¬ v = s1 := of_decide_eq_false h
        exact ⟨2, ⟨by decide, fun _ => e0, fun _ => e1, fun h => absurd h (by decide), fun h => absurd h (by decide), fun h => absurd h (by decide), fun h => absurd h (by decide)⟩, by decide, rfl, ⟨⟨rfl, rfl, rfl⟩, trivial⟩, ⟨[], rfl⟩, ⟨⟨rfl, rfl, rfl, rfl, rfl, rfl, trivial⟩, trivial⟩, rfl⟩
    · have e0 := q0 (by decide)
      have e1 := q1 (by decide)
      refine ⟨fun _ => ?_, fun h => absurd h (by decide)⟩
      refine ⟨fun _ => by decide, ?_⟩
      refine ⟨fun h => ?_, fun h => ?_⟩
      · have e : v = s2 := of_decide_eq_true h
        refine ⟨i_cg ?_, _, rfl⟩
        unfold idx6
        rw [if_neg e0]
        rw [if_neg e1]
        rw [if_pos e]
        rfl
      · have e2 : ¬ v = s2 := of_decide_eq_false h
        exact ⟨3, ⟨by decide, fun _ => e0, fun _ => e1, fun _ => e2, fun h => absurd h (by decide), fun h => absurd h (by decide), fun h => absurd h (by decide)⟩, by decide, rfl, ⟨⟨rfl, rfl, rfl⟩, trivial⟩, ⟨[], rfl⟩, ⟨⟨rfl, rfl, rfl, rfl, rfl, rfl, trivial⟩, trivial⟩, rfl⟩
    · have e0 := q0 (by decide)
      have e1 := q1 (by decide)
      have e2 := q2 (by decide)
      refine ⟨fun _ => ?_, fun h => absurd h (by decide)⟩
      refine ⟨fun _ => by decide, ?_⟩
      refine ⟨fun h => ?_, fun h => ?_⟩
      · have e : v = s3 := of_decide_eq_true h
        refine ⟨i_cg ?_, _, rfl⟩
        unfold idx6
        rw [if_neg e0]
        rw [if_neg e1]
        rw [if_neg e2]
        rw [if_pos e]
        rfl
      · have e3 : ¬ v = s3 := of_decide_eq_false h
        exact ⟨4, ⟨by decide, fun _ => e0, fun _ => e1, fun _ => e2, fun _ => e3, fun h => absurd h (by decide), fun h => absurd h (by decide)⟩, by decide, rfl, ⟨⟨rfl, rfl, rfl⟩, trivial⟩, ⟨[], rfl⟩, ⟨⟨rfl, rfl, rfl, rfl, rfl, rfl, trivial⟩, trivial⟩, rfl⟩
    · have e0 := q0 (by decide)
      have e1 := q1 (by decide)
      have e2 := q2 (by decide)
      have e3 := q3 (by decide)
      refine ⟨fun _ => ?_, fun h => absurd h (by decide)⟩
      refine ⟨fun _ => by decide, ?_⟩
      refine ⟨fun h => ?_, fun h => ?_⟩
      · have e : v = s4 := of_decide_eq_true h
        refine ⟨i_cg ?_, _, rfl⟩
        unfold idx6
        rw [if_neg e0]
        rw [if_neg e1]
        rw [if_neg e2]
        rw [if_neg e3]
        rw [if_pos e]
        rfl
      · have e4 : ¬ v = s4 := of_decide_eq_false h
        exact ⟨5, ⟨by decide, fun _ => e0, fun _ => e1, fun _ => e2, fun _ => e3, fun _ => e4, fun h => absurd h (by decide)⟩, by decide, rfl, ⟨⟨rfl, rfl, rfl⟩, trivial⟩, ⟨[], rfl⟩, ⟨⟨rfl, rfl, rfl, rfl, rfl, rfl, trivial⟩, trivial⟩, rfl⟩
    · have e0 := q0 (by decide)
      have e1 := q1 (by decide)
      have e2 := q2 (by decide)
      have e3 := q3 (by decide)
      have e4 := q4 (by decide)
      refine ⟨fun _ => ?_, fun h => absurd h (by decide)⟩
      refine ⟨fun _ => by decide, ?_⟩
      refine ⟨fun h => ?_, fun h => ?_⟩
      · have e : v = s5 := of_decide_eq_true h
        refine ⟨i_cg ?_, _, rfl⟩
        unfold idx6
        rw [if_neg e0]
        rw [if_neg e1]
        rw [if_neg e2]
        rw [if_neg e3]
        rw [if_neg e4]
        rw [if_pos e]
        rfl
      · have e5 : ¬ v = s5 := of_decide_eq_false h
        exact ⟨6, ⟨by decide, fun _ => e0, fun _ => e1, fun _ => e2, fun _ => e3, fun _ => e4, fun _ => e5⟩, by decide, rfl, ⟨⟨rfl, rfl, rfl⟩, trivial⟩, ⟨[], rfl⟩, ⟨⟨rfl, rfl, rfl, rfl, rfl, rfl, trivial⟩, trivial⟩, rfl⟩
    · have e0 := q0 (by decide)
      have e1 := q1 (by decide)
      have e2 := q2 (by decide)
      have e3 := q3 (by decide)
      have e4 := q4 (by decide)
      have e5 := q5 (by decide)
      refine ⟨fun h => absurd h (by decide), fun _ => ⟨i_cg ?_, _, rfl⟩⟩
      unfold idx6
      rw [if_neg e0, if_neg e1, if_neg e2, if_neg e3, if_neg e4, if_neg e5]
theorem hasSuf_w (s p : List UInt8) (hs : s.length ≤ 1000000) (hp : p.length ≤ 1000000) : CtrV Tryz.prog 235 [.s s, .s p] (.b (sufB s p)) := by
  refine Ctr.enterV tabOkF (fn := Tryz.f235) rfl rfl rfl rfl rfl rfl ?_
  refine ⟨fun hg => ?_, ?_⟩
  · have hg : (decide ((p.length : Int) ≤ (s.length : Int)) == true) = true := hg
    have hg : (p.length : Int) ≤ (s.length : Int) := by simpa using hg
    show (0 : Int) ≤ IntKind.i64.wrap ((s.length : Int) - (p.length : Int)) ∧ IntKind.i64.wrap ((s.length : Int) - (p.length : Int)) ≤ (s.length : Int)
    rw [w64 (by omega) (by omega)]; omega
  refine b_cg ?_
  show (decide ((p.length : Int) ≤ (s.length : Int)) && decide ((s.take s.length).drop (IntKind.i64.wrap ((s.length : Int) - (p.length : Int))).toNat = p)) = sufB s p
  unfold sufB
  rw [w64 (by omega) (by omega), List.take_length]
  by_cases h : p.length ≤ s.length
  · rw [decide_eq_true h, decide_eq_true (by omega), show ((s.length : Int) - (p.length : Int)).toNat = s.length - p.length by omega]
  · rw [decide_eq_false h, decide_eq_false (by omega)]; rfl
theorem cutSuf0_w (s p : List UInt8) (hs : s.length ≤ 1000000) (hp : p.length ≤ 1000000) : CtrV Tryz.prog 212 [.s s, .s p] (.tup [.s (cutS s p), .b (sufB s p)]) := by
  refine Ctr.enterV tabOkF (fn := Tryz.f212) rfl rfl rfl rfl rfl rfl ?_
  refine OpC.callV rfl rfl rfl rfl rfl rfl rfl (fun _ => hasSuf_w s p hs hp) ?_
  unfold cutS
  cases hb : sufB s p with
  | false =>
    refine ⟨fun _ => ?_, fun h => no_tf h⟩
    exact rfl
  | true =>
    refine ⟨fun h => no_ft h, fun _ => ?_⟩
    have hle : p.length ≤ s.length := by
      unfold sufB at hb
      simp only [Bool.and_eq_true, decide_eq_true_eq] at hb
      exact hb.1
    have e : IntKind.i64.wrap ((s.length : Int) - (p.length : Int)) = ((s.length - p.length : Nat) : Int) := by rw [w64 (by omega) (by omega)]; omega
    refine ⟨fun _ => ?_, ?_⟩
    · show (0 : Int) ≤ IntKind.i64.wrap ((s.length : Int) - (p.length : Int)) ∧ IntKind.i64.wrap ((s.length : Int) - (p.length : Int)) ≤ (s.length : Int)
      rw [e]; omega
    show SV.tup [.s ((s.take (IntKind.i64.wrap ((s.length : Int) - (p.length : Int))).toNat).drop 0), .b true] = _
    rw [e, Int.toNat_natCast, List.drop_zero, if_pos rfl]
theorem cutSuf_w (s p : List UInt8) (hs : s.length ≤ 1000000) (hp : p.length ≤ 1000000) : CtrV Tryz.prog 156 [.s s, .s p] (.tup [.s (cutS s p), .b (sufB s p)]) := by
  refine Ctr.enterV tabOkF (fn := Tryz.f156) rfl rfl rfl rfl rfl rfl ?_
  refine OpC.callV rfl rfl rfl rfl rfl rfl rfl (fun _ => cutSuf0_w s p hs hp) ?_
  exact rfl
set_option maxHeartbeats 1000000 in
theorem size_w (s e0 e1 e2 e3 : List UInt8) (hs : s.length ≤ 1000000) (h0 : e0.length ≤ 1000000) (h1 : e1.length ≤ 1000000) (h2 : e2.length ≤ 1000000) (h3 : e3.length ≤ 1000000) : Ctr Tryz.prog 139 [.s s, .sl 0 1 0 4 (some 4) 0] [strB [e0, e1, e2, e3]] (fun r h => r = .tup [.s (sizP e0 e1 e2 e3 s).1, .i .i64 (sizP e0 e1 e2 e3 s).2] ∧ h = [strB [e0, e1, e2, e3]]) := by
  have hB : BndH 1 [strB [e0, e1, e2, e3]] := ⟨⟨rfl, rfl, rfl, rfl, trivial⟩, trivial⟩
  refine Ctr.enterG tabOkF (fn := Tryz.f139) rfl rfl rfl rfl rfl rfl hB ?_
  refine WpC.loop tabOkF (β := Nat) (fun k => k ≤ 4 ∧ (0 < k → sufB s e0 = false) ∧ (1 < k → sufB s e1 = false) ∧ (2 < k → sufB s e2 = false) ∧ (3 < k → sufB s e3 = false)) (fun k => [(12, .i .i64 k)]) (fun _ => [strB [e0, e1, e2, e3]]) (fun k => 4 - k) 0 (2 ^ 29 - 1 - 3 - 2 ^ 10 - 2 ^ 11) ⟨by decide, fun h => absurd h (by decide), fun h => absurd h (by decide), fun h => absurd h (by decide), fun h => absurd h (by decide)⟩ ?_ ?_
  · exact ⟨rfl, ⟨⟨rfl, rfl, rfl⟩, trivial⟩, ⟨[], rfl⟩, hB, rfl⟩
  · rintro k ⟨hk, q0, q1, q2, q3⟩
    rcases (by omega : k = 0 ∨ k = 1 ∨ k = 2 ∨ k = 3 ∨ k = 4) with rfl | rfl | rfl | rfl | rfl
    · refine ⟨fun _ => ?_, fun h => no_tf h⟩
      refine ⟨fun _ => by decide, ?_⟩
      refine OpC.callV rfl rfl rfl rfl rfl rfl rfl (fun _ => cutSuf_w s e0 hs h0) ?_
      refine ⟨fun h => ?_, fun h => ?_⟩
      · have h : sufB s e0 = true := h
        refine WpC.dr tabOkF mixed 0 ?_
        refine ⟨fun _ => by decide, ?_⟩
        refine ⟨by kernel_rfl, ?_⟩
        refine ⟨?_, _, rfl⟩
        unfold sizP
        rw [if_pos h]
        rfl
      · have f0 : sufB s e0 = false := h
        exact ⟨1, ⟨by decide, fun _ => f0, fun h => absurd h (by decide), fun h => absurd h (by decide), fun h => absurd h (by decide)⟩, by decide, rfl, ⟨⟨rfl, rfl, rfl⟩, trivial⟩, ⟨[], rfl⟩, hB, rfl⟩
    · have f0 := q0 (by decide)
      refine ⟨fun _ => ?_, fun h => no_tf h⟩
      refine ⟨fun _ => by decide, ?_⟩
      refine OpC.callV rfl rfl rfl rfl rfl rfl rfl (fun _ => cutSuf_w s e1 hs h1) ?_
      refine ⟨fun h => ?_, fun h => ?_⟩
      · have h : sufB s e1 = true := h
        refine WpC.dr tabOkF mixed 0 ?_
        refine ⟨fun _ => by decide, ?_⟩
        refine ⟨by kernel_rfl, ?_⟩
        refine ⟨?_, _, rfl⟩
        unfold sizP
        rw [if_neg (by rw [f0]; decide)]
        rw [if_pos h]
        rfl
      · have f1 : sufB s e1 = false := h
        exact ⟨2, ⟨by decide, fun _ => f0, fun _ => f1, fun h => absurd h (by decide), fun h => absurd h (by decide)⟩, by decide, rfl, ⟨⟨rfl, rfl, rfl⟩, trivial⟩, ⟨[], rfl⟩, hB, rfl⟩
    · have f0 := q0 (by decide)
      have f1 := q1 (by decide)
      refine ⟨fun _ => ?_, fun h => no_tf h⟩
      refine ⟨fun _ => by decide, ?_⟩
      refine OpC.callV rfl rfl rfl rfl rfl rfl rfl (fun _ => cutSuf_w s e2 hs h2) ?_
      refine ⟨fun h => ?_, fun h => ?_⟩
      · have h : sufB s e2 = true := h
        refine WpC.dr tabOkF mixed 0 ?_
        refine ⟨fun _ => by decide, ?_⟩
        refine ⟨by kernel_rfl, ?_⟩
        refine ⟨?_, _, rfl⟩
        unfold sizP
        rw [if_neg (by rw [f0]; decide)]
        rw [if_neg (by rw [f1]; decide)]
        rw [if_pos h]
        rfl
      · have f2 : sufB s e2 = false := h
        exact ⟨3, ⟨by decide, fun _ => f0, fun _ => f1, fun _ => f2, fun h => absurd h (by decide)⟩, by decide, rfl, ⟨⟨rfl, rfl, rfl⟩, trivial⟩, ⟨[], rfl⟩, hB, rfl⟩
    · have f0 := q0 (by decide)
      have f1 := q1 (by decide)
      have f2 := q2 (by decide)
      refine ⟨fun _ => ?_, fun h => no_tf h⟩
      refine ⟨fun _ => by decide, ?_⟩
      refine OpC.callV rfl rfl rfl rfl rfl rfl rfl (fun _ => cutSuf_w s e3 hs h3) ?_
      refine ⟨fun h => ?_, fun h => ?_⟩
      · have h : sufB s e3 = true := h
        refine WpC.dr tabOkF mixed 0 ?_
        refine ⟨fun _ => by decide, ?_⟩
        refine ⟨by kernel_rfl, ?_⟩
        refine ⟨?_, _, rfl⟩
        unfold sizP
        rw [if_neg (by rw [f0]; decide)]
        rw [if_neg (by rw [f1]; decide)]
        rw [if_neg (by rw [f2]; decide)]
        rw [if_pos h]
        rfl
      · have f3 : sufB s e3 = false := h
        exact ⟨4, ⟨by decide, fun _ => f0, fun _ => f1, fun _ => f2, fun _ => f3⟩, by decide, rfl, ⟨⟨rfl, rfl, rfl⟩, trivial⟩, ⟨[], rfl⟩, hB, rfl⟩
    · have f0 := q0 (by decide)
      have f1 := q1 (by decide)
      have f2 := q2 (by decide)
      have f3 := q3 (by decide)
      refine ⟨fun h => no_ft h, fun _ => ⟨?_, _, rfl⟩⟩
      unfold sizP
      rw [if_neg (by rw [f0]; decide), if_neg (by rw [f1]; decide), if_neg (by rw [f2]; decide), if_neg (by rw [f3]; decide)]
      rfl
end SX
end Go.Proofs.YthkedcneehdinaaGreatDoor

/- x86: functions' names. Cut from XPr. -/
set_option linter.unusedVariables false
set_option maxRecDepth 100000
namespace Go.Proofs.YthkedcneehdinaaGreatDoor
namespace SX
open Go Go.Proofs
end SX
end Go.Proofs.YthkedcneehdinaaGreatDoor

/- x86: an instruction read. Written by pwg.py. -/
set_option linter.unusedVariables false
set_option maxRecDepth 100000
namespace Go.Proofs.YthkedcneehdinaaGreatDoor
namespace SX
open Go Go.Proofs
variable {c : Rc} {s : RS}
def Rc.put (c : Rc) (lb : List UInt8) : Rc := { c with lb := lb }
/-- What a reader of a language does: the heap behind it bears the label. -/
def ReadOk (rdF : List Tk → List UInt8 → RS → Rd × RS) (L : Lg) (f : Nat) : Prop :=
  ∀ (c : Rc) (s : RS) (nm : List UInt8), c.L = L → c.lb = [] → Rk c s → nm.length ≤ 100000 → Ctr Tryz.prog f [.ptr 3 1 0 [], .s nm] (hR c s) (fun r h => r = .tup [.agg (ienc (rdF c.ts nm s).1.i), .b (rdF c.ts nm s).1.known] ∧ h = hR (c.put (rdF c.ts nm s).1.lb) (rdF c.ts nm s).2)
end SX
end Go.Proofs.YthkedcneehdinaaGreatDoor

/- An instruction parsed: the program's. Written by pwh.py. -/
set_option linter.unusedVariables false
set_option maxRecDepth 100000
namespace Go.Proofs.YthkedcneehdinaaGreatDoor
namespace SX
open Go Go.Proofs
theorem newReader_w (s0 s1 s2 s3 s4 s5 s6 s7 h : List UInt8) (rd pr : Nat) (ts : List Tk) (ad : Option Addr) (cap : Nat) (hl : ts.length ≤ 100000) (hn : ad = none → ts = []) : Ctr Tryz.prog 67 [.ptr 1 1 0 [], .imm Tk tk0 4 tkenc ts ad cap] [rowS s0 s1 s2 s3 s4 s5 s6 s7, langB h rd pr]
    (fun r h' => r = .ptr 3 1 0 [] ∧ ∃ ad' cap', h' = [rowS s0 s1 s2 s3 s4 s5 s6 s7, langB h rd pr, curB ts ad' cap' 0, rdrB 2 1 [] 0 0]) := by
  have key : Ctr Tryz.prog 67 [.ptr 1 1 0 [], .imm Tk tk0 4 tkenc ts ad cap] [rowS s0 s1 s2 s3 s4 s5 s6 s7, langB h rd pr]
    (fun r h' => r = .ptr 3 1 0 [] ∧ ∃ ad' cap' X, h' = [rowS s0 s1 s2 s3 s4 s5 s6 s7, langB h rd pr, curB ts ad' cap' 0, rdrB 2 1 [] 0 0] ++ X) := by
    refine Ctr.enter tabOkF (fn := Tryz.f67) rfl rfl rfl rfl rfl ?_
    refine OpC.callL rfl rfl rfl rfl [] 1 rfl rfl rfl (new_w ts ad cap hl hn) rfl rfl rfl rfl trivial rfl (fun r H' hk => ?_) ?_
    · obtain ⟨_, a, b, e⟩ := hk; rw [e]; exact ⟨Nat.zero_le _, Nat.le_refl _⟩
    rintro r H' ⟨rfl, ad', cap', rfl⟩
    exact ⟨rfl, ad', cap', [], rfl⟩
  exact key.trim callX_m fun r H1 ⟨h1, ad', cap', X, h2⟩ => ⟨_, X, h2, by show 2 ≤ 4; decide, ⟨⟨rfl, rfl, rfl, rfl, rfl, rfl, rfl, rfl, trivial⟩, ⟨rfl, rfl, rfl, rfl, trivial⟩, bndCur, ⟨rfl, rfl, rfl, rfl, rfl, trivial⟩, trivial⟩, by rw [h1]; rfl, h1, ad', cap', rfl⟩
/-- Where a reader of a language comes to may be. -/
def ReadRk (rdF : List Tk → List UInt8 → RS → Rd × RS) (L : Lg) : Prop := ∀ (c : Rc) (s : RS) (nm : List UInt8), c.L = L → Rk c s → Rk c (rdF c.ts nm s).2
def prV5 (p : Pr) : SV := .tup [.agg (ienc p.i), .s p.lb, .i .i64 p.e, .i .i64 p.q]
theorem Rk.put {c : Rc} {s : RS} (h : Rk c s) (lb : List UInt8) : Rk (c.put lb) s := ⟨h.p, h.l⟩
set_option maxHeartbeats 4000000 in
theorem lparse_w {rdF : List Tk → List UInt8 → RS → Rd × RS} {L : Lg} {rd pr : Nat} (hread : ReadOk rdF L rd) (hrk : ReadRk rdF L) (ts : List Tk) (ad : Option Addr) (cap : Nat) (hl : ts.length ≤ 100000) (hn : ad = none → ts = []) (hnm : (tkAt ts 0).s.length ≤ 100000) :
    Ctr Tryz.prog 48 [.ptr 1 1 0 [], .imm Tk tk0 4 tkenc ts ad cap] [rowS L.s0 L.s1 L.s2 L.s3 L.s4 L.s5 L.s6 L.s7, langB L.h rd pr] (fun r h' => r = prV5 (parseP rdF ts) ∧ h' = [rowS L.s0 L.s1 L.s2 L.s3 L.s4 L.s5 L.s6 L.s7, langB L.h rd pr]) := by
  have hk0 : ∀ a b, Rk ⟨L, rd, pr, ts, a, b, []⟩ rs0 := fun a b => ⟨Nat.zero_le _, hl⟩
  have hwl : (wordP ts rs0).1.length ≤ 100000 := by
    unfold wordP
    split
    · split
      · exact hnm
      · exact Nat.zero_le _
    · exact Nat.zero_le _
  unfold parseP
  refine Ctr.enterH tabOkF (fn := Tryz.f48) rfl rfl rfl rfl rfl rfl bndLang (Nat.le_refl _) ?_
  refine OpC.callL rfl rfl rfl rfl [0, 1] 2 rfl rfl rfl (newReader_w _ _ _ _ _ _ _ _ _ _ _ ts ad cap hl hn) rfl rfl rfl rfl ⟨rfl, rfl, trivial⟩ rfl (fun r H' hk => ?_) ?_
  · obtain ⟨_, a, b, e⟩ := hk; rw [e]; exact ⟨by show 2 ≤ 4; decide, by show 4 ≤ 4; decide⟩
  rintro r H' ⟨rfl, ad', cap', rfl⟩
  have hk0 := hk0 ad' cap'
  have hk1 : Rk ⟨L, rd, pr, ts, ad', cap', []⟩ (wordP ts rs0).2 := hk0.word
  have hx := hread ⟨L, rd, pr, ts, ad', cap', []⟩ (wordP ts rs0).2 (wordP ts rs0).1 rfl rfl hk1 hwl
  have hk2 : Rk ⟨L, rd, pr, ts, ad', cap', []⟩ (rdF ts (wordP ts rs0).1 (wordP ts rs0).2).2 := hrk ⟨L, rd, pr, ts, ad', cap', []⟩ (wordP ts rs0).2 (wordP ts rs0).1 rfl hk1
  dsimp only at hx
  generalize hX : rdF ts (wordP ts rs0).1 (wordP ts rs0).2 = x at *
  have hk3 : Rk (⟨L, rd, pr, ts, ad', cap', x.1.lb⟩ : Rc) x.2 := hk2.put _
  cases hkn : x.1.known with
  | true =>
    rw [hkn] at hx
    refine OpC.callH rfl rfl rfl rfl [3] rfl (at_ok (ad := ad') (cap := cap') (p := 0) (Nat.zero_le _) hl) rfl rfl rfl rfl ⟨rfl, trivial⟩ rfl ?_
    refine OpC.callH rfl rfl rfl rfl [0, 1, 3, 4] rfl (rword_w (c := ⟨L, rd, pr, ts, ad', cap', []⟩) hk0) rfl rfl rfl rfl ⟨rfl, rfl, rfl, rfl, trivial⟩ rfl ?_
    refine OpC.callH rfl rfl rfl rfl [0, 1, 3, 4] rfl (hx) rfl rfl rfl rfl ⟨rfl, rfl, rfl, rfl, trivial⟩ rfl ?_
    refine ⟨fun h => no_ft h, fun _ => ?_⟩
    refine OpC.callH rfl rfl rfl rfl [3] rfl (left_ok (ad := ad') (cap := cap') (hk3).p hl) rfl rfl rfl rfl ⟨rfl, trivial⟩ rfl ?_
    refine ⟨fun hm => ?_, fun hm => ?_⟩
    · have hm : (0 : Int) < ((ts.length - (x.2).p : Nat) : Int) := of_decide_eq_true hm
      have hm : (x.2).p < ts.length := by omega
      have em : moreF ts (x.2) = failF (x.2) 25 (whF ts (x.2).p) := by unfold moreF; rw [if_pos hm]
      refine OpC.callH rfl rfl rfl rfl [3] rfl (at_ok (ad := ad') (cap := cap') (hk3).p hl) rfl rfl rfl rfl ⟨rfl, trivial⟩ rfl ?_
      refine OpC.callH rfl rfl rfl rfl [0, 1, 3, 4] rfl (rfail_ok (c := (⟨L, rd, pr, ts, ad', cap', x.1.lb⟩ : Rc)) (s := x.2) 25 (whF ts (x.2).p)) rfl rfl rfl rfl ⟨rfl, rfl, rfl, rfl, trivial⟩ rfl ?_
      refine OpC.callV rfl rfl rfl rfl rfl rfl rfl (fun _ => uright_ok x.1.i 0 1) ?_
      refine ⟨fun hr => ?_, fun hr => ?_⟩
      · have hr : rgtF x.1.i 0 1 = 34 := of_decide_eq_true hr
        refine OpC.callH rfl rfl rfl rfl [0, 1, 3, 4] rfl (rfail_ok (c := (⟨L, rd, pr, ts, ad', cap', x.1.lb⟩ : Rc)) (s := failF (x.2) 25 (whF ts (x.2).p)) 34 (whF ts 0)) rfl rfl rfl rfl ⟨rfl, rfl, rfl, rfl, trivial⟩ rfl ?_
        have hP : endP ts (whF ts 0) x = outF x.1 (failF (failF (x.2) 25 (whF ts (x.2).p)) 34 (whF ts 0)) := by unfold endP; dsimp only; rw [show (if x.1.known = true then x.2 else failF x.2 21 (whF ts 0)) = x.2 by rw [hkn]; rfl, em, if_pos hr]
        refine ⟨fun he => ?_, fun he => ?_⟩
        · have he : (!decide ((failF (failF (x.2) 25 (whF ts (x.2).p)) 34 (whF ts 0)).e = 0)) = true := he
          have he : ¬ (failF (failF (x.2) 25 (whF ts (x.2).p)) 34 (whF ts 0)).e = 0 := by simpa using he
          have hO : outF x.1 (failF (failF (x.2) 25 (whF ts (x.2).p)) 34 (whF ts 0)) = ⟨in0, [], (failF (failF (x.2) 25 (whF ts (x.2).p)) 34 (whF ts 0)).e, (failF (failF (x.2) 25 (whF ts (x.2).p)) 34 (whF ts 0)).q⟩ := by unfold outF; rw [if_neg he]
          rw [hP, hO]
          refine WpC.dr tabOkF mixed 0 ?_
          refine ⟨by kernel_rfl, ?_⟩
          exact ⟨rfl, _, rfl⟩
        · have he : (!decide ((failF (failF (x.2) 25 (whF ts (x.2).p)) 34 (whF ts 0)).e = 0)) = false := he
          have he : (failF (failF (x.2) 25 (whF ts (x.2).p)) 34 (whF ts 0)).e = 0 := by simpa using he
          have hO : outF x.1 (failF (failF (x.2) 25 (whF ts (x.2).p)) 34 (whF ts 0)) = ⟨x.1.i, x.1.lb, 0, 0⟩ := by unfold outF; rw [if_pos he]
          rw [hP, hO]
          refine WpC.dr tabOkF mixed 0 ?_
          refine ⟨by kernel_rfl, ?_⟩
          exact ⟨rfl, _, rfl⟩
      · have hr : ¬ rgtF x.1.i 0 1 = 34 := of_decide_eq_false hr
        have hP : endP ts (whF ts 0) x = outF x.1 (failF (x.2) 25 (whF ts (x.2).p)) := by unfold endP; dsimp only; rw [show (if x.1.known = true then x.2 else failF x.2 21 (whF ts 0)) = x.2 by rw [hkn]; rfl, em, if_neg hr]
        refine ⟨fun he => ?_, fun he => ?_⟩
        · have he : (!decide ((failF (x.2) 25 (whF ts (x.2).p)).e = 0)) = true := he
          have he : ¬ (failF (x.2) 25 (whF ts (x.2).p)).e = 0 := by simpa using he
          have hO : outF x.1 (failF (x.2) 25 (whF ts (x.2).p)) = ⟨in0, [], (failF (x.2) 25 (whF ts (x.2).p)).e, (failF (x.2) 25 (whF ts (x.2).p)).q⟩ := by unfold outF; rw [if_neg he]
          rw [hP, hO]
          refine WpC.dr tabOkF mixed 0 ?_
          refine ⟨by kernel_rfl, ?_⟩
          exact ⟨rfl, _, rfl⟩
        · have he : (!decide ((failF (x.2) 25 (whF ts (x.2).p)).e = 0)) = false := he
          have he : (failF (x.2) 25 (whF ts (x.2).p)).e = 0 := by simpa using he
          have hO : outF x.1 (failF (x.2) 25 (whF ts (x.2).p)) = ⟨x.1.i, x.1.lb, 0, 0⟩ := by unfold outF; rw [if_pos he]
          rw [hP, hO]
          refine WpC.dr tabOkF mixed 0 ?_
          refine ⟨by kernel_rfl, ?_⟩
          exact ⟨rfl, _, rfl⟩
    · have hm : ¬ (0 : Int) < ((ts.length - (x.2).p : Nat) : Int) := of_decide_eq_false hm
      have hm : ¬ (x.2).p < ts.length := by omega
      have em : moreF ts (x.2) = x.2 := by unfold moreF; rw [if_neg hm]
      refine OpC.callV rfl rfl rfl rfl rfl rfl rfl (fun _ => uright_ok x.1.i 0 1) ?_
      refine ⟨fun hr => ?_, fun hr => ?_⟩
      · have hr : rgtF x.1.i 0 1 = 34 := of_decide_eq_true hr
        refine OpC.callH rfl rfl rfl rfl [0, 1, 3, 4] rfl (rfail_ok (c := (⟨L, rd, pr, ts, ad', cap', x.1.lb⟩ : Rc)) (s := x.2) 34 (whF ts 0)) rfl rfl rfl rfl ⟨rfl, rfl, rfl, rfl, trivial⟩ rfl ?_
        have hP : endP ts (whF ts 0) x = outF x.1 (failF (x.2) 34 (whF ts 0)) := by unfold endP; dsimp only; rw [show (if x.1.known = true then x.2 else failF x.2 21 (whF ts 0)) = x.2 by rw [hkn]; rfl, em, if_pos hr]
        refine ⟨fun he => ?_, fun he => ?_⟩
        · have he : (!decide ((failF (x.2) 34 (whF ts 0)).e = 0)) = true := he
          have he : ¬ (failF (x.2) 34 (whF ts 0)).e = 0 := by simpa using he
          have hO : outF x.1 (failF (x.2) 34 (whF ts 0)) = ⟨in0, [], (failF (x.2) 34 (whF ts 0)).e, (failF (x.2) 34 (whF ts 0)).q⟩ := by unfold outF; rw [if_neg he]
          rw [hP, hO]
          refine WpC.dr tabOkF mixed 0 ?_
          refine ⟨by kernel_rfl, ?_⟩
          exact ⟨rfl, _, rfl⟩
        · have he : (!decide ((failF (x.2) 34 (whF ts 0)).e = 0)) = false := he
          have he : (failF (x.2) 34 (whF ts 0)).e = 0 := by simpa using he
          have hO : outF x.1 (failF (x.2) 34 (whF ts 0)) = ⟨x.1.i, x.1.lb, 0, 0⟩ := by unfold outF; rw [if_pos he]
          rw [hP, hO]
          refine WpC.dr tabOkF mixed 0 ?_
          refine ⟨by kernel_rfl, ?_⟩
          exact ⟨rfl, _, rfl⟩
      · have hr : ¬ rgtF x.1.i 0 1 = 34 := of_decide_eq_false hr
        have hP : endP ts (whF ts 0) x = outF x.1 (x.2) := by unfold endP; dsimp only; rw [show (if x.1.known = true then x.2 else failF x.2 21 (whF ts 0)) = x.2 by rw [hkn]; rfl, em, if_neg hr]
        refine ⟨fun he => ?_, fun he => ?_⟩
        · have he : (!decide ((x.2).e = 0)) = true := he
          have he : ¬ (x.2).e = 0 := by simpa using he
          have hO : outF x.1 (x.2) = ⟨in0, [], (x.2).e, (x.2).q⟩ := by unfold outF; rw [if_neg he]
          rw [hP, hO]
          refine WpC.dr tabOkF mixed 0 ?_
          refine ⟨by kernel_rfl, ?_⟩
          exact ⟨rfl, _, rfl⟩
        · have he : (!decide ((x.2).e = 0)) = false := he
          have he : (x.2).e = 0 := by simpa using he
          have hO : outF x.1 (x.2) = ⟨x.1.i, x.1.lb, 0, 0⟩ := by unfold outF; rw [if_pos he]
          rw [hP, hO]
          refine WpC.dr tabOkF mixed 0 ?_
          refine ⟨by kernel_rfl, ?_⟩
          exact ⟨rfl, _, rfl⟩
  | false =>
    rw [hkn] at hx
    refine OpC.callH rfl rfl rfl rfl [3] rfl (at_ok (ad := ad') (cap := cap') (p := 0) (Nat.zero_le _) hl) rfl rfl rfl rfl ⟨rfl, trivial⟩ rfl ?_
    refine OpC.callH rfl rfl rfl rfl [0, 1, 3, 4] rfl (rword_w (c := ⟨L, rd, pr, ts, ad', cap', []⟩) hk0) rfl rfl rfl rfl ⟨rfl, rfl, rfl, rfl, trivial⟩ rfl ?_
    refine OpC.callH rfl rfl rfl rfl [0, 1, 3, 4] rfl (hx) rfl rfl rfl rfl ⟨rfl, rfl, rfl, rfl, trivial⟩ rfl ?_
    refine ⟨fun _ => ?_, fun h => no_tf h⟩
    refine OpC.callH rfl rfl rfl rfl [0, 1, 3, 4] rfl (rfail_ok (c := (⟨L, rd, pr, ts, ad', cap', x.1.lb⟩ : Rc)) (s := x.2) 21 (whF ts 0)) rfl rfl rfl rfl ⟨rfl, rfl, rfl, rfl, trivial⟩ rfl ?_
    refine OpC.callH rfl rfl rfl rfl [3] rfl (left_ok (ad := ad') (cap := cap') ((hk3.fail 21 (whF ts 0))).p hl) rfl rfl rfl rfl ⟨rfl, trivial⟩ rfl ?_
    refine ⟨fun hm => ?_, fun hm => ?_⟩
    · have hm : (0 : Int) < ((ts.length - (failF x.2 21 (whF ts 0)).p : Nat) : Int) := of_decide_eq_true hm
      have hm : (failF x.2 21 (whF ts 0)).p < ts.length := by omega
      have em : moreF ts (failF x.2 21 (whF ts 0)) = failF (failF x.2 21 (whF ts 0)) 25 (whF ts (failF x.2 21 (whF ts 0)).p) := by unfold moreF; rw [if_pos hm]
      refine OpC.callH rfl rfl rfl rfl [3] rfl (at_ok (ad := ad') (cap := cap') ((hk3.fail 21 (whF ts 0))).p hl) rfl rfl rfl rfl ⟨rfl, trivial⟩ rfl ?_
      refine OpC.callH rfl rfl rfl rfl [0, 1, 3, 4] rfl (rfail_ok (c := (⟨L, rd, pr, ts, ad', cap', x.1.lb⟩ : Rc)) (s := failF x.2 21 (whF ts 0)) 25 (whF ts (failF x.2 21 (whF ts 0)).p)) rfl rfl rfl rfl ⟨rfl, rfl, rfl, rfl, trivial⟩ rfl ?_
      refine OpC.callV rfl rfl rfl rfl rfl rfl rfl (fun _ => uright_ok x.1.i 0 1) ?_
      refine ⟨fun hr => ?_, fun hr => ?_⟩
      · have hr : rgtF x.1.i 0 1 = 34 := of_decide_eq_true hr
        refine OpC.callH rfl rfl rfl rfl [0, 1, 3, 4] rfl (rfail_ok (c := (⟨L, rd, pr, ts, ad', cap', x.1.lb⟩ : Rc)) (s := failF (failF x.2 21 (whF ts 0)) 25 (whF ts (failF x.2 21 (whF ts 0)).p)) 34 (whF ts 0)) rfl rfl rfl rfl ⟨rfl, rfl, rfl, rfl, trivial⟩ rfl ?_
        have hP : endP ts (whF ts 0) x = outF x.1 (failF (failF (failF x.2 21 (whF ts 0)) 25 (whF ts (failF x.2 21 (whF ts 0)).p)) 34 (whF ts 0)) := by unfold endP; dsimp only; rw [show (if x.1.known = true then x.2 else failF x.2 21 (whF ts 0)) = failF x.2 21 (whF ts 0) by rw [hkn]; rfl, em, if_pos hr]
        refine ⟨fun he => ?_, fun he => ?_⟩
        · have he : (!decide ((failF (failF (failF x.2 21 (whF ts 0)) 25 (whF ts (failF x.2 21 (whF ts 0)).p)) 34 (whF ts 0)).e = 0)) = true := he
          have he : ¬ (failF (failF (failF x.2 21 (whF ts 0)) 25 (whF ts (failF x.2 21 (whF ts 0)).p)) 34 (whF ts 0)).e = 0 := by simpa using he
          have hO : outF x.1 (failF (failF (failF x.2 21 (whF ts 0)) 25 (whF ts (failF x.2 21 (whF ts 0)).p)) 34 (whF ts 0)) = ⟨in0, [], (failF (failF (failF x.2 21 (whF ts 0)) 25 (whF ts (failF x.2 21 (whF ts 0)).p)) 34 (whF ts 0)).e, (failF (failF (failF x.2 21 (whF ts 0)) 25 (whF ts (failF x.2 21 (whF ts 0)).p)) 34 (whF ts 0)).q⟩ := by unfold outF; rw [if_neg he]
          rw [hP, hO]
          refine WpC.dr tabOkF mixed 0 ?_
          refine ⟨by kernel_rfl, ?_⟩
          exact ⟨rfl, _, rfl⟩
        · have he : (!decide ((failF (failF (failF x.2 21 (whF ts 0)) 25 (whF ts (failF x.2 21 (whF ts 0)).p)) 34 (whF ts 0)).e = 0)) = false := he
          have he : (failF (failF (failF x.2 21 (whF ts 0)) 25 (whF ts (failF x.2 21 (whF ts 0)).p)) 34 (whF ts 0)).e = 0 := by simpa using he
          have hO : outF x.1 (failF (failF (failF x.2 21 (whF ts 0)) 25 (whF ts (failF x.2 21 (whF ts 0)).p)) 34 (whF ts 0)) = ⟨x.1.i, x.1.lb, 0, 0⟩ := by unfold outF; rw [if_pos he]
          rw [hP, hO]
          refine WpC.dr tabOkF mixed 0 ?_
          refine ⟨by kernel_rfl, ?_⟩
          exact ⟨rfl, _, rfl⟩
      · have hr : ¬ rgtF x.1.i 0 1 = 34 := of_decide_eq_false hr
        have hP : endP ts (whF ts 0) x = outF x.1 (failF (failF x.2 21 (whF ts 0)) 25 (whF ts (failF x.2 21 (whF ts 0)).p)) := by unfold endP; dsimp only; rw [show (if x.1.known = true then x.2 else failF x.2 21 (whF ts 0)) = failF x.2 21 (whF ts 0) by rw [hkn]; rfl, em, if_neg hr]
        refine ⟨fun he => ?_, fun he => ?_⟩
        · have he : (!decide ((failF (failF x.2 21 (whF ts 0)) 25 (whF ts (failF x.2 21 (whF ts 0)).p)).e = 0)) = true := he
          have he : ¬ (failF (failF x.2 21 (whF ts 0)) 25 (whF ts (failF x.2 21 (whF ts 0)).p)).e = 0 := by simpa using he
          have hO : outF x.1 (failF (failF x.2 21 (whF ts 0)) 25 (whF ts (failF x.2 21 (whF ts 0)).p)) = ⟨in0, [], (failF (failF x.2 21 (whF ts 0)) 25 (whF ts (failF x.2 21 (whF ts 0)).p)).e, (failF (failF x.2 21 (whF ts 0)) 25 (whF ts (failF x.2 21 (whF ts 0)).p)).q⟩ := by unfold outF; rw [if_neg he]
          rw [hP, hO]
          refine WpC.dr tabOkF mixed 0 ?_
          refine ⟨by kernel_rfl, ?_⟩
          exact ⟨rfl, _, rfl⟩
        · have he : (!decide ((failF (failF x.2 21 (whF ts 0)) 25 (whF ts (failF x.2 21 (whF ts 0)).p)).e = 0)) = false := he
          have he : (failF (failF x.2 21 (whF ts 0)) 25 (whF ts (failF x.2 21 (whF ts 0)).p)).e = 0 := by simpa using he
          have hO : outF x.1 (failF (failF x.2 21 (whF ts 0)) 25 (whF ts (failF x.2 21 (whF ts 0)).p)) = ⟨x.1.i, x.1.lb, 0, 0⟩ := by unfold outF; rw [if_pos he]
          rw [hP, hO]
          refine WpC.dr tabOkF mixed 0 ?_
          refine ⟨by kernel_rfl, ?_⟩
          exact ⟨rfl, _, rfl⟩
    · have hm : ¬ (0 : Int) < ((ts.length - (failF x.2 21 (whF ts 0)).p : Nat) : Int) := of_decide_eq_false hm
      have hm : ¬ (failF x.2 21 (whF ts 0)).p < ts.length := by omega
      have em : moreF ts (failF x.2 21 (whF ts 0)) = failF x.2 21 (whF ts 0) := by unfold moreF; rw [if_neg hm]
      refine OpC.callV rfl rfl rfl rfl rfl rfl rfl (fun _ => uright_ok x.1.i 0 1) ?_
      refine ⟨fun hr => ?_, fun hr => ?_⟩
      · have hr : rgtF x.1.i 0 1 = 34 := of_decide_eq_true hr
        refine OpC.callH rfl rfl rfl rfl [0, 1, 3, 4] rfl (rfail_ok (c := (⟨L, rd, pr, ts, ad', cap', x.1.lb⟩ : Rc)) (s := failF x.2 21 (whF ts 0)) 34 (whF ts 0)) rfl rfl rfl rfl ⟨rfl, rfl, rfl, rfl, trivial⟩ rfl ?_
        have hP : endP ts (whF ts 0) x = outF x.1 (failF (failF x.2 21 (whF ts 0)) 34 (whF ts 0)) := by unfold endP; dsimp only; rw [show (if x.1.known = true then x.2 else failF x.2 21 (whF ts 0)) = failF x.2 21 (whF ts 0) by rw [hkn]; rfl, em, if_pos hr]
        refine ⟨fun he => ?_, fun he => ?_⟩
        · have he : (!decide ((failF (failF x.2 21 (whF ts 0)) 34 (whF ts 0)).e = 0)) = true := he
          have he : ¬ (failF (failF x.2 21 (whF ts 0)) 34 (whF ts 0)).e = 0 := by simpa using he
          have hO : outF x.1 (failF (failF x.2 21 (whF ts 0)) 34 (whF ts 0)) = ⟨in0, [], (failF (failF x.2 21 (whF ts 0)) 34 (whF ts 0)).e, (failF (failF x.2 21 (whF ts 0)) 34 (whF ts 0)).q⟩ := by unfold outF; rw [if_neg he]
          rw [hP, hO]
          refine WpC.dr tabOkF mixed 0 ?_
          refine ⟨by kernel_rfl, ?_⟩
          exact ⟨rfl, _, rfl⟩
        · have he : (!decide ((failF (failF x.2 21 (whF ts 0)) 34 (whF ts 0)).e = 0)) = false := he
          have he : (failF (failF x.2 21 (whF ts 0)) 34 (whF ts 0)).e = 0 := by simpa using he
          have hO : outF x.1 (failF (failF x.2 21 (whF ts 0)) 34 (whF ts 0)) = ⟨x.1.i, x.1.lb, 0, 0⟩ := by unfold outF; rw [if_pos he]
          rw [hP, hO]
          refine WpC.dr tabOkF mixed 0 ?_
          refine ⟨by kernel_rfl, ?_⟩
          exact ⟨rfl, _, rfl⟩
      · have hr : ¬ rgtF x.1.i 0 1 = 34 := of_decide_eq_false hr
        have hP : endP ts (whF ts 0) x = outF x.1 (failF x.2 21 (whF ts 0)) := by unfold endP; dsimp only; rw [show (if x.1.known = true then x.2 else failF x.2 21 (whF ts 0)) = failF x.2 21 (whF ts 0) by rw [hkn]; rfl, em, if_neg hr]
        refine ⟨fun he => ?_, fun he => ?_⟩
        · have he : (!decide ((failF x.2 21 (whF ts 0)).e = 0)) = true := he
          have he : ¬ (failF x.2 21 (whF ts 0)).e = 0 := by simpa using he
          have hO : outF x.1 (failF x.2 21 (whF ts 0)) = ⟨in0, [], (failF x.2 21 (whF ts 0)).e, (failF x.2 21 (whF ts 0)).q⟩ := by unfold outF; rw [if_neg he]
          rw [hP, hO]
          refine WpC.dr tabOkF mixed 0 ?_
          refine ⟨by kernel_rfl, ?_⟩
          exact ⟨rfl, _, rfl⟩
        · have he : (!decide ((failF x.2 21 (whF ts 0)).e = 0)) = false := he
          have he : (failF x.2 21 (whF ts 0)).e = 0 := by simpa using he
          have hO : outF x.1 (failF x.2 21 (whF ts 0)) = ⟨x.1.i, x.1.lb, 0, 0⟩ := by unfold outF; rw [if_pos he]
          rw [hP, hO]
          refine WpC.dr tabOkF mixed 0 ?_
          refine ⟨by kernel_rfl, ?_⟩
          exact ⟨rfl, _, rfl⟩
end SX
end Go.Proofs.YthkedcneehdinaaGreatDoor

/- Rows: instructions that come in. Written by rwa.py. -/
set_option linter.unusedVariables false
set_option maxRecDepth 100000
namespace Go.Proofs.YthkedcneehdinaaGreatDoor
open Go Go.ChangeShapes Go.WideShapes Go.ChangeAt Go.RowKit
theorem own : ownKnob Tryz.prog.godebug = none := by kernel_rfl
theorem compsOk : ∀ t, t < Tryz.prog.types.size → SX.CompsOk Tryz.prog (· < Tryz.prog.types.size) t := SX.compsOk_of (by kernel_rfl)
namespace SX
theorem wf64 {n : Int} (h : (Lit.int .i64 n).wf = true) : in64 n := by
  have h : (decide (IntKind.i64.min ≤ n) && decide (n ≤ IntKind.i64.max)) = true := h
  simp only [Bool.and_eq_true, decide_eq_true_eq] at h
  exact h
theorem LKs_i {ls : List LK} {row : List Value} (h : LKs (.i .i64 :: ls) row) : ∃ n r, row = .int .i64 n :: r ∧ in64 n ∧ LKs ls r := by
  cases row with
  | nil => exact h.elim
  | cons v r => obtain ⟨⟨n, rfl, w⟩, h2⟩ := h; exact ⟨n, r, rfl, wf64 w, h2⟩
theorem LKs_b {ls : List LK} {row : List Value} (h : LKs (.b :: ls) row) : ∃ n r, row = .bool n :: r ∧ LKs ls r := by
  cases row with
  | nil => exact h.elim
  | cons v r => obtain ⟨⟨n, rfl⟩, h2⟩ := h; exact ⟨n, r, rfl, h2⟩
theorem LKs_nil {row : List Value} (h : LKs [] row) : row = [] := by
  cases row with
  | nil => rfl
  | cons v r => exact h.elim
/-- An instruction of machine numbers. -/
structure InW (i : In) : Prop where
  op : in64 i.op
  dst : in64 i.dst
  a : in64 i.a
  b : in64 i.b
  imm : in64 i.imm
  loc : in64 i.loc
  off : in64 i.off
  ix : in64 i.ix
  sz : in64 i.sz
  fn : in64 i.fn
  pr : in64 i.pr
  su : in64 i.su
  to : in64 i.to
def insLs : List LK := [.i .i64, .i .i64, .i .i64, .i .i64, .i .i64, .i .i64, .i .i64, .i .i64, .i .i64, .i .i64, .b, .b, .b, .i .i64, .i .i64, .i .i64, .b]
theorem in_dec (row : List Value) (h : LKs insLs row) : ∃ i : In, row = cellsL E0 (ienc i) ∧ InW i := by
  unfold insLs at h
  obtain ⟨x0, row0, rfl, w0, h0⟩ := LKs_i h
  obtain ⟨x1, row1, rfl, w1, h1⟩ := LKs_i h0
  obtain ⟨x2, row2, rfl, w2, h2⟩ := LKs_i h1
  obtain ⟨x3, row3, rfl, w3, h3⟩ := LKs_i h2
  obtain ⟨x4, row4, rfl, w4, h4⟩ := LKs_i h3
  obtain ⟨x5, row5, rfl, w5, h5⟩ := LKs_i h4
  obtain ⟨x6, row6, rfl, w6, h6⟩ := LKs_i h5
  obtain ⟨x7, row7, rfl, w7, h7⟩ := LKs_i h6
  obtain ⟨x8, row8, rfl, w8, h8⟩ := LKs_i h7
  obtain ⟨x9, row9, rfl, w9, h9⟩ := LKs_i h8
  obtain ⟨x10, row10, rfl, h10⟩ := LKs_b h9
  obtain ⟨x11, row11, rfl, h11⟩ := LKs_b h10
  obtain ⟨x12, row12, rfl, h12⟩ := LKs_b h11
  obtain ⟨x13, row13, rfl, w13, h13⟩ := LKs_i h12
  obtain ⟨x14, row14, rfl, w14, h14⟩ := LKs_i h13
  obtain ⟨x15, row15, rfl, w15, h15⟩ := LKs_i h14
  obtain ⟨x16, row16, rfl, h16⟩ := LKs_b h15
  obtain rfl := LKs_nil h16
  exact ⟨⟨x0, x1, x2, x3, x4, x5, x6, x7, x8, x9, x10, x11, x12, x13, x14, x15, x16⟩, rfl, ⟨w0, w1, w2, w3, w4, w5, w6, w7, w8, w9, w13, w14, w15⟩⟩
end SX
theorem and_tt {a b : Bool} (h1 : a = true) (h2 : b = true) : (a && b) = true := by rw [h1, h2]; rfl
theorem facts_of {P : Program} {f : FuncId} {fn : Func} {s : ChangeSpec} {c : OpenClaim} (h0 : (c.wf (OpenSpec.ofChange s)) = true) (h1 : (laidOutB P) = true) (h2 : (mapsRowed P) = true) (h3 : (fn.params.all (P.readableRec ·)) = true) (h4 : (namedTie P c.named s.vars) = true) (h5 : ((c.stops == [])) = true) (h6 : ((P.stops == [])) = true) (h7 : ((c.knobs == [])) = true) (h8 : ((P.stopKnobs == [])) = true) (h9 : ((c.inPlace == P.inPlace f)) = true) (h10 : ((c.unfollowed == P.unfollowed f)) = true) (h11 : ((c.recurses == P.recurses f)) = true) (h12 : ((c.named == P.varsNamed f)) = true) (h13 : ((c.maps == (fn.params.toList ++ s.plain.varTypes P).any (P.mapsRec ·))) = true) (h14 : ((c.ifaces == (fn.params.toList ++ s.plain.varTypes P).any (P.ifacesRec ·))) = true) (h15 : ((c.mapsOut == P.mapsAmong fn.resultTypes.toList)) = true) (h16 : ((c.loops == (fn.params.toList ++ s.plain.varTypes P).any (P.loopsFrom ·))) = true) (h17 : ((c.wideKeys == (fn.params.toList ++ s.plain.varTypes P ++ fn.resultTypes.toList).any (P.wideKeysFrom ·))) = true) (h18 : (s.vars.all (P.varReadable ·)) = true) (h19 : (fn.resultTypes.all (fun t => P.readableRec t && decide (t < P.types.size))) = true) (h20 : ((c.ifacesOut == fn.resultTypes.toList.any (P.ifacesRec ·))) = true) (h21 : ((c.loopsOut == fn.resultTypes.toList.any (P.loopsFrom ·))) = true) (h22 : ((c.plainKeys == P.plainKeys)) = true) (h23 : (c.shortTexts.isNone) = true) (h24 : (P.stopsHeard) = true) (h25 : (P.mayEnter) = true) (h26 : ((c.lifted == P.liftsFinal)) = true) (h27 : ((P.make == some c.make)) = true) (h28 : ((c.kinds == (if c.domain.isEmpty then [] else fn.params.toList.map fun t => match P.underlying t with | some (.int k) => some k | _ => none))) = true) (h29 : ((c.pinned == c.pinnedBy)) = true) (h30 : ((c.veiled == (fn.params.toList ++ s.plain.varTypes P ++ fn.resultTypes.toList).any (P.veiledRec ·))) = true) (h31 : (c.veiledFits P fn.params.toList (fn.params.toList ++ s.plain.varTypes P ++ fn.resultTypes.toList)) = true) : joinedFacts P f fn s c = true := by
  unfold joinedFacts
  exact (and_tt (and_tt (and_tt (and_tt (and_tt (and_tt (and_tt (and_tt (and_tt (and_tt (and_tt (and_tt (and_tt (and_tt (and_tt (and_tt (and_tt (and_tt (and_tt (and_tt (and_tt (and_tt (and_tt (and_tt (and_tt (and_tt (and_tt (and_tt (and_tt (and_tt (and_tt h0 h1) h2) h3) h4) h5) h6) h7) h8) h9) h10) h11) h12) h13) h14) h15) h16) h17) h18) h19) h20) h21) h22) h23) h24) h25) h26) h27) h28) h29) h30) h31)
section
variable {H : Type} {enc : TypeId × Value → H} {W : World} {b0 : Nat} {v : Value} {d : DataW H} {p : List MemPlace} {base : Nat} {spare : Nat → Bool} {held : Bool}
theorem ins_open (hv : Value.okWide Tryz.prog W .any b0 23 v) (h : DataW.Trod enc Tryz.prog W base spare held 23 v d p) : ∃ i : SX.In, v = SX.den (fun _ _ => none) (.agg (SX.ienc i)) ∧ SX.InW i := by
  obtain ⟨cs, rfl, hl⟩ := SX.open_agg (f := 40) (ls := SX.insLs) ⟨_, Tryz.underlying23⟩ (by kernel_rfl) (by kernel_rfl) hv h
  obtain ⟨i, rfl, hi⟩ := SX.in_dec cs hl
  exact ⟨i, by rw [SX.den_agg]; rfl, hi⟩
end
end Go.Proofs.YthkedcneehdinaaGreatDoor

/- Words of any text: how many, how long; x86.Parse of a row that stays. -/
set_option linter.unusedVariables false
set_option maxRecDepth 100000
namespace Go.Proofs.YthkedcneehdinaaGreatDoor
namespace SX
open Go Go.Proofs
theorem Cp.vac {X : List Value → World → (Value → World → Prop) → Prop} {args : List SV} {H : List SB} {K : SV → List SB → Prop} (h : ∀ m V, ¬ OkA m V args) : Cp X args H K := ⟨fun C E m w hr ha => absurd ha (h _ _)⟩
theorem imm_none {m : Mem} {V : List Nat} {ts : List Tk} {cap : Nat} (h : OkA m V [.imm Tk tk0 4 tkenc ts none cap]) : ts = [] := by
  simp only [OkA, Ok] at h
  by_cases he : ts = []
  · exact he
  · obtain ⟨_, _, _, _, h2, _⟩ := h.1.2.2.1 he
    cases h2
theorem tok_lens (s : List UInt8) : ∀ t ∈ (tokF s).1, t.s.length ≤ 8192 := by
  have key : ∀ (f p : Nat) (out : List Tk), s.length ≤ 8192 → (∀ t ∈ out, t.s.length ≤ 8192) → ∀ t ∈ (tokC s f p out).1, t.s.length ≤ 8192 := by
    intro f
    induction f with
    | zero => intro p out _ h; exact h
    | succ f ih =>
      intro p out hs h t ht
      unfold tokC at ht
      split at ht
      · exact h t ht
      · split at ht
        · exact ih _ _ hs h t ht
        · rename_i y hy
          refine ih _ _ hs (fun x hx => ?_) t ht
          rcases List.mem_append.1 hx with hx | hx
          · exact h x hx
          · rw [List.mem_singleton.1 hx]
            have := step_len hy
            rw [List.length_drop] at this
            omega
        · cases ht
  unfold tokF
  split
  · intro t ht; cases ht
  · exact key _ _ _ (by omega) fun t ht => by cases ht
theorem tok_count (s : List UInt8) : (tokF s).1.length ≤ 8192 := by
  have pos : ∀ (p : Nat) (y : Tk), p < s.length → stepF (s.drop p) p = .tok y → 1 ≤ y.s.length := by
    intro p y hp hy
    have hne : s.drop p ≠ [] := fun hh => by have := congrArg List.length hh; simp at this; omega
    unfold stepF at hy
    split at hy
    · cases hy
    split at hy
    · split at hy <;> cases hy
    split at hy
    · rename_i hd
      split at hy
      · cases hy
      · cases hy
        have : 0 < rowF numB (s.drop p) := rowF_pos hne (by unfold numB; rw [hd]; simp)
        show 1 ≤ (List.take _ _).length
        rw [List.length_take, List.length_drop]; omega
    split at hy
    · rename_i hl
      cases hy
      have : 0 < rowF namB (s.drop p) := rowF_pos hne (by
        unfold namB
        simp only [Bool.or_eq_true, decide_eq_true_eq] at hl ⊢
        rcases hl with hl | hl
        · exact .inl (.inl (.inl hl))
        · exact .inl (.inr hl))
      show 1 ≤ (List.take _ _).length
      rw [List.length_take, List.length_drop]; omega
    split at hy
    · cases hy
      show 1 ≤ (List.take _ _).length
      rw [List.length_take, List.length_drop]; omega
    split at hy
    · cases hy
      show 1 ≤ (List.take _ _).length
      rw [List.length_take, List.length_drop]; omega
    · cases hy
  have key : ∀ (f p : Nat) (out : List Tk), s.length ≤ 8192 → p ≤ s.length → out.length ≤ p → (tokC s f p out).1.length ≤ 8192 := by
    intro f
    induction f with
    | zero => intro p out hs hp h; exact Nat.le_trans h (by omega)
    | succ f ih =>
      intro p out hs hp h
      unfold tokC
      split
      · show out.length ≤ 8192; omega
      · split
        · rename_i n hn
          by_cases hq : p + n ≤ s.length
          · exact ih _ _ hs hq (by omega)
          · have e : ∀ g, tokC s g (p + n) out = (out, 0, 0) := fun g => tokC_end (by omega)
            rw [e]; show out.length ≤ 8192; omega
        · rename_i y hy
          have h1 := pos p y (by omega) hy
          have h2 := step_len hy
          rw [List.length_drop] at h2
          exact ih _ _ hs (by omega) (by rw [List.length_append, List.length_singleton]; omega)
        · exact Nat.zero_le _
  unfold tokF
  split
  · exact Nat.zero_le _
  · exact key _ _ _ (by omega) (Nat.zero_le _) (Nat.le_refl _)
theorem tk_at_len {s : List UInt8} {ts : List Tk} (h : (tokF s).1 = ts) (p : Nat) : (tkAt ts p).s.length ≤ 100000 := by
  unfold tkAt
  rw [List.getD_eq_getElem?_getD]
  cases hx : ts[p]? with
  | none => exact Nat.zero_le _
  | some t => exact Nat.le_trans (tok_lens s t (by rw [h]; exact List.mem_of_getElem? hx)) (by decide)
theorem eqI_rfl (i : In) : eqI i i = true := by unfold eqI; simp
end SX
end Go.Proofs.YthkedcneehdinaaGreatDoor

/- RISC-V: an instruction read. Written by pwi.py. -/
set_option linter.unusedVariables false
set_option maxRecDepth 100000
namespace Go.Proofs.YthkedcneehdinaaGreatDoor
namespace SX
open Go Go.Proofs
variable {c : Rc} {s : RS}
def idx4 (s0 s1 s2 s3 v : List UInt8) : Int := if v = s0 then 0 else if v = s1 then 1 else if v = s2 then 2 else if v = s3 then 3 else -1
set_option maxHeartbeats 1000000 in
theorem index4_s (s0 s1 s2 s3 v : List UInt8) : Ctr Tryz.prog 102 [.sl 0 1 0 4 (some 4) 0, .s v] [strB [s0, s1, s2, s3]] (fun r h => r = .i .i64 (idx4 s0 s1 s2 s3 v) ∧ h = [strB [s0, s1, s2, s3]]) := by
  refine Ctr.enterG tabOkF (fn := Tryz.f102) rfl rfl rfl rfl rfl rfl ⟨⟨rfl, rfl, rfl, rfl, trivial⟩, trivial⟩ ?_
  refine WpC.loop tabOkF (β := Nat) (fun k => k ≤ 4 ∧ (0 < k → v ≠ s0) ∧ (1 < k → v ≠ s1) ∧ (2 < k → v ≠ s2) ∧ (3 < k → v ≠ s3)) (fun k => [(8, .i .i64 k)]) (fun _ => [strB [s0, s1, s2, s3]]) (fun k => 4 - k) 0 524080 ⟨by decide, fun h => absurd h (by decide), fun h => absurd h (by decide), fun h => absurd h (by decide), fun h => absurd h (by decide)⟩ ?_ ?_
  · exact ⟨rfl, ⟨⟨rfl, rfl, rfl⟩, trivial⟩, ⟨[], rfl⟩, ⟨⟨rfl, rfl, rfl, rfl, trivial⟩, trivial⟩, rfl⟩
  · rintro k ⟨hk, q0, q1, q2, q3⟩
    rcases (by omega : k = 0 ∨ k = 1 ∨ k = 2 ∨ k = 3 ∨ k = 4) with rfl | rfl | rfl | rfl | rfl
    · refine ⟨fun _ => ?_, fun h => absurd h (by decide)⟩
      refine ⟨fun _ => by decide, ?_⟩
      refine ⟨fun h => ?_, fun h => ?_⟩
      · have e : v = s0 := of_decide_eq_true h
        refine ⟨i_cg ?_, _, rfl⟩
        unfold idx4
        rw [if_pos e]
        rfl
      · have e0 : ¬ v = s0 := of_decide_eq_false h
        exact ⟨1, ⟨by decide, fun _ => e0, fun h => absurd h (by decide), fun h => absurd h (by decide), fun h => absurd h (by decide)⟩, by decide, rfl, ⟨⟨rfl, rfl, rfl⟩, trivial⟩, ⟨[], rfl⟩, ⟨⟨rfl, rfl, rfl, rfl, trivial⟩, trivial⟩, rfl⟩
    · have e0 := q0 (by decide)
      refine ⟨fun _ => ?_, fun h => absurd h (by decide)⟩
      refine ⟨fun _ => by decide, ?_⟩
      refine ⟨fun h => ?_, fun h => ?_⟩
      · have e : v = s1 := of_decide_eq_true h
        refine ⟨i_cg ?_, _, rfl⟩
        unfold idx4
        rw [if_neg e0]
        rw [if_pos e]
        rfl
      · have e1 : ¬ v = s1 := of_decide_eq_false h
        exact ⟨2, ⟨by decide, fun _ => e0, fun _ => e1, fun h => absurd h (by decide), fun h => absurd h (by decide)⟩, by decide, rfl, ⟨⟨rfl, rfl, rfl⟩, trivial⟩, ⟨[], rfl⟩, ⟨⟨rfl, rfl, rfl, rfl, trivial⟩, trivial⟩, rfl⟩
    · have e0 := q0 (by decide)
      have e1 := q1 (by decide)
      refine ⟨fun _ => ?_, fun h => absurd h (by decide)⟩
      refine ⟨fun _ => by decide, ?_⟩
      refine ⟨fun h => ?_, fun h => ?_⟩
      · have e : v = s2 := of_decide_eq_true h
        refine ⟨i_cg ?_, _, rfl⟩
        unfold idx4
        rw [if_neg e0]
        rw [if_neg e1]
        rw [if_pos e]
        rfl
      · have e2 : ¬ v = s2 := of_decide_eq_false h
        exact ⟨3, ⟨by decide, fun _ => e0, fun _ => e1, fun _ => e2, fun h => absurd h (by decide)⟩, by decide, rfl, ⟨⟨rfl, rfl, rfl⟩, trivial⟩, ⟨[], rfl⟩, ⟨⟨rfl, rfl, rfl, rfl, trivial⟩, trivial⟩, rfl⟩
    · have e0 := q0 (by decide)
      have e1 := q1 (by decide)
      have e2 := q2 (by decide)
      refine ⟨fun _ => ?_, fun h => absurd h (by decide)⟩
      refine ⟨fun _ => by decide, ?_⟩
      refine ⟨fun h => ?_, fun h => ?_⟩
      · have e : v = s3 := of_decide_eq_true h
        refine ⟨i_cg ?_, _, rfl⟩
        unfold idx4
        rw [if_neg e0]
        rw [if_neg e1]
        rw [if_neg e2]
        rw [if_pos e]
        rfl
      · have e3 : ¬ v = s3 := of_decide_eq_false h
        exact ⟨4, ⟨by decide, fun _ => e0, fun _ => e1, fun _ => e2, fun _ => e3⟩, by decide, rfl, ⟨⟨rfl, rfl, rfl⟩, trivial⟩, ⟨[], rfl⟩, ⟨⟨rfl, rfl, rfl, rfl, trivial⟩, trivial⟩, rfl⟩
    · have e0 := q0 (by decide)
      have e1 := q1 (by decide)
      have e2 := q2 (by decide)
      have e3 := q3 (by decide)
      refine ⟨fun h => absurd h (by decide), fun _ => ⟨i_cg ?_, _, rfl⟩⟩
      unfold idx4
      rw [if_neg e0, if_neg e1, if_neg e2, if_neg e3]
theorem cut_len (s e : List UInt8) : (cutS s e).length ≤ s.length := by
  unfold cutS
  split
  · simp
  · exact Nat.le_refl _
end SX
end Go.Proofs.YthkedcneehdinaaGreatDoor

/- Arm: names of memory operations, barriers. Written by pwk.py. -/
set_option linter.unusedVariables false
set_option maxRecDepth 100000
namespace Go.Proofs.YthkedcneehdinaaGreatDoor
namespace SX
open Go Go.Proofs
variable {c : Rc} {s : RS}
def idx3 (s0 s1 s2 v : List UInt8) : Int := if v = s0 then 0 else if v = s1 then 1 else if v = s2 then 2 else -1
set_option maxHeartbeats 1000000 in
theorem index3_s (s0 s1 s2 v : List UInt8) : Ctr Tryz.prog 102 [.sl 0 1 0 3 (some 3) 0, .s v] [strB [s0, s1, s2]] (fun r h => r = .i .i64 (idx3 s0 s1 s2 v) ∧ h = [strB [s0, s1, s2]]) := by
  refine Ctr.enterG tabOkF (fn := Tryz.f102) rfl rfl rfl rfl rfl rfl ⟨⟨rfl, rfl, rfl, trivial⟩, trivial⟩ ?_
  refine WpC.loop tabOkF (β := Nat) (fun k => k ≤ 3 ∧ (0 < k → v ≠ s0) ∧ (1 < k → v ≠ s1) ∧ (2 < k → v ≠ s2)) (fun k => [(8, .i .i64 k)]) (fun _ => [strB [s0, s1, s2]]) (fun k => 3 - k) 0 524080 ⟨by decide, fun h => absurd h (by decide), fun h => absurd h (by decide), fun h => absurd h (by decide)⟩ ?_ ?_
  · exact ⟨rfl, ⟨⟨rfl, rfl, rfl⟩, trivial⟩, ⟨[], rfl⟩, ⟨⟨rfl, rfl, rfl, trivial⟩, trivial⟩, rfl⟩
  · rintro k ⟨hk, q0, q1, q2⟩
    rcases (by omega : k = 0 ∨ k = 1 ∨ k = 2 ∨ k = 3) with rfl | rfl | rfl | rfl
    · refine ⟨fun _ => ?_, fun h => absurd h (by decide)⟩
      refine ⟨fun _ => by decide, ?_⟩
      refine ⟨fun h => ?_, fun h => ?_⟩
      · have e : v = s0 := of_decide_eq_true h
        refine ⟨i_cg ?_, _, rfl⟩
        unfold idx3
        rw [if_pos e]
        rfl
      · have e0 : ¬ v = s0 := of_decide_eq_false h
        exact ⟨1, ⟨by decide, fun _ => e0, fun h => absurd h (by decide), fun h => absurd h (by decide)⟩, by decide, rfl, ⟨⟨rfl, rfl, rfl⟩, trivial⟩, ⟨[], rfl⟩, ⟨⟨rfl, rfl, rfl, trivial⟩, trivial⟩, rfl⟩
    · have e0 := q0 (by decide)
      refine ⟨fun _ => ?_, fun h => absurd h (by decide)⟩
      refine ⟨fun _ => by decide, ?_⟩
      refine ⟨fun h => ?_, fun h => ?_⟩
      · have e : v = s1 := of_decide_eq_true h
        refine ⟨i_cg ?_, _, rfl⟩
        unfold idx3
        rw [if_neg e0]
        rw [if_pos e]
        rfl
      · have e1 : ¬ v = s1 := of_decide_eq_false h
        exact ⟨2, ⟨by decide, fun _ => e0, fun _ => e1, fun h => absurd h (by decide)⟩, by decide, rfl, ⟨⟨rfl, rfl, rfl⟩, trivial⟩, ⟨[], rfl⟩, ⟨⟨rfl, rfl, rfl, trivial⟩, trivial⟩, rfl⟩
    · have e0 := q0 (by decide)
      have e1 := q1 (by decide)
      refine ⟨fun _ => ?_, fun h => absurd h (by decide)⟩
      refine ⟨fun _ => by decide, ?_⟩
      refine ⟨fun h => ?_, fun h => ?_⟩
      · have e : v = s2 := of_decide_eq_true h
        refine ⟨i_cg ?_, _, rfl⟩
        unfold idx3
        rw [if_neg e0]
        rw [if_neg e1]
        rw [if_pos e]
        rfl
      · have e2 : ¬ v = s2 := of_decide_eq_false h
        exact ⟨3, ⟨by decide, fun _ => e0, fun _ => e1, fun _ => e2⟩, by decide, rfl, ⟨⟨rfl, rfl, rfl⟩, trivial⟩, ⟨[], rfl⟩, ⟨⟨rfl, rfl, rfl, trivial⟩, trivial⟩, rfl⟩
    · have e0 := q0 (by decide)
      have e1 := q1 (by decide)
      have e2 := q2 (by decide)
      refine ⟨fun h => absurd h (by decide), fun _ => ⟨i_cg ?_, _, rfl⟩⟩
      unfold idx3
      rw [if_neg e0, if_neg e1, if_neg e2]
theorem contains4_s (s0 s1 s2 s3 v : List UInt8) : Ctr Tryz.prog 217 [.sl 0 1 0 4 (some 4) 0, .s v] [strB [s0, s1, s2, s3]] (fun r h => r = .b (decide (0 ≤ idx4 s0 s1 s2 s3 v)) ∧ h = [strB [s0, s1, s2, s3]]) := by
  refine Ctr.enterG tabOkF (fn := Tryz.f217) rfl rfl rfl rfl rfl rfl ⟨⟨rfl, rfl, rfl, rfl, trivial⟩, trivial⟩ ?_
  refine OpC.callH rfl rfl rfl rfl [0] rfl (index4_s s0 s1 s2 s3 v) rfl rfl rfl rfl ⟨rfl, trivial⟩ rfl ?_
  exact ⟨rfl, _, rfl⟩
theorem sSuf_w (s p : List UInt8) (hs : s.length ≤ 1000000) (hp : p.length ≤ 1000000) : CtrV Tryz.prog 218 [.s s, .s p] (.b (sufB s p)) := by
  refine Ctr.enterV tabOkF (fn := Tryz.f218) rfl rfl rfl rfl rfl rfl ?_
  refine OpC.callV rfl rfl rfl rfl rfl rfl rfl (fun _ => hasSuf_w s p hs hp) ?_
  exact rfl
def aFnB : SB := strB [[], [65, 68, 68], [83, 85, 66], [69, 79, 82], [65, 78, 68], [79, 82, 82]]
theorem afunctions_ok : Ctr Tryz.prog 173 [] [] (fun r h => r = .sl 0 1 0 6 (some 6) 0 ∧ h = [aFnB]) :=
  memo_of (tr := treeF) (ft := ftree) (ms := []) (n := 40) (m := Memo.mk 173 [] [] (.sl 0 1 0 6 (some 6) 0) [aFnB]) tabOkF ftOk mixed (by intro m hm; cases hm) (by decide +kernel)
theorem rest_in (v : List UInt8) : 0 ≤ idx4 [] [65] [76] [65, 76] v ↔ (v = [] ∨ v = [65] ∨ v = [76] ∨ v = [65, 76]) := by
  unfold idx4
  constructor
  · intro h
    split at h
    · rename_i e; exact .inl e
    split at h
    · rename_i e; exact .inr (.inl e)
    split at h
    · rename_i e; exact .inr (.inr (.inl e))
    split at h
    · rename_i e; exact .inr (.inr (.inr e))
    · exact absurd h (by decide)
  · rintro (rfl | rfl | rfl | rfl) <;> decide
theorem siz_len (e0 e1 e2 e3 nm : List UInt8) : (sizP e0 e1 e2 e3 nm).1.length ≤ nm.length := by
  unfold sizP
  repeat' split
  all_goals first | exact cut_len _ _ | exact Nat.le_refl _
set_option maxHeartbeats 4000000 in
theorem memory_w (nm : List UInt8) (hn : nm.length ≤ 100000) : CtrV Tryz.prog 176 [.s nm] (.tup [.agg (ienc (memA nm).1), .b (memA nm).2]) := by
  have hsz := size_w nm [66] [72] [87] [] (by omega) (by decide) (by decide) (by decide) (by decide)
  have hwl := siz_len [66] [72] [87] [] nm
  unfold memA sizA
  dsimp only
  obtain ⟨w, z, hz⟩ : ∃ w z, sizP [66] [72] [87] [] nm = (w, z) := ⟨_, _, rfl⟩
  rw [hz] at hsz hwl ⊢
  dsimp only at hsz hwl ⊢
  by_cases e1 : w = [76, 68, 82]
  · subst e1
    rw [if_pos (.inl rfl)]
    refine Ctr.enterV tabOkF (fn := Tryz.f176) rfl rfl rfl rfl rfl rfl ?_
    refine OpC.callH rfl rfl rfl rfl [1] rfl hsz rfl rfl rfl rfl ⟨rfl, trivial⟩ rfl ?_
    refine ⟨fun _ => ?_, fun h => no_tf h⟩
    refine ⟨fun _ => ?_, fun h => no_tf h⟩
    refine OpC.callV rfl rfl rfl rfl rfl rfl rfl (fun _ => none_w 4) ?_
    exact rfl
  by_cases e2 : w = [76, 68, 65, 82]
  · subst e2
    rw [if_pos (.inr (.inl rfl))]
    refine Ctr.enterV tabOkF (fn := Tryz.f176) rfl rfl rfl rfl rfl rfl ?_
    refine OpC.callH rfl rfl rfl rfl [1] rfl hsz rfl rfl rfl rfl ⟨rfl, trivial⟩ rfl ?_
    refine ⟨fun h => no_ft h, fun _ => ?_⟩
    refine ⟨fun _ => ?_, fun h => no_tf h⟩
    refine ⟨fun _ => ?_, fun h => no_tf h⟩
    refine OpC.callV rfl rfl rfl rfl rfl rfl rfl (fun _ => none_w 4) ?_
    exact rfl
  by_cases e3 : w = [76, 68, 65, 80, 82]
  · subst e3
    rw [if_pos (.inr (.inr rfl))]
    refine Ctr.enterV tabOkF (fn := Tryz.f176) rfl rfl rfl rfl rfl rfl ?_
    refine OpC.callH rfl rfl rfl rfl [1] rfl hsz rfl rfl rfl rfl ⟨rfl, trivial⟩ rfl ?_
    refine ⟨fun h => no_ft h, fun _ => ?_⟩
    refine ⟨fun h => no_ft h, fun _ => ?_⟩
    refine ⟨fun _ => ?_, fun h => no_tf h⟩
    refine OpC.callV rfl rfl rfl rfl rfl rfl rfl (fun _ => none_w 4) ?_
    exact rfl
  rw [if_neg (fun hh => hh.elim e1 (fun q => q.elim e2 e3))]
  by_cases e4 : w = [83, 84, 82]
  · subst e4
    rw [if_pos (.inl rfl)]
    refine Ctr.enterV tabOkF (fn := Tryz.f176) rfl rfl rfl rfl rfl rfl ?_
    refine OpC.callH rfl rfl rfl rfl [1] rfl hsz rfl rfl rfl rfl ⟨rfl, trivial⟩ rfl ?_
    refine ⟨fun h => no_ft h, fun _ => ?_⟩
    refine ⟨fun h => no_ft h, fun _ => ?_⟩
    refine ⟨fun h => no_ft h, fun _ => ?_⟩
    refine ⟨fun _ => ?_, fun h => no_tf h⟩
    refine ⟨fun _ => ?_, fun h => no_tf h⟩
    refine OpC.callV rfl rfl rfl rfl rfl rfl rfl (fun _ => none_w 5) ?_
    exact rfl
  by_cases e5 : w = [83, 84, 76, 82]
  · subst e5
    rw [if_pos (.inr rfl)]
    refine Ctr.enterV tabOkF (fn := Tryz.f176) rfl rfl rfl rfl rfl rfl ?_
    refine OpC.callH rfl rfl rfl rfl [1] rfl hsz rfl rfl rfl rfl ⟨rfl, trivial⟩ rfl ?_
    refine ⟨fun h => no_ft h, fun _ => ?_⟩
    refine ⟨fun h => no_ft h, fun _ => ?_⟩
    refine ⟨fun h => no_ft h, fun _ => ?_⟩
    refine ⟨fun h => no_ft h, fun _ => ?_⟩
    refine ⟨fun _ => ?_, fun h => no_tf h⟩
    refine OpC.callV rfl rfl rfl rfl rfl rfl rfl (fun _ => none_w 5) ?_
    exact rfl
  rw [if_neg (fun hh => hh.elim e4 e5)]
  have hs := cutPrefix_ok w [83, 87, 80]
  have ha := cutPrefix_ok w [76, 68, 65, 68, 68]
  cases k1 : pre w [83, 87, 80] with
  | true =>
    rw [if_pos rfl]
    rw [show cutP w [83, 87, 80] = w.drop 3 by unfold cutP; rw [if_pos k1, List.take_length]; rfl, k1] at hs
    have hr : (w.drop 3).length ≤ 1000000 := by rw [List.length_drop]; omega
    have hc := contains4_s [] [65] [76] [65, 76] (w.drop 3)
    have hp := hasPrefix_ok (w.drop 3) [65]
    have hq := sSuf_w (w.drop 3) [76] hr (by decide)
    generalize w.drop 3 = v at *
    unfold restA
    by_cases hv : v = [] ∨ v = [65] ∨ v = [76] ∨ v = [65, 76]
    · rw [if_pos hv]
      have hi := (rest_in v).2 hv
      refine Ctr.enterV tabOkF (fn := Tryz.f176) rfl rfl rfl rfl rfl rfl ?_
      refine OpC.callH rfl rfl rfl rfl [1] rfl hsz rfl rfl rfl rfl ⟨rfl, trivial⟩ rfl ?_
      refine ⟨fun h => ?_, fun _ => ?_⟩
      · have h : decide (w = [76, 68, 82]) = true := h
        rw [decide_eq_false e1] at h; cases h
      refine ⟨fun h => ?_, fun _ => ?_⟩
      · have h : decide (w = [76, 68, 65, 82]) = true := h
        rw [decide_eq_false e2] at h; cases h
      refine ⟨fun h => ?_, fun _ => ?_⟩
      · have h : decide (w = [76, 68, 65, 80, 82]) = true := h
        rw [decide_eq_false e3] at h; cases h
      refine ⟨fun h => ?_, fun _ => ?_⟩
      · have h : decide (w = [83, 84, 82]) = true := h
        rw [decide_eq_false e4] at h; cases h
      refine ⟨fun h => ?_, fun _ => ?_⟩
      · have h : decide (w = [83, 84, 76, 82]) = true := h
        rw [decide_eq_false e5] at h; cases h
      refine OpC.callV rfl rfl rfl rfl rfl rfl rfl (fun _ => none_w 6) ?_
      refine OpC.callV rfl rfl rfl rfl rfl rfl rfl (fun _ => hs) ?_
      refine ⟨fun h => no_ft h, fun _ => ?_⟩
      refine OpC.callH rfl rfl rfl rfl [2] rfl hc rfl rfl rfl rfl ⟨rfl, trivial⟩ rfl ?_
      refine ⟨fun h => ?_, fun _ => ?_⟩
      · have h : (!decide (0 ≤ idx4 [] [65] [76] [65, 76] v)) = true := h
        rw [decide_eq_true hi] at h; cases h
      refine OpC.callV rfl rfl rfl rfl rfl rfl rfl (fun _ => hp) ?_
      refine OpC.callV rfl rfl rfl rfl rfl rfl rfl (fun _ => hq) ?_
      exact rfl
    · rw [if_neg hv]
      have hi : ¬ 0 ≤ idx4 [] [65] [76] [65, 76] v := fun hh => hv ((rest_in v).1 hh)
      refine Ctr.enterV tabOkF (fn := Tryz.f176) rfl rfl rfl rfl rfl rfl ?_
      refine OpC.callH rfl rfl rfl rfl [1] rfl hsz rfl rfl rfl rfl ⟨rfl, trivial⟩ rfl ?_
      refine ⟨fun h => ?_, fun _ => ?_⟩
      · have h : decide (w = [76, 68, 82]) = true := h
        rw [decide_eq_false e1] at h; cases h
      refine ⟨fun h => ?_, fun _ => ?_⟩
      · have h : decide (w = [76, 68, 65, 82]) = true := h
        rw [decide_eq_false e2] at h; cases h
      refine ⟨fun h => ?_, fun _ => ?_⟩
      · have h : decide (w = [76, 68, 65, 80, 82]) = true := h
        rw [decide_eq_false e3] at h; cases h
      refine ⟨fun h => ?_, fun _ => ?_⟩
      · have h : decide (w = [83, 84, 82]) = true := h
        rw [decide_eq_false e4] at h; cases h
      refine ⟨fun h => ?_, fun _ => ?_⟩
      · have h : decide (w = [83, 84, 76, 82]) = true := h
        rw [decide_eq_false e5] at h; cases h
      refine OpC.callV rfl rfl rfl rfl rfl rfl rfl (fun _ => none_w 6) ?_
      refine OpC.callV rfl rfl rfl rfl rfl rfl rfl (fun _ => hs) ?_
      refine ⟨fun h => no_ft h, fun _ => ?_⟩
      refine OpC.callH rfl rfl rfl rfl [2] rfl hc rfl rfl rfl rfl ⟨rfl, trivial⟩ rfl ?_
      refine ⟨fun _ => ?_, fun h => ?_⟩
      rotate_left
      · have h : (!decide (0 ≤ idx4 [] [65] [76] [65, 76] v)) = false := h
        rw [decide_eq_false hi] at h; cases h
      exact rfl
  | false =>
    rw [if_neg (by decide)]
    rw [k1] at hs
    cases k2 : pre w [76, 68, 65, 68, 68] with
    | true =>
      rw [if_pos rfl]
      rw [show cutP w [76, 68, 65, 68, 68] = w.drop 5 by unfold cutP; rw [if_pos k2, List.take_length]; rfl, k2] at ha
      generalize cutP w [83, 87, 80] = vs at *
      have hr : (w.drop 5).length ≤ 1000000 := by rw [List.length_drop]; omega
      have hc := contains4_s [] [65] [76] [65, 76] (w.drop 5)
      have hp := hasPrefix_ok (w.drop 5) [65]
      have hq := sSuf_w (w.drop 5) [76] hr (by decide)
      generalize w.drop 5 = v at *
      unfold restA
      by_cases hv : v = [] ∨ v = [65] ∨ v = [76] ∨ v = [65, 76]
      · rw [if_pos hv]
        have hi := (rest_in v).2 hv
        refine Ctr.enterV tabOkF (fn := Tryz.f176) rfl rfl rfl rfl rfl rfl ?_
        refine OpC.callH rfl rfl rfl rfl [1] rfl hsz rfl rfl rfl rfl ⟨rfl, trivial⟩ rfl ?_
        refine ⟨fun h => ?_, fun _ => ?_⟩
        · have h : decide (w = [76, 68, 82]) = true := h
          rw [decide_eq_false e1] at h; cases h
        refine ⟨fun h => ?_, fun _ => ?_⟩
        · have h : decide (w = [76, 68, 65, 82]) = true := h
          rw [decide_eq_false e2] at h; cases h
        refine ⟨fun h => ?_, fun _ => ?_⟩
        · have h : decide (w = [76, 68, 65, 80, 82]) = true := h
          rw [decide_eq_false e3] at h; cases h
        refine ⟨fun h => ?_, fun _ => ?_⟩
        · have h : decide (w = [83, 84, 82]) = true := h
          rw [decide_eq_false e4] at h; cases h
        refine ⟨fun h => ?_, fun _ => ?_⟩
        · have h : decide (w = [83, 84, 76, 82]) = true := h
          rw [decide_eq_false e5] at h; cases h
        refine OpC.callV rfl rfl rfl rfl rfl rfl rfl (fun _ => none_w 6) ?_
        refine OpC.callV rfl rfl rfl rfl rfl rfl rfl (fun _ => hs) ?_
        refine ⟨fun _ => ?_, fun h => no_tf h⟩
        refine OpC.callV rfl rfl rfl rfl rfl rfl rfl (fun _ => ha) ?_
        refine ⟨fun h => no_ft h, fun _ => ?_⟩
        refine OpC.callH rfl rfl rfl rfl [2] rfl hc rfl rfl rfl rfl ⟨rfl, trivial⟩ rfl ?_
        refine ⟨fun h => ?_, fun _ => ?_⟩
        · have h : (!decide (0 ≤ idx4 [] [65] [76] [65, 76] v)) = true := h
          rw [decide_eq_true hi] at h; cases h
        refine OpC.callV rfl rfl rfl rfl rfl rfl rfl (fun _ => hp) ?_
        refine OpC.callV rfl rfl rfl rfl rfl rfl rfl (fun _ => hq) ?_
        exact rfl
      · rw [if_neg hv]
        have hi : ¬ 0 ≤ idx4 [] [65] [76] [65, 76] v := fun hh => hv ((rest_in v).1 hh)
        refine Ctr.enterV tabOkF (fn := Tryz.f176) rfl rfl rfl rfl rfl rfl ?_
        refine OpC.callH rfl rfl rfl rfl [1] rfl hsz rfl rfl rfl rfl ⟨rfl, trivial⟩ rfl ?_
        refine ⟨fun h => ?_, fun _ => ?_⟩
        · have h : decide (w = [76, 68, 82]) = true := h
          rw [decide_eq_false e1] at h; cases h
        refine ⟨fun h => ?_, fun _ => ?_⟩
        · have h : decide (w = [76, 68, 65, 82]) = true := h
          rw [decide_eq_false e2] at h; cases h
        refine ⟨fun h => ?_, fun _ => ?_⟩
        · have h : decide (w = [76, 68, 65, 80, 82]) = true := h
          rw [decide_eq_false e3] at h; cases h
        refine ⟨fun h => ?_, fun _ => ?_⟩
        · have h : decide (w = [83, 84, 82]) = true := h
          rw [decide_eq_false e4] at h; cases h
        refine ⟨fun h => ?_, fun _ => ?_⟩
        · have h : decide (w = [83, 84, 76, 82]) = true := h
          rw [decide_eq_false e5] at h; cases h
        refine OpC.callV rfl rfl rfl rfl rfl rfl rfl (fun _ => none_w 6) ?_
        refine OpC.callV rfl rfl rfl rfl rfl rfl rfl (fun _ => hs) ?_
        refine ⟨fun _ => ?_, fun h => no_tf h⟩
        refine OpC.callV rfl rfl rfl rfl rfl rfl rfl (fun _ => ha) ?_
        refine ⟨fun h => no_ft h, fun _ => ?_⟩
        refine OpC.callH rfl rfl rfl rfl [2] rfl hc rfl rfl rfl rfl ⟨rfl, trivial⟩ rfl ?_
        refine ⟨fun _ => ?_, fun h => ?_⟩
        rotate_left
        · have h : (!decide (0 ≤ idx4 [] [65] [76] [65, 76] v)) = false := h
          rw [decide_eq_false hi] at h; cases h
        exact rfl
    | false =>
      rw [if_neg (by decide)]
      rw [k2] at ha
      refine Ctr.enterV tabOkF (fn := Tryz.f176) rfl rfl rfl rfl rfl rfl ?_
      refine OpC.callH rfl rfl rfl rfl [1] rfl hsz rfl rfl rfl rfl ⟨rfl, trivial⟩ rfl ?_
      refine ⟨fun h => ?_, fun _ => ?_⟩
      · have h : decide (w = [76, 68, 82]) = true := h
        rw [decide_eq_false e1] at h; cases h
      refine ⟨fun h => ?_, fun _ => ?_⟩
      · have h : decide (w = [76, 68, 65, 82]) = true := h
        rw [decide_eq_false e2] at h; cases h
      refine ⟨fun h => ?_, fun _ => ?_⟩
      · have h : decide (w = [76, 68, 65, 80, 82]) = true := h
        rw [decide_eq_false e3] at h; cases h
      refine ⟨fun h => ?_, fun _ => ?_⟩
      · have h : decide (w = [83, 84, 82]) = true := h
        rw [decide_eq_false e4] at h; cases h
      refine ⟨fun h => ?_, fun _ => ?_⟩
      · have h : decide (w = [83, 84, 76, 82]) = true := h
        rw [decide_eq_false e5] at h; cases h
      refine OpC.callV rfl rfl rfl rfl rfl rfl rfl (fun _ => none_w 6) ?_
      refine OpC.callV rfl rfl rfl rfl rfl rfl rfl (fun _ => hs) ?_
      refine ⟨fun _ => ?_, fun h => no_tf h⟩
      refine OpC.callV rfl rfl rfl rfl rfl rfl rfl (fun _ => ha) ?_
      refine ⟨fun _ => ?_, fun h => no_tf h⟩
      exact rfl
end SX
end Go.Proofs.YthkedcneehdinaaGreatDoor

/- Arm: an instruction read. Written by pwl.py. -/
set_option linter.unusedVariables false
set_option maxRecDepth 100000
namespace Go.Proofs.YthkedcneehdinaaGreatDoor
namespace SX
open Go Go.Proofs
variable {c : Rc} {s : RS}
def barC (k : Nat) : SB := .mem 67 [.sl k 1 0 3 (some 3) 0] 1 0
theorem bar1_w (v : List UInt8) : Ctr Tryz.prog 175 [.s v, .ptr 0 1 0 []] [barC 1, strB [[83, 89], [76, 68], [83, 84]]] (fun r h => r = .i .i64 (brI v) ∧ h = [barC 1, strB [[83, 89], [76, 68], [83, 84]]]) := by
  refine Ctr.enterG tabOkF (fn := Tryz.f175) rfl rfl rfl rfl rfl rfl ⟨⟨rfl, trivial⟩, ⟨rfl, rfl, rfl, trivial⟩, trivial⟩ ?_
  refine OpC.callH rfl rfl rfl rfl [1] rfl (index3_s [83, 89] [76, 68] [83, 84] v) rfl rfl rfl rfl ⟨rfl, trivial⟩ rfl ?_
  exact ⟨rfl, _, rfl⟩
def hC (c : Rc) (s : RS) : List SB := [rowS c.L.s0 c.L.s1 c.L.s2 c.L.s3 c.L.s4 c.L.s5 c.L.s6 c.L.s7, langB c.L.h c.rd c.pr, curB c.ts c.ad c.cap s.p, rdrB 2 1 c.lb s.e s.q, barC 5, strB [[83, 89], [76, 68], [83, 84]]]
theorem bndC {c : Rc} {s : RS} : BndH 6 (hC c s) := ⟨⟨rfl, rfl, rfl, rfl, rfl, rfl, rfl, rfl, trivial⟩, ⟨rfl, rfl, rfl, rfl, trivial⟩, bndCur, ⟨rfl, rfl, rfl, rfl, rfl, trivial⟩, ⟨rfl, trivial⟩, ⟨rfl, rfl, rfl, trivial⟩, trivial⟩
theorem of_bar (hk : Rk c s) : Ctr Tryz.prog 159 [.ptr 3 1 0 [], .fn 175 [.ptr 4 1 0 []]] (hC c s) (fun r h => r = .i .i64 (ofP brI c.ts s).1 ∧ h = hC c (ofP brI c.ts s).2) := by
  have hw := rword_w hk
  by_cases h0 : brI (wordP c.ts s).1 < 0
  · rw [of_lt h0]
    refine Ctr.enterH tabOkF (fn := Tryz.f159) rfl rfl rfl rfl rfl rfl bndC (Nat.le_refl _) ?_
    refine OpC.callH rfl rfl rfl rfl [0, 1, 2, 3] rfl hw rfl rfl rfl rfl ⟨rfl, rfl, rfl, rfl, trivial⟩ rfl ?_
    refine OpC.callH rfl rfl rfl rfl [4, 5] rfl (bar1_w _) rfl rfl rfl rfl ⟨rfl, rfl, trivial⟩ rfl ?_
    refine ⟨fun _ => ?_, fun h => absurd h0 (of_decide_eq_false h)⟩
    refine OpC.callH rfl rfl rfl rfl [0, 1, 2, 3] rfl (rfail_ok (s := (wordP c.ts s).2) 21 (whF c.ts s.p)) rfl rfl rfl rfl ⟨rfl, rfl, rfl, rfl, trivial⟩ rfl ?_
    exact ⟨rfl, _, rfl⟩
  · rw [of_ge h0]
    refine Ctr.enterH tabOkF (fn := Tryz.f159) rfl rfl rfl rfl rfl rfl bndC (Nat.le_refl _) ?_
    refine OpC.callH rfl rfl rfl rfl [0, 1, 2, 3] rfl hw rfl rfl rfl rfl ⟨rfl, rfl, rfl, rfl, trivial⟩ rfl ?_
    refine OpC.callH rfl rfl rfl rfl [4, 5] rfl (bar1_w _) rfl rfl rfl rfl ⟨rfl, rfl, trivial⟩ rfl ?_
    refine ⟨fun h => absurd (of_decide_eq_true h) h0, fun _ => ?_⟩
    exact ⟨rfl, _, rfl⟩
theorem barriers_ok : Ctr Tryz.prog 174 [] [] (fun r h => r = .tup [.sl 0 1 0 3 (some 3) 0, .sl 1 1 0 3 (some 3) 0] ∧ h = [strB [[83, 89], [76, 68], [83, 84]], .mem 190 [.i .i64 3, .i .i64 3, .i .i64 1, .i .i64 3, .i .i64 2, .i .i64 2] 1 0]) := ArmBar_ok
theorem brI_3 (ts : List Tk) (s : RS) : (ofP brI ts s).1 = 0 ∨ (ofP brI ts s).1 = 1 ∨ (ofP brI ts s).1 = 2 := by
  unfold ofP
  split
  · exact .inl rfl
  · rename_i h
    unfold brI at h ⊢
    dsimp only
    split
    · exact .inl rfl
    split
    · exact .inr (.inl rfl)
    split
    · exact .inr (.inr rfl)
    · rename_i a b d
      rw [if_neg a, if_neg b, if_neg d] at h
      exact absurd (by decide) h
set_option maxHeartbeats 8000000 in
theorem arm_read : ReadOk readAP lgA 103 := by
  rintro ⟨L, rd, pr, ts, ad, cap, lb⟩ s nm hL hlb hk hn
  dsimp only at hL hlb
  subst hL hlb
  have hfn := index6_s [] [65, 68, 68] [83, 85, 66] [69, 79, 82] [65, 78, 68] [79, 82, 82] nm
  have hmy := memory_w nm hn
  have hr := hk.reg
  have hm := hr.mark [44]
  have hr2 := hm.reg
  have hm2 := hr2.mark [44]
  unfold readAP fnA
  dsimp only
  generalize idx6 [] [65, 68, 68] [83, 85, 66] [69, 79, 82] [65, 78, 68] [79, 82, 82] nm = fn at *
  by_cases h1 : nm = [77, 79, 86]
  · rw [if_pos h1]
    dsimp only
    have he := hm.eit
    generalize hw : eitP lgA ts (markP ts [44] (regP lgA ts s).2) = w at *
    by_cases h7 : 0 ≤ w.1.1
    · rw [if_pos h7]
      refine Ctr.enterH tabOkF (fn := Tryz.f103) rfl rfl rfl rfl rfl rfl bndR (Nat.le_refl _) ?_
      refine OpC.callL rfl rfl rfl rfl [] 1 rfl rfl rfl afunctions_ok rfl rfl rfl rfl trivial rfl (fun r H' hk => ?_) ?_
      · obtain ⟨rfl, rfl⟩ := hk; exact ⟨Nat.zero_le _, Nat.le_refl _⟩
      rintro r H' ⟨rfl, rfl⟩
      refine OpC.callH rfl rfl rfl rfl [5] rfl hfn rfl rfl rfl rfl ⟨rfl, trivial⟩ rfl ?_
      refine ⟨fun _ => ?_, fun h => ?_⟩
      rotate_left
      · have h : decide (nm = [77, 79, 86]) = false := h
        rw [decide_eq_true h1] at h; cases h
      refine OpC.callV rfl rfl rfl rfl rfl rfl rfl (fun _ => none_w 1) ?_
      refine OpC.callH rfl rfl rfl rfl [0, 1, 2, 3] rfl (rreg_w hk) rfl rfl rfl rfl ⟨rfl, rfl, rfl, rfl, trivial⟩ rfl ?_
      refine OpC.callH rfl rfl rfl rfl [0, 1, 2, 3] rfl (rmark_w hr [44]) rfl rfl rfl rfl ⟨rfl, rfl, rfl, rfl, trivial⟩ rfl ?_
      have hx := eita_w (i := { none_ 1 with dst := (regP lgA ts s).1 }) hm rfl
      rw [hw] at hx
      refine OpC.callH rfl rfl rfl rfl [0, 1, 2, 3, 4] rfl (hx) rfl rfl rfl rfl ⟨rfl, rfl, rfl, rfl, rfl, trivial⟩ rfl ?_
      refine ⟨fun _ => ?_, fun h => ?_⟩
      rotate_left
      · have h : (decide (0 ≤ w.1.1)) = false := h
        exact absurd h7 (of_decide_eq_false h)
      exact ⟨rfl, _, rfl⟩
    · rw [if_neg h7]
      refine Ctr.enterH tabOkF (fn := Tryz.f103) rfl rfl rfl rfl rfl rfl bndR (Nat.le_refl _) ?_
      refine OpC.callL rfl rfl rfl rfl [] 1 rfl rfl rfl afunctions_ok rfl rfl rfl rfl trivial rfl (fun r H' hk => ?_) ?_
      · obtain ⟨rfl, rfl⟩ := hk; exact ⟨Nat.zero_le _, Nat.le_refl _⟩
      rintro r H' ⟨rfl, rfl⟩
      refine OpC.callH rfl rfl rfl rfl [5] rfl hfn rfl rfl rfl rfl ⟨rfl, trivial⟩ rfl ?_
      refine ⟨fun _ => ?_, fun h => ?_⟩
      rotate_left
      · have h : decide (nm = [77, 79, 86]) = false := h
        rw [decide_eq_true h1] at h; cases h
      refine OpC.callV rfl rfl rfl rfl rfl rfl rfl (fun _ => none_w 1) ?_
      refine OpC.callH rfl rfl rfl rfl [0, 1, 2, 3] rfl (rreg_w hk) rfl rfl rfl rfl ⟨rfl, rfl, rfl, rfl, trivial⟩ rfl ?_
      refine OpC.callH rfl rfl rfl rfl [0, 1, 2, 3] rfl (rmark_w hr [44]) rfl rfl rfl rfl ⟨rfl, rfl, rfl, rfl, trivial⟩ rfl ?_
      have hx := eita_w (i := { none_ 1 with dst := (regP lgA ts s).1 }) hm rfl
      rw [hw] at hx
      refine OpC.callH rfl rfl rfl rfl [0, 1, 2, 3, 4] rfl (hx) rfl rfl rfl rfl ⟨rfl, rfl, rfl, rfl, rfl, trivial⟩ rfl ?_
      refine ⟨fun h => ?_, fun _ => ?_⟩
      · have h : (decide (0 ≤ w.1.1)) = true := h
        exact absurd (of_decide_eq_true h) h7
      exact ⟨rfl, _, rfl⟩
  rw [if_neg h1]
  by_cases h2 : 0 < fn
  · rw [if_pos h2]
    refine Ctr.enterH tabOkF (fn := Tryz.f103) rfl rfl rfl rfl rfl rfl bndR (Nat.le_refl _) ?_
    refine OpC.callL rfl rfl rfl rfl [] 1 rfl rfl rfl afunctions_ok rfl rfl rfl rfl trivial rfl (fun r H' hk => ?_) ?_
    · obtain ⟨rfl, rfl⟩ := hk; exact ⟨Nat.zero_le _, Nat.le_refl _⟩
    rintro r H' ⟨rfl, rfl⟩
    refine OpC.callH rfl rfl rfl rfl [5] rfl hfn rfl rfl rfl rfl ⟨rfl, trivial⟩ rfl ?_
    refine ⟨fun h => ?_, fun _ => ?_⟩
    · have h : decide (nm = [77, 79, 86]) = true := h
      rw [decide_eq_false h1] at h; cases h
    refine ⟨fun _ => ?_, fun h => ?_⟩
    rotate_left
    · have h : (decide (0 < fn)) = false := h
      exact absurd h2 (of_decide_eq_false h)
    refine OpC.callV rfl rfl rfl rfl rfl rfl rfl (fun _ => none_w 3) ?_
    refine OpC.callH rfl rfl rfl rfl [0, 1, 2, 3] rfl (rreg_w hk) rfl rfl rfl rfl ⟨rfl, rfl, rfl, rfl, trivial⟩ rfl ?_
    refine OpC.callH rfl rfl rfl rfl [0, 1, 2, 3] rfl (rmark_w hr [44]) rfl rfl rfl rfl ⟨rfl, rfl, rfl, rfl, trivial⟩ rfl ?_
    refine OpC.callH rfl rfl rfl rfl [0, 1, 2, 3] rfl (rreg_w hm) rfl rfl rfl rfl ⟨rfl, rfl, rfl, rfl, trivial⟩ rfl ?_
    refine OpC.callH rfl rfl rfl rfl [0, 1, 2, 3] rfl (rmark_w hr2 [44]) rfl rfl rfl rfl ⟨rfl, rfl, rfl, rfl, trivial⟩ rfl ?_
    have hx := eitb_w (i := { none_ 3 with dst := (regP lgA ts s).1, fn := fn, a := (regP lgA ts (markP ts [44] (regP lgA ts s).2)).1 }) hm2 rfl
    refine OpC.callH rfl rfl rfl rfl [0, 1, 2, 3, 4] rfl (hx) rfl rfl rfl rfl ⟨rfl, rfl, rfl, rfl, rfl, trivial⟩ rfl ?_
    exact ⟨rfl, _, rfl⟩
  rw [if_neg h2]
  by_cases h3 : nm = [68, 77, 66]
  · rw [if_pos h3]
    have ho := of_bar (c := ⟨lgA, rd, pr, ts, ad, cap, []⟩) hk
    have hb := brI_3 ts s
    dsimp only at ho
    generalize ofP brI ts s = w at *
    obtain ⟨k, s2⟩ := w
    dsimp only at ho hb ⊢
    rcases hb with rfl | rfl | rfl
    · refine Ctr.enterH tabOkF (fn := Tryz.f103) rfl rfl rfl rfl rfl rfl bndR (Nat.le_refl _) ?_
      refine OpC.callL rfl rfl rfl rfl [] 1 rfl rfl rfl afunctions_ok rfl rfl rfl rfl trivial rfl (fun r H' hk => ?_) ?_
      · obtain ⟨rfl, rfl⟩ := hk; exact ⟨Nat.zero_le _, Nat.le_refl _⟩
      rintro r H' ⟨rfl, rfl⟩
      refine OpC.callH rfl rfl rfl rfl [5] rfl hfn rfl rfl rfl rfl ⟨rfl, trivial⟩ rfl ?_
      refine ⟨fun h => ?_, fun _ => ?_⟩
      · have h : decide (nm = [77, 79, 86]) = true := h
        rw [decide_eq_false h1] at h; cases h
      refine ⟨fun h => ?_, fun _ => ?_⟩
      · have h : (decide (0 < fn)) = true := h
        exact absurd (of_decide_eq_true h) h2
      refine ⟨fun _ => ?_, fun h => ?_⟩
      rotate_left
      · have h : decide (nm = [68, 77, 66]) = false := h
        rw [decide_eq_true h3] at h; cases h
      refine OpC.callV rfl rfl rfl rfl rfl rfl rfl (fun _ => none_w 7) ?_
      refine OpC.callL rfl rfl rfl rfl [] 2 rfl rfl rfl barriers_ok rfl rfl rfl rfl trivial rfl (fun r H' hk => ?_) ?_
      · obtain ⟨rfl, rfl⟩ := hk; exact ⟨Nat.zero_le _, Nat.le_refl _⟩
      rintro r H' ⟨rfl, rfl⟩
      refine OpC.callH rfl rfl rfl rfl [0, 1, 2, 3, 8, 6] rfl ho rfl rfl rfl rfl ⟨rfl, rfl, rfl, rfl, rfl, rfl, trivial⟩ rfl ?_
      refine WpC.dr tabOkF mixed 0 ?_
      repeat (refine ⟨fun _ => by decide, ?_⟩)
      refine ⟨by kernel_rfl, ?_⟩
      exact ⟨rfl, _, rfl⟩
    · refine Ctr.enterH tabOkF (fn := Tryz.f103) rfl rfl rfl rfl rfl rfl bndR (Nat.le_refl _) ?_
      refine OpC.callL rfl rfl rfl rfl [] 1 rfl rfl rfl afunctions_ok rfl rfl rfl rfl trivial rfl (fun r H' hk => ?_) ?_
      · obtain ⟨rfl, rfl⟩ := hk; exact ⟨Nat.zero_le _, Nat.le_refl _⟩
      rintro r H' ⟨rfl, rfl⟩
      refine OpC.callH rfl rfl rfl rfl [5] rfl hfn rfl rfl rfl rfl ⟨rfl, trivial⟩ rfl ?_
      refine ⟨fun h => ?_, fun _ => ?_⟩
      · have h : decide (nm = [77, 79, 86]) = true := h
        rw [decide_eq_false h1] at h; cases h
      refine ⟨fun h => ?_, fun _ => ?_⟩
      · have h : (decide (0 < fn)) = true := h
        exact absurd (of_decide_eq_true h) h2
      refine ⟨fun _ => ?_, fun h => ?_⟩
      rotate_left
      · have h : decide (nm = [68, 77, 66]) = false := h
        rw [decide_eq_true h3] at h; cases h
      refine OpC.callV rfl rfl rfl rfl rfl rfl rfl (fun _ => none_w 7) ?_
      refine OpC.callL rfl rfl rfl rfl [] 2 rfl rfl rfl barriers_ok rfl rfl rfl rfl trivial rfl (fun r H' hk => ?_) ?_
      · obtain ⟨rfl, rfl⟩ := hk; exact ⟨Nat.zero_le _, Nat.le_refl _⟩
      rintro r H' ⟨rfl, rfl⟩
      refine OpC.callH rfl rfl rfl rfl [0, 1, 2, 3, 8, 6] rfl ho rfl rfl rfl rfl ⟨rfl, rfl, rfl, rfl, rfl, rfl, trivial⟩ rfl ?_
      refine WpC.dr tabOkF mixed 0 ?_
      repeat (refine ⟨fun _ => by decide, ?_⟩)
      refine ⟨by kernel_rfl, ?_⟩
      exact ⟨rfl, _, rfl⟩
    · refine Ctr.enterH tabOkF (fn := Tryz.f103) rfl rfl rfl rfl rfl rfl bndR (Nat.le_refl _) ?_
      refine OpC.callL rfl rfl rfl rfl [] 1 rfl rfl rfl afunctions_ok rfl rfl rfl rfl trivial rfl (fun r H' hk => ?_) ?_
      · obtain ⟨rfl, rfl⟩ := hk; exact ⟨Nat.zero_le _, Nat.le_refl _⟩
      rintro r H' ⟨rfl, rfl⟩
      refine OpC.callH rfl rfl rfl rfl [5] rfl hfn rfl rfl rfl rfl ⟨rfl, trivial⟩ rfl ?_
      refine ⟨fun h => ?_, fun _ => ?_⟩
      · have h : decide (nm = [77, 79, 86]) = true := h
        rw [decide_eq_false h1] at h; cases h
      refine ⟨fun h => ?_, fun _ => ?_⟩
      · have h : (decide (0 < fn)) = true := h
        exact absurd (of_decide_eq_true h) h2
      refine ⟨fun _ => ?_, fun h => ?_⟩
      rotate_left
      · have h : decide (nm = [68, 77, 66]) = false := h
        rw [decide_eq_true h3] at h; cases h
      refine OpC.callV rfl rfl rfl rfl rfl rfl rfl (fun _ => none_w 7) ?_
      refine OpC.callL rfl rfl rfl rfl [] 2 rfl rfl rfl barriers_ok rfl rfl rfl rfl trivial rfl (fun r H' hk => ?_) ?_
      · obtain ⟨rfl, rfl⟩ := hk; exact ⟨Nat.zero_le _, Nat.le_refl _⟩
      rintro r H' ⟨rfl, rfl⟩
      refine OpC.callH rfl rfl rfl rfl [0, 1, 2, 3, 8, 6] rfl ho rfl rfl rfl rfl ⟨rfl, rfl, rfl, rfl, rfl, rfl, trivial⟩ rfl ?_
      refine WpC.dr tabOkF mixed 0 ?_
      repeat (refine ⟨fun _ => by decide, ?_⟩)
      refine ⟨by kernel_rfl, ?_⟩
      exact ⟨rfl, _, rfl⟩
  rw [if_neg h3]
  by_cases h4 : nm = [73, 83, 66]
  · rw [if_pos h4]
    refine Ctr.enterH tabOkF (fn := Tryz.f103) rfl rfl rfl rfl rfl rfl bndR (Nat.le_refl _) ?_
    refine OpC.callL rfl rfl rfl rfl [] 1 rfl rfl rfl afunctions_ok rfl rfl rfl rfl trivial rfl (fun r H' hk => ?_) ?_
    · obtain ⟨rfl, rfl⟩ := hk; exact ⟨Nat.zero_le _, Nat.le_refl _⟩
    rintro r H' ⟨rfl, rfl⟩
    refine OpC.callH rfl rfl rfl rfl [5] rfl hfn rfl rfl rfl rfl ⟨rfl, trivial⟩ rfl ?_
    refine ⟨fun h => ?_, fun _ => ?_⟩
    · have h : decide (nm = [77, 79, 86]) = true := h
      rw [decide_eq_false h1] at h; cases h
    refine ⟨fun h => ?_, fun _ => ?_⟩
    · have h : (decide (0 < fn)) = true := h
      exact absurd (of_decide_eq_true h) h2
    refine ⟨fun h => ?_, fun _ => ?_⟩
    · have h : decide (nm = [68, 77, 66]) = true := h
      rw [decide_eq_false h3] at h; cases h
    refine ⟨fun _ => ?_, fun h => ?_⟩
    rotate_left
    · have h : decide (nm = [73, 83, 66]) = false := h
      rw [decide_eq_true h4] at h; cases h
    refine OpC.callV rfl rfl rfl rfl rfl rfl rfl (fun _ => none_w 8) ?_
    exact ⟨rfl, _, rfl⟩
  rw [if_neg h4]
  by_cases h5 : nm = [67, 66, 90] ∨ nm = [67, 66, 78, 90]
  · rw [if_pos h5]
    refine Ctr.enterH tabOkF (fn := Tryz.f103) rfl rfl rfl rfl rfl rfl bndR (Nat.le_refl _) ?_
    refine OpC.callL rfl rfl rfl rfl [] 1 rfl rfl rfl afunctions_ok rfl rfl rfl rfl trivial rfl (fun r H' hk => ?_) ?_
    · obtain ⟨rfl, rfl⟩ := hk; exact ⟨Nat.zero_le _, Nat.le_refl _⟩
    rintro r H' ⟨rfl, rfl⟩
    refine OpC.callH rfl rfl rfl rfl [5] rfl hfn rfl rfl rfl rfl ⟨rfl, trivial⟩ rfl ?_
    refine ⟨fun h => ?_, fun _ => ?_⟩
    · have h : decide (nm = [77, 79, 86]) = true := h
      rw [decide_eq_false h1] at h; cases h
    refine ⟨fun h => ?_, fun _ => ?_⟩
    · have h : (decide (0 < fn)) = true := h
      exact absurd (of_decide_eq_true h) h2
    refine ⟨fun h => ?_, fun _ => ?_⟩
    · have h : decide (nm = [68, 77, 66]) = true := h
      rw [decide_eq_false h3] at h; cases h
    refine ⟨fun h => ?_, fun _ => ?_⟩
    · have h : decide (nm = [73, 83, 66]) = true := h
      rw [decide_eq_false h4] at h; cases h
    refine ⟨fun _ => ?_, fun h => ?_⟩
    rotate_left
    · have h : (decide (nm = [67, 66, 90]) || decide (nm = [67, 66, 78, 90])) = false := h
      simp only [Bool.or_eq_false_iff, decide_eq_false_iff_not] at h; exact absurd h5 (fun hh => hh.elim h.1 h.2)
    refine OpC.callV rfl rfl rfl rfl rfl rfl rfl (fun _ => none_w 9) ?_
    refine OpC.callH rfl rfl rfl rfl [0, 1, 2, 3] rfl (rreg_w hk) rfl rfl rfl rfl ⟨rfl, rfl, rfl, rfl, trivial⟩ rfl ?_
    refine OpC.callH rfl rfl rfl rfl [0, 1, 2, 3] rfl (rmark_w hr [44]) rfl rfl rfl rfl ⟨rfl, rfl, rfl, rfl, trivial⟩ rfl ?_
    refine OpC.callH rfl rfl rfl rfl [0, 1, 2, 3] rfl (rword_w hm) rfl rfl rfl rfl ⟨rfl, rfl, rfl, rfl, trivial⟩ rfl ?_
    exact ⟨rfl, _, rfl⟩
  rw [if_neg h5]
  obtain ⟨i, k, hik⟩ : ∃ i k, memA nm = (i, k) := ⟨_, _, rfl⟩
  rw [hik] at hmy ⊢
  dsimp only at hmy ⊢
  cases k with
  | false =>
    rw [if_neg (by decide)]
    refine Ctr.enterH tabOkF (fn := Tryz.f103) rfl rfl rfl rfl rfl rfl bndR (Nat.le_refl _) ?_
    refine OpC.callL rfl rfl rfl rfl [] 1 rfl rfl rfl afunctions_ok rfl rfl rfl rfl trivial rfl (fun r H' hk => ?_) ?_
    · obtain ⟨rfl, rfl⟩ := hk; exact ⟨Nat.zero_le _, Nat.le_refl _⟩
    rintro r H' ⟨rfl, rfl⟩
    refine OpC.callH rfl rfl rfl rfl [5] rfl hfn rfl rfl rfl rfl ⟨rfl, trivial⟩ rfl ?_
    refine ⟨fun h => ?_, fun _ => ?_⟩
    · have h : decide (nm = [77, 79, 86]) = true := h
      rw [decide_eq_false h1] at h; cases h
    refine ⟨fun h => ?_, fun _ => ?_⟩
    · have h : (decide (0 < fn)) = true := h
      exact absurd (of_decide_eq_true h) h2
    refine ⟨fun h => ?_, fun _ => ?_⟩
    · have h : decide (nm = [68, 77, 66]) = true := h
      rw [decide_eq_false h3] at h; cases h
    refine ⟨fun h => ?_, fun _ => ?_⟩
    · have h : decide (nm = [73, 83, 66]) = true := h
      rw [decide_eq_false h4] at h; cases h
    refine ⟨fun h => ?_, fun _ => ?_⟩
    · have h : (decide (nm = [67, 66, 90]) || decide (nm = [67, 66, 78, 90])) = true := h
      simp only [Bool.or_eq_true, decide_eq_true_eq] at h; exact absurd h h5
    refine OpC.callV rfl rfl rfl rfl rfl rfl rfl (fun _ => hmy) ?_
    refine ⟨fun _ => ?_, fun h => no_tf h⟩
    exact ⟨rfl, _, rfl⟩
  | true =>
    rw [if_pos rfl]
    by_cases h6 : i.op = 4
    · rw [if_pos h6]
      refine Ctr.enterH tabOkF (fn := Tryz.f103) rfl rfl rfl rfl rfl rfl bndR (Nat.le_refl _) ?_
      refine OpC.callL rfl rfl rfl rfl [] 1 rfl rfl rfl afunctions_ok rfl rfl rfl rfl trivial rfl (fun r H' hk => ?_) ?_
      · obtain ⟨rfl, rfl⟩ := hk; exact ⟨Nat.zero_le _, Nat.le_refl _⟩
      rintro r H' ⟨rfl, rfl⟩
      refine OpC.callH rfl rfl rfl rfl [5] rfl hfn rfl rfl rfl rfl ⟨rfl, trivial⟩ rfl ?_
      refine ⟨fun h => ?_, fun _ => ?_⟩
      · have h : decide (nm = [77, 79, 86]) = true := h
        rw [decide_eq_false h1] at h; cases h
      refine ⟨fun h => ?_, fun _ => ?_⟩
      · have h : (decide (0 < fn)) = true := h
        exact absurd (of_decide_eq_true h) h2
      refine ⟨fun h => ?_, fun _ => ?_⟩
      · have h : decide (nm = [68, 77, 66]) = true := h
        rw [decide_eq_false h3] at h; cases h
      refine ⟨fun h => ?_, fun _ => ?_⟩
      · have h : decide (nm = [73, 83, 66]) = true := h
        rw [decide_eq_false h4] at h; cases h
      refine ⟨fun h => ?_, fun _ => ?_⟩
      · have h : (decide (nm = [67, 66, 90]) || decide (nm = [67, 66, 78, 90])) = true := h
        simp only [Bool.or_eq_true, decide_eq_true_eq] at h; exact absurd h h5
      refine OpC.callV rfl rfl rfl rfl rfl rfl rfl (fun _ => hmy) ?_
      refine ⟨fun h => no_ft h, fun _ => ?_⟩
      refine ⟨fun _ => ?_, fun h => ?_⟩
      rotate_left
      · have h : (decide (i.op = 4)) = false := h
        exact absurd h6 (of_decide_eq_false h)
      refine OpC.callH rfl rfl rfl rfl [0, 1, 2, 3] rfl (rreg_w hk) rfl rfl rfl rfl ⟨rfl, rfl, rfl, rfl, trivial⟩ rfl ?_
      refine OpC.callH rfl rfl rfl rfl [0, 1, 2, 3] rfl (rmark_w hr [44]) rfl rfl rfl rfl ⟨rfl, rfl, rfl, rfl, trivial⟩ rfl ?_
      refine OpC.callH rfl rfl rfl rfl [0, 1, 2, 3, 4] rfl (rmem_w hm { i with dst := (regP lgA ts s).1 } i.sz) rfl rfl rfl rfl ⟨rfl, rfl, rfl, rfl, rfl, trivial⟩ rfl ?_
      exact ⟨rfl, _, rfl⟩
    rw [if_neg h6]
    by_cases h7 : i.op = 5
    · rw [if_pos h7]
      refine Ctr.enterH tabOkF (fn := Tryz.f103) rfl rfl rfl rfl rfl rfl bndR (Nat.le_refl _) ?_
      refine OpC.callL rfl rfl rfl rfl [] 1 rfl rfl rfl afunctions_ok rfl rfl rfl rfl trivial rfl (fun r H' hk => ?_) ?_
      · obtain ⟨rfl, rfl⟩ := hk; exact ⟨Nat.zero_le _, Nat.le_refl _⟩
      rintro r H' ⟨rfl, rfl⟩
      refine OpC.callH rfl rfl rfl rfl [5] rfl hfn rfl rfl rfl rfl ⟨rfl, trivial⟩ rfl ?_
      refine ⟨fun h => ?_, fun _ => ?_⟩
      · have h : decide (nm = [77, 79, 86]) = true := h
        rw [decide_eq_false h1] at h; cases h
      refine ⟨fun h => ?_, fun _ => ?_⟩
      · have h : (decide (0 < fn)) = true := h
        exact absurd (of_decide_eq_true h) h2
      refine ⟨fun h => ?_, fun _ => ?_⟩
      · have h : decide (nm = [68, 77, 66]) = true := h
        rw [decide_eq_false h3] at h; cases h
      refine ⟨fun h => ?_, fun _ => ?_⟩
      · have h : decide (nm = [73, 83, 66]) = true := h
        rw [decide_eq_false h4] at h; cases h
      refine ⟨fun h => ?_, fun _ => ?_⟩
      · have h : (decide (nm = [67, 66, 90]) || decide (nm = [67, 66, 78, 90])) = true := h
        simp only [Bool.or_eq_true, decide_eq_true_eq] at h; exact absurd h h5
      refine OpC.callV rfl rfl rfl rfl rfl rfl rfl (fun _ => hmy) ?_
      refine ⟨fun h => no_ft h, fun _ => ?_⟩
      refine ⟨fun h => ?_, fun _ => ?_⟩
      · have h : (decide (i.op = 4)) = true := h
        exact absurd (of_decide_eq_true h) h6
      refine ⟨fun _ => ?_, fun h => ?_⟩
      rotate_left
      · have h : (decide (i.op = 5)) = false := h
        exact absurd h7 (of_decide_eq_false h)
      refine OpC.callH rfl rfl rfl rfl [0, 1, 2, 3] rfl (rreg_w hk) rfl rfl rfl rfl ⟨rfl, rfl, rfl, rfl, trivial⟩ rfl ?_
      refine OpC.callH rfl rfl rfl rfl [0, 1, 2, 3] rfl (rmark_w hr [44]) rfl rfl rfl rfl ⟨rfl, rfl, rfl, rfl, trivial⟩ rfl ?_
      refine OpC.callH rfl rfl rfl rfl [0, 1, 2, 3, 4] rfl (rmem_w hm { i with a := (regP lgA ts s).1 } i.sz) rfl rfl rfl rfl ⟨rfl, rfl, rfl, rfl, rfl, trivial⟩ rfl ?_
      exact ⟨rfl, _, rfl⟩
    rw [if_neg h7]
    refine Ctr.enterH tabOkF (fn := Tryz.f103) rfl rfl rfl rfl rfl rfl bndR (Nat.le_refl _) ?_
    refine OpC.callL rfl rfl rfl rfl [] 1 rfl rfl rfl afunctions_ok rfl rfl rfl rfl trivial rfl (fun r H' hk => ?_) ?_
    · obtain ⟨rfl, rfl⟩ := hk; exact ⟨Nat.zero_le _, Nat.le_refl _⟩
    rintro r H' ⟨rfl, rfl⟩
    refine OpC.callH rfl rfl rfl rfl [5] rfl hfn rfl rfl rfl rfl ⟨rfl, trivial⟩ rfl ?_
    refine ⟨fun h => ?_, fun _ => ?_⟩
    · have h : decide (nm = [77, 79, 86]) = true := h
      rw [decide_eq_false h1] at h; cases h
    refine ⟨fun h => ?_, fun _ => ?_⟩
    · have h : (decide (0 < fn)) = true := h
      exact absurd (of_decide_eq_true h) h2
    refine ⟨fun h => ?_, fun _ => ?_⟩
    · have h : decide (nm = [68, 77, 66]) = true := h
      rw [decide_eq_false h3] at h; cases h
    refine ⟨fun h => ?_, fun _ => ?_⟩
    · have h : decide (nm = [73, 83, 66]) = true := h
      rw [decide_eq_false h4] at h; cases h
    refine ⟨fun h => ?_, fun _ => ?_⟩
    · have h : (decide (nm = [67, 66, 90]) || decide (nm = [67, 66, 78, 90])) = true := h
      simp only [Bool.or_eq_true, decide_eq_true_eq] at h; exact absurd h h5
    refine OpC.callV rfl rfl rfl rfl rfl rfl rfl (fun _ => hmy) ?_
    refine ⟨fun h => no_ft h, fun _ => ?_⟩
    refine ⟨fun h => ?_, fun _ => ?_⟩
    · have h : (decide (i.op = 4)) = true := h
      exact absurd (of_decide_eq_true h) h6
    refine ⟨fun h => ?_, fun _ => ?_⟩
    · have h : (decide (i.op = 5)) = true := h
      exact absurd (of_decide_eq_true h) h7
    refine OpC.callH rfl rfl rfl rfl [0, 1, 2, 3] rfl (rreg_w hk) rfl rfl rfl rfl ⟨rfl, rfl, rfl, rfl, trivial⟩ rfl ?_
    refine OpC.callH rfl rfl rfl rfl [0, 1, 2, 3] rfl (rmark_w hr [44]) rfl rfl rfl rfl ⟨rfl, rfl, rfl, rfl, trivial⟩ rfl ?_
    refine OpC.callH rfl rfl rfl rfl [0, 1, 2, 3] rfl (rreg_w hm) rfl rfl rfl rfl ⟨rfl, rfl, rfl, rfl, trivial⟩ rfl ?_
    refine OpC.callH rfl rfl rfl rfl [0, 1, 2, 3] rfl (rmark_w hr2 [44]) rfl rfl rfl rfl ⟨rfl, rfl, rfl, rfl, trivial⟩ rfl ?_
    refine OpC.callH rfl rfl rfl rfl [0, 1, 2, 3, 4] rfl (rmem_w hm2 { i with a := (regP lgA ts s).1, dst := (regP lgA ts (markP ts [44] (regP lgA ts s).2)).1 } i.sz) rfl rfl rfl rfl ⟨rfl, rfl, rfl, rfl, rfl, trivial⟩ rfl ?_
    exact ⟨rfl, _, rfl⟩
theorem arm_rk : ReadRk readAP lgA := by
  rintro ⟨L, rd, pr, ts, ad, cap, lb⟩ s nm hL hk
  dsimp only at hL
  subst hL
  have hr := hk.reg
  have hm := hr.mark [44]
  have hm2 := hm.reg.mark [44]
  unfold readAP
  dsimp only
  repeat' split
  all_goals first
    | exact hk
    | exact hm.eit
    | exact hm2.eit
    | exact hm.word
    | exact hm.mem _ _
    | exact hm2.mem _ _
    | exact hk.of _
theorem armParse_w (ts : List Tk) (ad : Option Addr) (cap : Nat) (hl : ts.length ≤ 100000) (hn : ad = none → ts = []) (hnm : (tkAt ts 0).s.length ≤ 100000) : CtrV Tryz.prog 24 [.imm Tk tk0 4 tkenc ts ad cap] (prV5 (parseP readAP ts)) := by
  refine Ctr.enterV tabOkF (fn := Tryz.f24) rfl rfl rfl rfl rfl rfl ?_
  refine OpC.callL rfl rfl rfl rfl [] 2 rfl rfl rfl arm_lang rfl rfl rfl rfl trivial rfl (fun r H' hk => ?_) ?_
  · obtain ⟨rfl, rfl⟩ := hk; exact ⟨Nat.zero_le _, Nat.le_refl _⟩
  rintro r H' ⟨rfl, rfl⟩
  refine OpC.callH rfl rfl rfl rfl [1, 2] rfl (lparse_w arm_read arm_rk ts ad cap hl hn hnm) rfl rfl rfl rfl ⟨rfl, rfl, trivial⟩ rfl ?_
  exact rfl
end SX
end Go.Proofs.YthkedcneehdinaaGreatDoor

/- The reference's readers of words: the cursor. -/
set_option linter.unusedVariables false
set_option maxRecDepth 100000
namespace Go.Proofs.YthkedcneehdinaaGreatDoor
namespace SX
open Go Go.Proofs
section
variable (ts : List Tk) (ad : Option Addr) (cap : Nat)
end
variable {ts : List Tk} {ad : Option Addr} {cap : Nat}
end SX
end Go.Proofs.YthkedcneehdinaaGreatDoor

/- The reference's readers of words: the reader's small functions. -/
set_option linter.unusedVariables false
set_option maxRecDepth 100000
namespace Go.Proofs.YthkedcneehdinaaGreatDoor
namespace SX
open Go Go.Proofs
end SX
end Go.Proofs.YthkedcneehdinaaGreatDoor

/- The reference's readers of words: places of memory, branches, names. Written by qwc.py. -/
set_option linter.unusedVariables false
set_option maxRecDepth 100000
namespace Go.Proofs.YthkedcneehdinaaGreatDoor
namespace SX
open Go Go.Proofs
end SX
end Go.Proofs.YthkedcneehdinaaGreatDoor

/- The reference's x86, Parse. Written by qwd.py. -/
set_option linter.unusedVariables false
set_option maxRecDepth 100000
namespace Go.Proofs.YthkedcneehdinaaGreatDoor
namespace SX
open Go Go.Proofs
end SX
end Go.Proofs.YthkedcneehdinaaGreatDoor

/- The reference's riscv. Written by qwe.py. -/
set_option linter.unusedVariables false
set_option maxRecDepth 100000
namespace Go.Proofs.YthkedcneehdinaaGreatDoor
namespace SX
open Go Go.Proofs
end SX
end Go.Proofs.YthkedcneehdinaaGreatDoor

/- The reference's arm. Written by qwg.py. -/
set_option linter.unusedVariables false
set_option maxRecDepth 100000
namespace Go.Proofs.YthkedcneehdinaaGreatDoor
namespace SX
open Go Go.Proofs
end SX
end Go.Proofs.YthkedcneehdinaaGreatDoor

/- The reference: registers of RISC-V and Arm, by name; Parse. Written by qwf.py. -/
set_option linter.unusedVariables false
set_option maxRecDepth 100000
namespace Go.Proofs.YthkedcneehdinaaGreatDoor
namespace SX
open Go Go.Proofs
end SX
end Go.Proofs.YthkedcneehdinaaGreatDoor

/- Arm: the reference's Parse. Written by qwf.py. -/
set_option linter.unusedVariables false
set_option maxRecDepth 100000
namespace Go.Proofs.YthkedcneehdinaaGreatDoor
namespace SX
open Go Go.Proofs
end SX
end Go.Proofs.YthkedcneehdinaaGreatDoor

/- arm.Parse of a row that stays. -/
set_option linter.unusedVariables false
set_option maxRecDepth 100000
namespace Go.Proofs.YthkedcneehdinaaGreatDoor
namespace SX
open Go Go.Proofs
theorem armParse_v (ts : List Tk) (ad : Option Addr) (cap : Nat) (hl : ts.length ≤ 100000) (hnm : (tkAt ts 0).s.length ≤ 100000) : CtrV Tryz.prog 24 [.imm Tk tk0 4 tkenc ts ad cap] (prV5 (parseP readAP ts)) := by
  cases ad with
  | some a => exact armParse_w ts (some a) cap hl (fun h => by cases h) hnm
  | none =>
    by_cases he : ts = []
    · exact armParse_w ts none cap hl (fun _ => he) hnm
    · exact Cp.vac fun m V h => he (imm_none h)
end SX
end Go.Proofs.YthkedcneehdinaaGreatDoor
