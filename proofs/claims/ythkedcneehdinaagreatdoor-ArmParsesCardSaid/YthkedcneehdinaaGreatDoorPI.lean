/- ArmParses: the words of any text as an Arm instruction, or what is wrong, and where, as the document says; the list stays. -/
import Derived.Test.YthkedcneehdinaaGreatDoorCards
import Derived.Test.YthkedcneehdinaaGreatDoorTie
import Derived.SevenTiedAt
import Derived.Test.YthkedcneehdinaaGreatDoorPH
set_option linter.unusedVariables false
set_option linter.unusedSimpArgs false
set_option linter.unusedSectionVars false
/- The reference's readers of words: the reader's small functions. -/
set_option linter.unusedVariables false
set_option maxRecDepth 100000
namespace Go.Proofs.YthkedcneehdinaaGreatDoor
namespace SX
open Go Go.Proofs
/-- What the reference's reader stands on. -/
structure Qc where
  a : Int
  L : Lg
  ts : List Tk
  ad : Option Addr
  cap : Nat
def rdQ (a e q : Int) : SB := .mem 73 [.i .i64 a, .ptr 0 1 0 [], .i .i64 e, .i .i64 q] 1 0
def hQ (c : Qc) (s : RS) : List SB := [curQ c.ts c.ad c.cap s.p, rdQ c.a s.e s.q]
theorem bndQ2 {c : Qc} {s : RS} : BndH 2 (hQ c s) := ⟨bndQ, ⟨rfl, rfl, rfl, rfl, trivial⟩, trivial⟩
/-- A state that may be. -/
structure Qk (c : Qc) (s : RS) : Prop where
  p : s.p ≤ c.ts.length
  l : c.ts.length ≤ 100000
/-- A language of the reference's. -/
structure QL (c : Qc) : Prop where
  reg : ∀ v, CtrV Tryz.prog 21 [.i .i64 c.a, .s v] (.i .i64 (c.L.ix v))
  h : (c.a = 1 ∧ c.L.h = [36]) ∨ (c.a = 2 ∧ c.L.h = []) ∨ (c.a = 3 ∧ c.L.h = [35])
variable {c : Qc} {s : RS}
theorem Qk.fail (h : Qk c s) (e q : Int) : Qk c (failF s e q) := by
  unfold failF; split
  · exact ⟨h.p, h.l⟩
  · exact h
theorem Qk.odd (h : Qk c s) (u : Bool) : Qk c (oddR c.ts u s) := by
  unfold oddR
  split
  · split <;> exact h.fail _ _
  · exact h.fail _ _
theorem Qk.go (h : Qk c s) (hl : s.p < c.ts.length) : Qk c (goF s) := ⟨hl, h.l⟩
theorem takeQ_lt {ts : List Tk} {m : List UInt8} {p : Nat} (h : takeB ts m p = true) : p < ts.length := by
  unfold takeB at h
  simp only [Bool.and_eq_true, decide_eq_true_eq] at h
  exact h.1
theorem Qk.mark (h : Qk c s) (m : List UInt8) : Qk c (markR c.ts m s) := by
  unfold markR
  split
  · split
    · rename_i ht; exact h.go (takeQ_lt ht)
    · exact h.odd _
  · exact h
theorem Qk.reg (h : Qk c s) : Qk c (regR c.L c.ts s).2 := by
  unfold regR
  split
  · split
    · rename_i hk; exact h.go (at_lt (by rw [hk.1]; decide))
    · exact h.odd _
  · exact h
theorem Qk.nm (h : Qk c s) (g : Bool) : Qk c (nmR c.ts g s).2 := by
  unfold nmR
  split
  · rename_i hk; exact h.go (at_lt (by rw [hk]; decide))
  · exact h.odd _
theorem Qk.num (h : Qk c s) : Qk c (numR c.ts s).2 := by
  unfold numR
  split
  · split
    · rename_i ht; exact (h.go (takeQ_lt ht)).nm _
    · exact h.nm _
  · exact h
theorem Qk.imm (h : Qk c s) : Qk c (immR c.L c.ts s).2 := by
  unfold immR
  split
  · exact h.num
  · exact (h.mark _).num
theorem Qk.lab (h : Qk c s) : Qk c (labR c.ts s).2 := by
  unfold labR
  split
  · split
    · rename_i hk; exact h.go (at_lt (by rw [hk]; decide))
    · exact h.odd _
  · exact h
theorem qfail_ok (e q : Int) : Ctr Tryz.prog 64 [.ptr 1 1 0 [], .i .i64 e, .i .i64 q] (hQ c s) (fun r h => r = .tup [] ∧ h = hQ c (failF s e q)) := by
  obtain ⟨p, e0, q0⟩ := s
  by_cases he : e0 = 0
  · subst he
    refine Ctr.enterH tabOkF (fn := Tryz.f64) rfl rfl rfl rfl rfl rfl bndQ2 (Nat.le_refl _) ?_
    refine ⟨fun _ => ?_, fun h => no_tf h⟩
    exact ⟨rfl, _, rfl⟩
  · have e1 : failF ⟨p, e0, q0⟩ e q = ⟨p, e0, q0⟩ := fail_dead he e q
    rw [e1]
    refine Ctr.enterH tabOkF (fn := Tryz.f64) rfl rfl rfl rfl rfl rfl bndQ2 (Nat.le_refl _) ?_
    refine ⟨fun h => absurd (of_decide_eq_true h) he, fun _ => ?_⟩
    exact ⟨rfl, _, rfl⟩
theorem qodd_ok (hk : Qk c s) (u : Bool) : Ctr Tryz.prog 58 [.ptr 1 1 0 [], .b u] (hQ c s) (fun r h => r = .tup [] ∧ h = hQ c (oddR c.ts u s)) := by
  refine Ctr.enterH tabOkF (fn := Tryz.f58) rfl rfl rfl rfl rfl rfl bndQ2 (Nat.le_refl _) ?_
  refine OpC.callH rfl rfl rfl rfl [0] rfl (wpeek_ok (ad := c.ad) (cap := c.cap) hk.p) rfl rfl rfl rfl ⟨rfl, trivial⟩ rfl ?_
  unfold oddR
  refine ⟨fun h1 => ?_, fun h1 => ?_⟩
  · have h1 : (!decide (s.p < c.ts.length)) = true := h1
    have h1 : ¬ s.p < c.ts.length := by simpa using h1
    rw [if_neg h1]
    refine OpC.callH rfl rfl rfl rfl [0] rfl (where_ok (ad := c.ad) (cap := c.cap) hk.p hk.l) rfl rfl rfl rfl ⟨rfl, trivial⟩ rfl ?_
    refine OpC.callH rfl rfl rfl rfl [0, 1] rfl (qfail_ok 24 (whF c.ts s.p)) rfl rfl rfl rfl ⟨rfl, rfl, trivial⟩ rfl ?_
    exact ⟨rfl, _, rfl⟩
  · have h1 : (!decide (s.p < c.ts.length)) = false := h1
    have h1 : s.p < c.ts.length := by simpa using h1
    rw [if_pos h1]
    refine ⟨fun h2 => ?_, fun h2 => ?_⟩
    · have h2 : (u && decide ((tkAt c.ts s.p).k = 1)) = true := h2
      rw [if_pos h2]
      refine OpC.callH rfl rfl rfl rfl [0, 1] rfl (qfail_ok 21 (tkAt c.ts s.p).a) rfl rfl rfl rfl ⟨rfl, rfl, trivial⟩ rfl ?_
      exact ⟨rfl, _, rfl⟩
    · have h2 : (u && decide ((tkAt c.ts s.p).k = 1)) = false := h2
      rw [if_neg (by rw [h2]; decide)]
      refine OpC.callH rfl rfl rfl rfl [0, 1] rfl (qfail_ok 22 (tkAt c.ts s.p).a) rfl rfl rfl rfl ⟨rfl, rfl, trivial⟩ rfl ?_
      exact ⟨rfl, _, rfl⟩
theorem qmark_w (hk : Qk c s) (m : List UInt8) : Ctr Tryz.prog 108 [.ptr 1 1 0 [], .s m] (hQ c s) (fun r h => r = .tup [] ∧ h = hQ c (markR c.ts m s)) := by
  obtain ⟨p, e0, q0⟩ := s
  by_cases he : e0 = 0
  · subst he
    unfold markR
    rw [if_pos rfl]
    refine Ctr.enterH tabOkF (fn := Tryz.f108) rfl rfl rfl rfl rfl rfl bndQ2 (Nat.le_refl _) ?_
    refine OpC.open 13 rfl rfl rfl ?_
    refine OpC.open 14 rfl rfl rfl ?_
    refine OpC.guardT tabOkF rfl rfl ?_
    cases hb : takeB c.ts m p with
    | true =>
      refine OpC.callH rfl rfl rfl rfl [0] rfl (wmark_ok (ad := c.ad) (cap := c.cap) (m := m) hb rfl hk.p hk.l) rfl rfl rfl rfl ⟨rfl, trivial⟩ rfl ?_
      refine ⟨fun h => no_ft h, fun _ => ?_⟩
      exact ⟨rfl, _, rfl⟩
    | false =>
      refine OpC.callH rfl rfl rfl rfl [0] rfl (wmark_ok (ad := c.ad) (cap := c.cap) (m := m) hb rfl hk.p hk.l) rfl rfl rfl rfl ⟨rfl, trivial⟩ rfl ?_
      refine ⟨fun _ => ?_, fun h => no_tf h⟩
      refine OpC.callH rfl rfl rfl rfl [0, 1] rfl (qodd_ok (s := ⟨p, 0, q0⟩) hk false) rfl rfl rfl rfl ⟨rfl, rfl, trivial⟩ rfl ?_
      exact ⟨rfl, _, rfl⟩
  · have e1 : markR c.ts m ⟨p, e0, q0⟩ = ⟨p, e0, q0⟩ := by unfold markR; rw [if_neg he]
    rw [e1]
    refine Ctr.enterH tabOkF (fn := Tryz.f108) rfl rfl rfl rfl rfl rfl bndQ2 (Nat.le_refl _) ?_
    have hg : (decide (e0 = 0) == true) = false := by rw [decide_eq_false he]; rfl
    refine OpC.skipG rfl hg (.b false) ?_
    refine ⟨fun h => ?_, fun _ => ⟨rfl, _, rfl⟩⟩
    have h : (decide (e0 = 0) && !false) = true := h
    rw [decide_eq_false he] at h; cases h
theorem qis_w (hk : Qk c s) (m : List UInt8) : Ctr Tryz.prog 111 [.ptr 1 1 0 [], .s m] (hQ c s) (fun r h => r = .b (isR c.ts m s) ∧ h = hQ c s) := by
  have e : isR c.ts m s = (((decide (s.e = 0) && decide (s.p < c.ts.length)) && !decide ((tkAt c.ts s.p).k = 2)) && decide ((tkAt c.ts s.p).s = m)) := by
    unfold isR takeB
    cases decide (s.e = 0) <;> cases decide (s.p < c.ts.length) <;> cases decide ((tkAt c.ts s.p).k = 2) <;> cases decide ((tkAt c.ts s.p).s = m) <;> rfl
  rw [e]
  refine Ctr.enterH tabOkF (fn := Tryz.f111) rfl rfl rfl rfl rfl rfl bndQ2 (Nat.le_refl _) ?_
  refine OpC.callH rfl rfl rfl rfl [0] rfl (wpeek_ok (ad := c.ad) (cap := c.cap) hk.p) rfl rfl rfl rfl ⟨rfl, trivial⟩ rfl ?_
  exact ⟨rfl, _, rfl⟩
theorem qlabel_w (hk : Qk c s) : Ctr Tryz.prog 180 [.ptr 1 1 0 []] (hQ c s) (fun r h => r = .s (labR c.ts s).1 ∧ h = hQ c (labR c.ts s).2) := by
  obtain ⟨p, e0, q0⟩ := s
  have hpk := wpeek_ok (ad := c.ad) (cap := c.cap) hk.p
  by_cases he : e0 = 0
  · subst he
    unfold labR
    rw [if_pos rfl]
    by_cases h1 : (tkAt c.ts p).k = 1
    · have hlt := at_lt (ts := c.ts) (p := p) (by rw [h1]; decide)
      have h1' : (tkAt c.ts (⟨p, 0, q0⟩ : RS).p).k = 1 := h1
      rw [if_pos h1']
      rw [decide_eq_true (show (⟨p, 0, q0⟩ : RS).p < c.ts.length from hlt)] at hpk
      refine Ctr.enterH tabOkF (fn := Tryz.f180) rfl rfl rfl rfl rfl rfl bndQ2 (Nat.le_refl _) ?_
      refine OpC.callH rfl rfl rfl rfl [0] rfl hpk rfl rfl rfl rfl ⟨rfl, trivial⟩ rfl ?_
      refine ⟨fun h => no_ft h, fun _ => ?_⟩
      refine ⟨fun h => ?_, fun _ => ?_⟩
      · have h : (false || (!decide ((tkAt c.ts p).k = 1))) = true := h
        rw [decide_eq_true h1] at h; cases h
      refine OpC.callH rfl rfl rfl rfl [0] rfl (wnext_ok (ad := c.ad) (cap := c.cap) hlt hk.l) rfl rfl rfl rfl ⟨rfl, trivial⟩ rfl ?_
      exact ⟨rfl, _, rfl⟩
    · have h1' : ¬ (tkAt c.ts (⟨p, 0, q0⟩ : RS).p).k = 1 := h1
      rw [if_neg h1']
      refine Ctr.enterH tabOkF (fn := Tryz.f180) rfl rfl rfl rfl rfl rfl bndQ2 (Nat.le_refl _) ?_
      refine OpC.callH rfl rfl rfl rfl [0] rfl hpk rfl rfl rfl rfl ⟨rfl, trivial⟩ rfl ?_
      refine ⟨fun h => no_ft h, fun _ => ?_⟩
      refine ⟨fun _ => ?_, fun h => ?_⟩
      · refine OpC.callH rfl rfl rfl rfl [0, 1] rfl (qodd_ok (s := ⟨p, 0, q0⟩) hk false) rfl rfl rfl rfl ⟨rfl, rfl, trivial⟩ rfl ?_
        exact ⟨rfl, _, rfl⟩
      · have h : ((!decide (p < c.ts.length)) || (!decide ((tkAt c.ts p).k = 1))) = false := h
        rw [decide_eq_false h1, Bool.not_false, Bool.or_true] at h; cases h
  · have e1 : labR c.ts ⟨p, e0, q0⟩ = ([], ⟨p, e0, q0⟩) := by unfold labR; rw [if_neg he]
    rw [e1]
    refine Ctr.enterH tabOkF (fn := Tryz.f180) rfl rfl rfl rfl rfl rfl bndQ2 (Nat.le_refl _) ?_
    refine OpC.callH rfl rfl rfl rfl [0] rfl hpk rfl rfl rfl rfl ⟨rfl, trivial⟩ rfl ?_
    refine ⟨fun _ => ⟨rfl, _, rfl⟩, fun h => ?_⟩
    have h : (!decide (e0 = 0)) = false := h
    rw [decide_eq_false he] at h; cases h
set_option maxHeartbeats 1000000 in
theorem qreg_w (hL : QL c) (hk : Qk c s) : Ctr Tryz.prog 107 [.ptr 1 1 0 []] (hQ c s) (fun r h => r = .i .i64 (regR c.L c.ts s).1 ∧ h = hQ c (regR c.L c.ts s).2) := by
  obtain ⟨p, e0, q0⟩ := s
  have hpk := wpeek_ok (ad := c.ad) (cap := c.cap) hk.p
  have hreg := hL.reg (tkAt c.ts p).s
  by_cases he : e0 = 0
  · subst he
    unfold regR
    rw [if_pos rfl]
    by_cases h1 : (tkAt c.ts p).k = 1 ∧ 0 ≤ c.L.ix (tkAt c.ts p).s
    · have hlt := at_lt (ts := c.ts) (p := p) (by rw [h1.1]; decide)
      have h1' : (tkAt c.ts (⟨p, 0, q0⟩ : RS).p).k = 1 ∧ 0 ≤ c.L.ix (tkAt c.ts (⟨p, 0, q0⟩ : RS).p).s := h1
      rw [if_pos h1']
      rw [decide_eq_true (show (⟨p, 0, q0⟩ : RS).p < c.ts.length from hlt)] at hpk
      refine Ctr.enterH tabOkF (fn := Tryz.f107) rfl rfl rfl rfl rfl rfl bndQ2 (Nat.le_refl _) ?_
      refine OpC.callH rfl rfl rfl rfl [0] rfl hpk rfl rfl rfl rfl ⟨rfl, trivial⟩ rfl ?_
      refine ⟨fun h => no_ft h, fun _ => ?_⟩
      refine WpC.dr tabOkF mixed 0 ?_
      refine OpD.callV rfl rfl rfl rfl rfl rfl rfl (fun _ => hreg) ?_
      refine ⟨by kernel_rfl, ?_⟩
      refine ⟨fun h => ?_, fun _ => ?_⟩
      · have h : ((false || (!decide ((tkAt c.ts p).k = 1))) || decide (c.L.ix (tkAt c.ts p).s < 0)) = true := h
        rw [decide_eq_true h1.1, decide_eq_false (by omega)] at h; cases h
      refine OpC.callH rfl rfl rfl rfl [0] rfl (wnext_ok (ad := c.ad) (cap := c.cap) hlt hk.l) rfl rfl rfl rfl ⟨rfl, trivial⟩ rfl ?_
      refine WpC.dr tabOkF mixed 0 ?_
      refine OpD.callV rfl rfl rfl rfl rfl rfl rfl (fun _ => hreg) ?_
      refine ⟨by kernel_rfl, ?_⟩
      exact ⟨rfl, _, rfl⟩
    · have h1' : ¬ ((tkAt c.ts (⟨p, 0, q0⟩ : RS).p).k = 1 ∧ 0 ≤ c.L.ix (tkAt c.ts (⟨p, 0, q0⟩ : RS).p).s) := h1
      rw [if_neg h1']
      refine Ctr.enterH tabOkF (fn := Tryz.f107) rfl rfl rfl rfl rfl rfl bndQ2 (Nat.le_refl _) ?_
      refine OpC.callH rfl rfl rfl rfl [0] rfl hpk rfl rfl rfl rfl ⟨rfl, trivial⟩ rfl ?_
      refine ⟨fun h => no_ft h, fun _ => ?_⟩
      refine WpC.dr tabOkF mixed 0 ?_
      refine OpD.callV rfl rfl rfl rfl rfl rfl rfl (fun _ => hreg) ?_
      refine ⟨by kernel_rfl, ?_⟩
      refine ⟨fun _ => ?_, fun h => ?_⟩
      · refine OpC.callH rfl rfl rfl rfl [0, 1] rfl (qodd_ok (s := ⟨p, 0, q0⟩) hk true) rfl rfl rfl rfl ⟨rfl, rfl, trivial⟩ rfl ?_
        exact ⟨rfl, _, rfl⟩
      · have h : (((!decide (p < c.ts.length)) || (!decide ((tkAt c.ts p).k = 1))) || decide (c.L.ix (tkAt c.ts p).s < 0)) = false := h
        simp only [Bool.or_eq_false_iff, Bool.not_eq_false', decide_eq_true_eq, decide_eq_false_iff_not] at h
        exact absurd ⟨h.1.2, by omega⟩ h1
  · have e1 : regR c.L c.ts ⟨p, e0, q0⟩ = (-1, ⟨p, e0, q0⟩) := by unfold regR; rw [if_neg he]
    rw [e1]
    refine Ctr.enterH tabOkF (fn := Tryz.f107) rfl rfl rfl rfl rfl rfl bndQ2 (Nat.le_refl _) ?_
    refine OpC.callH rfl rfl rfl rfl [0] rfl hpk rfl rfl rfl rfl ⟨rfl, trivial⟩ rfl ?_
    refine ⟨fun _ => ⟨rfl, _, rfl⟩, fun h => ?_⟩
    have h : (!decide (e0 = 0)) = false := h
    rw [decide_eq_false he] at h; cases h
set_option maxHeartbeats 1000000 in
theorem qnum_w (hk : Qk c s) : Ctr Tryz.prog 178 [.ptr 1 1 0 []] (hQ c s) (fun r h => r = .i .i64 (numR c.ts s).1 ∧ h = hQ c (numR c.ts s).2) := by
  obtain ⟨p, e0, q0⟩ := s
  by_cases he : e0 = 0
  · subst he
    have fin : ∀ (b : Bool) (p' : Nat), takeB c.ts [45] p = b → p' = (if b then p + 1 else p) → numR c.ts ⟨p, 0, q0⟩ = nmR c.ts b ⟨p', 0, q0⟩ → Qk c ⟨p', 0, q0⟩ → Ctr Tryz.prog 178 [.ptr 1 1 0 []] (hQ c ⟨p, 0, q0⟩) (fun r h => r = .i .i64 (numR c.ts ⟨p, 0, q0⟩).1 ∧ h = hQ c (numR c.ts ⟨p, 0, q0⟩).2) := by
      intro b p' hb hp' hn hk2
      rw [hn]
      unfold nmR
      have hpk := wpeek_ok (ad := c.ad) (cap := c.cap) hk2.p
      by_cases h2 : (tkAt c.ts p').k = 2
      · have hlt := at_lt (ts := c.ts) (p := p') (by rw [h2]; decide)
        have h2' : (tkAt c.ts (⟨p', 0, q0⟩ : RS).p).k = 2 := h2
        rw [if_pos h2']
        rw [decide_eq_true (show (⟨p', 0, q0⟩ : RS).p < c.ts.length from hlt)] at hpk
        refine Ctr.enterH tabOkF (fn := Tryz.f178) rfl rfl rfl rfl rfl rfl bndQ2 (Nat.le_refl _) ?_
        refine ⟨fun h => no_ft h, fun _ => ?_⟩
        refine OpC.callH rfl rfl rfl rfl [0] rfl (wmark_ok (ad := c.ad) (cap := c.cap) hb hp' hk.p hk.l) rfl rfl rfl rfl ⟨rfl, trivial⟩ rfl ?_
        refine OpC.callH rfl rfl rfl rfl [0] rfl hpk rfl rfl rfl rfl ⟨rfl, trivial⟩ rfl ?_
        refine ⟨fun h => ?_, fun _ => ?_⟩
        · have h : (false || (!decide ((tkAt c.ts p').k = 2))) = true := h
          rw [decide_eq_true h2] at h; cases h
        refine OpC.callH rfl rfl rfl rfl [0] rfl (wnext_ok (ad := c.ad) (cap := c.cap) hlt hk.l) rfl rfl rfl rfl ⟨rfl, trivial⟩ rfl ?_
        cases b with
        | true =>
          refine ⟨fun _ => ?_, fun h => no_tf h⟩
          exact ⟨rfl, _, rfl⟩
        | false =>
          refine ⟨fun h => no_ft h, fun _ => ?_⟩
          exact ⟨rfl, _, rfl⟩
      · have h2' : ¬ (tkAt c.ts (⟨p', 0, q0⟩ : RS).p).k = 2 := h2
        rw [if_neg h2']
        refine Ctr.enterH tabOkF (fn := Tryz.f178) rfl rfl rfl rfl rfl rfl bndQ2 (Nat.le_refl _) ?_
        refine ⟨fun h => no_ft h, fun _ => ?_⟩
        refine OpC.callH rfl rfl rfl rfl [0] rfl (wmark_ok (ad := c.ad) (cap := c.cap) hb hp' hk.p hk.l) rfl rfl rfl rfl ⟨rfl, trivial⟩ rfl ?_
        refine OpC.callH rfl rfl rfl rfl [0] rfl hpk rfl rfl rfl rfl ⟨rfl, trivial⟩ rfl ?_
        refine ⟨fun _ => ?_, fun h => ?_⟩
        · refine OpC.callH rfl rfl rfl rfl [0, 1] rfl (qodd_ok (s := ⟨p', 0, q0⟩) hk2 false) rfl rfl rfl rfl ⟨rfl, rfl, trivial⟩ rfl ?_
          exact ⟨rfl, _, rfl⟩
        · have h : ((!decide (p' < c.ts.length)) || (!decide ((tkAt c.ts p').k = 2))) = false := h
          rw [decide_eq_false h2, Bool.not_false, Bool.or_true] at h; cases h
    cases hb : takeB c.ts [45] p with
    | true => exact fin true (p + 1) hb rfl (by unfold numR; rw [if_pos rfl]; exact if_pos hb) ⟨takeQ_lt hb, hk.l⟩
    | false => exact fin false p hb rfl (by unfold numR; rw [if_pos rfl]; exact if_neg (by rw [hb]; decide)) hk
  · have e1 : numR c.ts ⟨p, e0, q0⟩ = (0, ⟨p, e0, q0⟩) := by unfold numR; rw [if_neg he]
    rw [e1]
    refine Ctr.enterH tabOkF (fn := Tryz.f178) rfl rfl rfl rfl rfl rfl bndQ2 (Nat.le_refl _) ?_
    refine ⟨fun _ => ⟨rfl, _, rfl⟩, fun h => ?_⟩
    have h : (!decide (e0 = 0)) = false := h
    rw [decide_eq_false he] at h; cases h
theorem qimm_w (hL : QL c) (hk : Qk c s) : Ctr Tryz.prog 110 [.ptr 1 1 0 []] (hQ c s) (fun r h => r = .i .i64 (immR c.L c.ts s).1 ∧ h = hQ c (immR c.L c.ts s).2) := by
  unfold immR
  obtain ⟨a, L, ts, ad, cap⟩ := c
  rcases hL.h with ⟨ha, hh⟩ | ⟨ha, hh⟩ | ⟨ha, hh⟩
  · dsimp only at ha hh; subst ha
    rw [if_neg (by rw [hh]; decide)]
    dsimp only
    rw [hh]
    refine Ctr.enterH tabOkF (fn := Tryz.f110) rfl rfl rfl rfl rfl rfl bndQ2 (Nat.le_refl _) ?_
    refine ⟨fun _ => ?_, fun h => no_tf h⟩
    refine OpC.callH rfl rfl rfl rfl [0, 1] rfl (qmark_w hk [36]) rfl rfl rfl rfl ⟨rfl, rfl, trivial⟩ rfl ?_
    refine ⟨fun h => no_ft h, fun _ => ?_⟩
    refine OpC.callH rfl rfl rfl rfl [0, 1] rfl (qnum_w (hk.mark [36])) rfl rfl rfl rfl ⟨rfl, rfl, trivial⟩ rfl ?_
    exact ⟨rfl, _, rfl⟩
  · dsimp only at ha hh; subst ha
    rw [if_pos hh]
    refine Ctr.enterH tabOkF (fn := Tryz.f110) rfl rfl rfl rfl rfl rfl bndQ2 (Nat.le_refl _) ?_
    refine ⟨fun h => no_ft h, fun _ => ?_⟩
    refine ⟨fun h => no_ft h, fun _ => ?_⟩
    refine OpC.callH rfl rfl rfl rfl [0, 1] rfl (qnum_w hk) rfl rfl rfl rfl ⟨rfl, rfl, trivial⟩ rfl ?_
    exact ⟨rfl, _, rfl⟩
  · dsimp only at ha hh; subst ha
    rw [if_neg (by rw [hh]; decide)]
    dsimp only
    rw [hh]
    refine Ctr.enterH tabOkF (fn := Tryz.f110) rfl rfl rfl rfl rfl rfl bndQ2 (Nat.le_refl _) ?_
    refine ⟨fun h => no_ft h, fun _ => ?_⟩
    refine ⟨fun _ => ?_, fun h => no_tf h⟩
    refine OpC.callH rfl rfl rfl rfl [0, 1] rfl (qmark_w hk [35]) rfl rfl rfl rfl ⟨rfl, rfl, trivial⟩ rfl ?_
    refine OpC.callH rfl rfl rfl rfl [0, 1] rfl (qnum_w (hk.mark [35])) rfl rfl rfl rfl ⟨rfl, rfl, trivial⟩ rfl ?_
    exact ⟨rfl, _, rfl⟩
theorem qisImm_w (hL : QL c) (hk : Qk c s) : Ctr Tryz.prog 109 [.ptr 1 1 0 []] (hQ c s) (fun r h => r = .b (isImm c.L c.ts s) ∧ h = hQ c s) := by
  unfold isImm
  obtain ⟨a, L, ts, ad, cap⟩ := c
  rcases hL.h with ⟨ha, hh⟩ | ⟨ha, hh⟩ | ⟨ha, hh⟩
  · dsimp only at ha hh ⊢; subst ha
    rw [hh]
    refine Ctr.enterH tabOkF (fn := Tryz.f109) rfl rfl rfl rfl rfl rfl bndQ2 (Nat.le_refl _) ?_
    refine OpC.callG rfl rfl rfl rfl rfl rfl (fun _ => Ctr.spread (qis_w hk [36]) (fun ρ => rfl) _ [0, 1] rfl rfl ⟨rfl, rfl, trivial⟩ rfl) ?_
    refine OpC.callG rfl rfl rfl rfl rfl rfl (fun _ => Ctr.spread (qis_w hk [35]) (fun ρ => rfl) _ [0, 1] rfl rfl ⟨rfl, rfl, trivial⟩ rfl) ?_
    refine ⟨b_cg ?_, _, rfl⟩
    show ((true && isR ts [36] s) || (false && isR ts [35] s)) = _
    cases isR ts [36] s <;> cases isR ts [35] s <;> rfl
  · dsimp only at ha hh ⊢; subst ha
    rw [hh]
    refine Ctr.enterH tabOkF (fn := Tryz.f109) rfl rfl rfl rfl rfl rfl bndQ2 (Nat.le_refl _) ?_
    refine OpC.callG rfl rfl rfl rfl rfl rfl (fun _ => Ctr.spread (qis_w hk [36]) (fun ρ => rfl) _ [0, 1] rfl rfl ⟨rfl, rfl, trivial⟩ rfl) ?_
    refine OpC.callG rfl rfl rfl rfl rfl rfl (fun _ => Ctr.spread (qis_w hk [35]) (fun ρ => rfl) _ [0, 1] rfl rfl ⟨rfl, rfl, trivial⟩ rfl) ?_
    refine ⟨b_cg ?_, _, rfl⟩
    show ((false && isR ts [36] s) || (false && isR ts [35] s)) = _
    cases isR ts [36] s <;> cases isR ts [35] s <;> rfl
  · dsimp only at ha hh ⊢; subst ha
    rw [hh]
    refine Ctr.enterH tabOkF (fn := Tryz.f109) rfl rfl rfl rfl rfl rfl bndQ2 (Nat.le_refl _) ?_
    refine OpC.callG rfl rfl rfl rfl rfl rfl (fun _ => Ctr.spread (qis_w hk [36]) (fun ρ => rfl) _ [0, 1] rfl rfl ⟨rfl, rfl, trivial⟩ rfl) ?_
    refine OpC.callG rfl rfl rfl rfl rfl rfl (fun _ => Ctr.spread (qis_w hk [35]) (fun ρ => rfl) _ [0, 1] rfl rfl ⟨rfl, rfl, trivial⟩ rfl) ?_
    refine ⟨b_cg ?_, _, rfl⟩
    show ((false && isR ts [36] s) || (true && isR ts [35] s)) = _
    cases isR ts [36] s <;> cases isR ts [35] s <;> rfl
end SX
end Go.Proofs.YthkedcneehdinaaGreatDoor

/- The reference's readers of words: places of memory, branches, names. Written by qwc.py. -/
set_option linter.unusedVariables false
set_option maxRecDepth 100000
namespace Go.Proofs.YthkedcneehdinaaGreatDoor
namespace SX
open Go Go.Proofs
variable {c : Qc} {s : RS}
def insQ (i : In) : SB := .mem 23 (ienc i) 1 0
def hJ (c : Qc) (s : RS) (i : In) : List SB := [curQ c.ts c.ad c.cap s.p, rdQ c.a s.e s.q, insQ i]
theorem bndJ {c : Qc} {s : RS} {i : In} : BndH 3 (hJ c s i) := ⟨bndQ, ⟨rfl, rfl, rfl, rfl, trivial⟩, ⟨rfl, rfl, rfl, rfl, rfl, rfl, rfl, rfl, rfl, rfl, rfl, rfl, rfl, rfl, rfl, rfl, rfl, trivial⟩, trivial⟩
theorem qloc_w (v : List UInt8) : CtrV Tryz.prog 179 [.s v] (.i .i64 (locI v)) := by
  refine Ctr.enterV tabOkF (fn := Tryz.f179) rfl rfl rfl rfl rfl rfl ?_
  unfold locI
  refine ⟨fun h => ?_, fun h => ?_⟩
  · rw [if_pos (of_decide_eq_true h)]; exact rfl
  rw [if_neg (of_decide_eq_false h)]
  refine ⟨fun h => ?_, fun h => ?_⟩
  · rw [if_pos (of_decide_eq_true h)]; exact rfl
  rw [if_neg (of_decide_eq_false h)]
  refine ⟨fun h => ?_, fun h => ?_⟩
  · rw [if_pos (of_decide_eq_true h)]; exact rfl
  rw [if_neg (of_decide_eq_false h)]; exact rfl
theorem Qk.plus (h : Qk c s) (i : In) : Qk c (plusR c.L c.ts i s).2 := by
  unfold plusR ixR
  split
  · rename_i hk
    have h1 : Qk c (goF s) := h.go (at_lt (by rw [hk]; decide))
    split
    · rename_i ht
      unfold isR at ht
      simp only [Bool.and_eq_true] at ht
      exact (h1.go (takeQ_lt ht.2)).reg
    · exact h1
  · exact h.reg
theorem Qk.mem (h : Qk c s) (i : In) : Qk c (memR c.L c.ts i s).2 := by
  unfold memR
  dsimp only
  have h1 := h.mark [91]
  generalize markR c.ts [91] s = s1 at *
  by_cases hc : s1.e = 0 ∧ ¬ ((tkAt c.ts s1.p).k = 1 ∧ 0 ≤ locI (tkAt c.ts s1.p).s)
  · simp only [if_pos hc, if_neg (odd_e c.ts true s1)]
    exact h1.odd true
  · simp only [if_neg hc]
    split
    · rename_i h0
      have hk : (tkAt c.ts s1.p).k = 1 := by
        by_cases hk : (tkAt c.ts s1.p).k = 1
        · exact hk
        · exact absurd ⟨h0, fun hh => hk hh.1⟩ hc
      have h2 : Qk c (goF s1) := h1.go (at_lt (by rw [hk]; decide))
      refine Qk.mark ?_ _
      split
      · rename_i ht
        unfold isR at ht
        simp only [Bool.and_eq_true] at ht
        exact (h2.go (takeQ_lt ht.2)).plus _
      · exact h2
    · exact h1
set_option maxHeartbeats 2000000 in
theorem qmem_w (hL : QL c) (hk : Qk c s) (i : In) : Ctr Tryz.prog 112 [.ptr 1 1 0 [], .ptr 2 1 0 []] (hJ c s i) (fun r h => r = .tup [] ∧ h = hJ c (memR c.L c.ts i s).2 (memR c.L c.ts i s).1) := by
  obtain ⟨op, dst, a, b, imm, loc, off, ix, sz, fn, acq, wk, rel, pr, su, to, ze⟩ := i
  have hk1 := hk.mark [91]
  have hmk := qmark_w hk [91]
  unfold memR
  dsimp only
  generalize markR c.ts [91] s = s1 at *
  obtain ⟨p, e0, q0⟩ := s1
  dsimp only at hk1 hmk ⊢
  have hpk := wpeek_ok (ad := c.ad) (cap := c.cap) hk1.p
  have hlc := qloc_w (tkAt c.ts p).s
  by_cases he : e0 = 0
  · subst he
    by_cases hc : (tkAt c.ts p).k = 1 ∧ 0 ≤ locI (tkAt c.ts p).s
    · have hlt := at_lt (ts := c.ts) (p := p) (by rw [hc.1]; decide)
      have hcn : ¬ ((0 : Int) = 0 ∧ ¬ ((tkAt c.ts p).k = 1 ∧ 0 ≤ locI (tkAt c.ts p).s)) := fun hh => hh.2 hc
      have em : (if (0 : Int) = 0 ∧ ¬ ((tkAt c.ts p).k = 1 ∧ 0 ≤ locI (tkAt c.ts p).s) then oddR c.ts true ⟨p, 0, q0⟩ else (⟨p, 0, q0⟩ : RS)) = ⟨p, 0, q0⟩ := if_neg hcn
      rw [em, if_pos (show (⟨p, 0, q0⟩ : RS).e = 0 from rfl), show goF (⟨p, 0, q0⟩ : RS) = ⟨p + 1, 0, q0⟩ from rfl]
      rw [decide_eq_true (show (⟨p, 0, q0⟩ : RS).p < c.ts.length from hlt)] at hpk
      have hk2 : Qk c ⟨p + 1, 0, q0⟩ := ⟨hlt, hk1.l⟩
      cases hb : isR c.ts [43] ⟨p + 1, 0, q0⟩ with
      | true =>
        have hb0 : takeB c.ts [43] (p + 1) = true := hb
        have hk3 : Qk c ⟨p + 1 + 1, 0, q0⟩ := ⟨takeQ_lt hb0, hk1.l⟩
        rw [if_pos rfl, show goF (⟨p + 1, 0, q0⟩ : RS) = ⟨p + 1 + 1, 0, q0⟩ from rfl]
        have his := qis_w hk2 [43]
        rw [hb] at his
        have hpk2 := wpeek_ok (ad := c.ad) (cap := c.cap) hk3.p
        unfold plusR
        by_cases h2 : (tkAt c.ts (p + 1 + 1)).k = 2
        · have hlt2 := at_lt (ts := c.ts) (p := p + 1 + 1) (by rw [h2]; decide)
          have hk4 : Qk c ⟨p + 1 + 1 + 1, 0, q0⟩ := ⟨hlt2, hk1.l⟩
          have h2' : (tkAt c.ts (⟨p + 1 + 1, 0, q0⟩ : RS).p).k = 2 := h2
          rw [if_pos h2', show goF (⟨p + 1 + 1, 0, q0⟩ : RS) = ⟨p + 1 + 1 + 1, 0, q0⟩ from rfl]
          rw [decide_eq_true (show (⟨p + 1 + 1, 0, q0⟩ : RS).p < c.ts.length from hlt2)] at hpk2
          have his2 := qis_w hk4 [43]
          cases hb2 : isR c.ts [43] ⟨p + 1 + 1 + 1, 0, q0⟩ with
          | true =>
            have hb3 : takeB c.ts [43] (p + 1 + 1 + 1) = true := hb2
            have hk5 : Qk c ⟨p + 1 + 1 + 1 + 1, 0, q0⟩ := ⟨takeQ_lt hb3, hk1.l⟩
            rw [if_pos rfl, show goF (⟨p + 1 + 1 + 1, 0, q0⟩ : RS) = ⟨p + 1 + 1 + 1 + 1, 0, q0⟩ from rfl]
            rw [hb2] at his2
            unfold ixR
            dsimp only
            refine Ctr.enterH tabOkF (fn := Tryz.f112) rfl rfl rfl rfl rfl rfl bndJ (Nat.le_refl _) ?_
            refine OpC.callH rfl rfl rfl rfl [0, 1] rfl (hmk) rfl rfl rfl rfl ⟨rfl, rfl, trivial⟩ rfl ?_
            refine OpC.callH rfl rfl rfl rfl [0] rfl (hpk) rfl rfl rfl rfl ⟨rfl, trivial⟩ rfl ?_
            refine OpC.callV rfl rfl rfl rfl rfl rfl rfl (fun _ => hlc) ?_
            refine ⟨fun h => ?_, fun _ => ?_⟩
            · have h : (decide ((0 : Int) = 0) && ((false || (!decide ((tkAt c.ts p).k = 1))) || decide (locI (tkAt c.ts p).s < 0))) = true := h
              rw [decide_eq_true hc.1, decide_eq_false (show ¬ locI (tkAt c.ts p).s < 0 by have := hc.2; omega)] at h; exact no_ft h
            refine ⟨fun h => no_ft h, fun _ => ?_⟩
            refine OpC.callH rfl rfl rfl rfl [0] rfl (wnext_ok (ad := c.ad) (cap := c.cap) hlt hk1.l) rfl rfl rfl rfl ⟨rfl, trivial⟩ rfl ?_
            refine OpC.callV rfl rfl rfl rfl rfl rfl rfl (fun _ => hlc) ?_
            refine OpC.callH rfl rfl rfl rfl [0, 1] rfl (his) rfl rfl rfl rfl ⟨rfl, rfl, trivial⟩ rfl ?_
            refine ⟨fun _ => ?_, fun h => no_tf h⟩
            refine OpC.callH rfl rfl rfl rfl [0] rfl (wnext_ok (ad := c.ad) (cap := c.cap) (p := p + 1) (takeQ_lt hb0) hk1.l) rfl rfl rfl rfl ⟨rfl, trivial⟩ rfl ?_
            refine OpC.callH rfl rfl rfl rfl [0] rfl (hpk2) rfl rfl rfl rfl ⟨rfl, trivial⟩ rfl ?_
            refine ⟨fun _ => ?_, fun h => ?_⟩
            rotate_left
            · have h : (true && decide ((tkAt c.ts (p + 1 + 1)).k = 2)) = false := h
              rw [decide_eq_true h2] at h; cases h
            refine OpC.callH rfl rfl rfl rfl [0] rfl (wnext_ok (ad := c.ad) (cap := c.cap) hlt2 hk1.l) rfl rfl rfl rfl ⟨rfl, trivial⟩ rfl ?_
            refine OpC.callH rfl rfl rfl rfl [0, 1] rfl (his2) rfl rfl rfl rfl ⟨rfl, rfl, trivial⟩ rfl ?_
            refine ⟨fun _ => ?_, fun h => no_tf h⟩
            refine OpC.callH rfl rfl rfl rfl [0] rfl (wnext_ok (ad := c.ad) (cap := c.cap) (p := p + 1 + 1 + 1) (takeQ_lt hb3) hk1.l) rfl rfl rfl rfl ⟨rfl, trivial⟩ rfl ?_
            refine OpC.callH rfl rfl rfl rfl [0, 1] rfl (qreg_w hL hk5) rfl rfl rfl rfl ⟨rfl, rfl, trivial⟩ rfl ?_
            refine OpC.callH rfl rfl rfl rfl [0, 1] rfl (qmark_w hk5.reg [93]) rfl rfl rfl rfl ⟨rfl, rfl, trivial⟩ rfl ?_
            exact ⟨rfl, _, rfl⟩
          | false =>
            rw [if_neg (by decide)]
            rw [hb2] at his2
            dsimp only
            refine Ctr.enterH tabOkF (fn := Tryz.f112) rfl rfl rfl rfl rfl rfl bndJ (Nat.le_refl _) ?_
            refine OpC.callH rfl rfl rfl rfl [0, 1] rfl (hmk) rfl rfl rfl rfl ⟨rfl, rfl, trivial⟩ rfl ?_
            refine OpC.callH rfl rfl rfl rfl [0] rfl (hpk) rfl rfl rfl rfl ⟨rfl, trivial⟩ rfl ?_
            refine OpC.callV rfl rfl rfl rfl rfl rfl rfl (fun _ => hlc) ?_
            refine ⟨fun h => ?_, fun _ => ?_⟩
            · have h : (decide ((0 : Int) = 0) && ((false || (!decide ((tkAt c.ts p).k = 1))) || decide (locI (tkAt c.ts p).s < 0))) = true := h
              rw [decide_eq_true hc.1, decide_eq_false (show ¬ locI (tkAt c.ts p).s < 0 by have := hc.2; omega)] at h; exact no_ft h
            refine ⟨fun h => no_ft h, fun _ => ?_⟩
            refine OpC.callH rfl rfl rfl rfl [0] rfl (wnext_ok (ad := c.ad) (cap := c.cap) hlt hk1.l) rfl rfl rfl rfl ⟨rfl, trivial⟩ rfl ?_
            refine OpC.callV rfl rfl rfl rfl rfl rfl rfl (fun _ => hlc) ?_
            refine OpC.callH rfl rfl rfl rfl [0, 1] rfl (his) rfl rfl rfl rfl ⟨rfl, rfl, trivial⟩ rfl ?_
            refine ⟨fun _ => ?_, fun h => no_tf h⟩
            refine OpC.callH rfl rfl rfl rfl [0] rfl (wnext_ok (ad := c.ad) (cap := c.cap) (p := p + 1) (takeQ_lt hb0) hk1.l) rfl rfl rfl rfl ⟨rfl, trivial⟩ rfl ?_
            refine OpC.callH rfl rfl rfl rfl [0] rfl (hpk2) rfl rfl rfl rfl ⟨rfl, trivial⟩ rfl ?_
            refine ⟨fun _ => ?_, fun h => ?_⟩
            rotate_left
            · have h : (true && decide ((tkAt c.ts (p + 1 + 1)).k = 2)) = false := h
              rw [decide_eq_true h2] at h; cases h
            refine OpC.callH rfl rfl rfl rfl [0] rfl (wnext_ok (ad := c.ad) (cap := c.cap) hlt2 hk1.l) rfl rfl rfl rfl ⟨rfl, trivial⟩ rfl ?_
            refine OpC.callH rfl rfl rfl rfl [0, 1] rfl (his2) rfl rfl rfl rfl ⟨rfl, rfl, trivial⟩ rfl ?_
            refine ⟨fun h => no_ft h, fun _ => ?_⟩
            refine OpC.callH rfl rfl rfl rfl [0, 1] rfl (qmark_w hk4 [93]) rfl rfl rfl rfl ⟨rfl, rfl, trivial⟩ rfl ?_
            exact ⟨rfl, _, rfl⟩
        · have h2' : ¬ (tkAt c.ts (⟨p + 1 + 1, 0, q0⟩ : RS).p).k = 2 := h2
          rw [if_neg h2']
          unfold ixR
          dsimp only
          refine Ctr.enterH tabOkF (fn := Tryz.f112) rfl rfl rfl rfl rfl rfl bndJ (Nat.le_refl _) ?_
          refine OpC.callH rfl rfl rfl rfl [0, 1] rfl (hmk) rfl rfl rfl rfl ⟨rfl, rfl, trivial⟩ rfl ?_
          refine OpC.callH rfl rfl rfl rfl [0] rfl (hpk) rfl rfl rfl rfl ⟨rfl, trivial⟩ rfl ?_
          refine OpC.callV rfl rfl rfl rfl rfl rfl rfl (fun _ => hlc) ?_
          refine ⟨fun h => ?_, fun _ => ?_⟩
          · have h : (decide ((0 : Int) = 0) && ((false || (!decide ((tkAt c.ts p).k = 1))) || decide (locI (tkAt c.ts p).s < 0))) = true := h
            rw [decide_eq_true hc.1, decide_eq_false (show ¬ locI (tkAt c.ts p).s < 0 by have := hc.2; omega)] at h; exact no_ft h
          refine ⟨fun h => no_ft h, fun _ => ?_⟩
          refine OpC.callH rfl rfl rfl rfl [0] rfl (wnext_ok (ad := c.ad) (cap := c.cap) hlt hk1.l) rfl rfl rfl rfl ⟨rfl, trivial⟩ rfl ?_
          refine OpC.callV rfl rfl rfl rfl rfl rfl rfl (fun _ => hlc) ?_
          refine OpC.callH rfl rfl rfl rfl [0, 1] rfl (his) rfl rfl rfl rfl ⟨rfl, rfl, trivial⟩ rfl ?_
          refine ⟨fun _ => ?_, fun h => no_tf h⟩
          refine OpC.callH rfl rfl rfl rfl [0] rfl (wnext_ok (ad := c.ad) (cap := c.cap) (p := p + 1) (takeQ_lt hb0) hk1.l) rfl rfl rfl rfl ⟨rfl, trivial⟩ rfl ?_
          refine OpC.callH rfl rfl rfl rfl [0] rfl (hpk2) rfl rfl rfl rfl ⟨rfl, trivial⟩ rfl ?_
          refine ⟨fun h => ?_, fun _ => ?_⟩
          · have h : (decide (p + 1 + 1 < c.ts.length) && decide ((tkAt c.ts (p + 1 + 1)).k = 2)) = true := h
            rw [decide_eq_false h2, Bool.and_false] at h; cases h
          refine OpC.callH rfl rfl rfl rfl [0, 1] rfl (qreg_w hL hk3) rfl rfl rfl rfl ⟨rfl, rfl, trivial⟩ rfl ?_
          refine OpC.callH rfl rfl rfl rfl [0, 1] rfl (qmark_w hk3.reg [93]) rfl rfl rfl rfl ⟨rfl, rfl, trivial⟩ rfl ?_
          exact ⟨rfl, _, rfl⟩
      | false =>
        rw [if_neg (by decide)]
        have his := qis_w hk2 [43]
        rw [hb] at his
        dsimp only
        refine Ctr.enterH tabOkF (fn := Tryz.f112) rfl rfl rfl rfl rfl rfl bndJ (Nat.le_refl _) ?_
        refine OpC.callH rfl rfl rfl rfl [0, 1] rfl (hmk) rfl rfl rfl rfl ⟨rfl, rfl, trivial⟩ rfl ?_
        refine OpC.callH rfl rfl rfl rfl [0] rfl (hpk) rfl rfl rfl rfl ⟨rfl, trivial⟩ rfl ?_
        refine OpC.callV rfl rfl rfl rfl rfl rfl rfl (fun _ => hlc) ?_
        refine ⟨fun h => ?_, fun _ => ?_⟩
        · have h : (decide ((0 : Int) = 0) && ((false || (!decide ((tkAt c.ts p).k = 1))) || decide (locI (tkAt c.ts p).s < 0))) = true := h
          rw [decide_eq_true hc.1, decide_eq_false (show ¬ locI (tkAt c.ts p).s < 0 by have := hc.2; omega)] at h; exact no_ft h
        refine ⟨fun h => no_ft h, fun _ => ?_⟩
        refine OpC.callH rfl rfl rfl rfl [0] rfl (wnext_ok (ad := c.ad) (cap := c.cap) hlt hk1.l) rfl rfl rfl rfl ⟨rfl, trivial⟩ rfl ?_
        refine OpC.callV rfl rfl rfl rfl rfl rfl rfl (fun _ => hlc) ?_
        refine OpC.callH rfl rfl rfl rfl [0, 1] rfl (his) rfl rfl rfl rfl ⟨rfl, rfl, trivial⟩ rfl ?_
        refine ⟨fun h => no_ft h, fun _ => ?_⟩
        refine OpC.callH rfl rfl rfl rfl [0, 1] rfl (qmark_w hk2 [93]) rfl rfl rfl rfl ⟨rfl, rfl, trivial⟩ rfl ?_
        exact ⟨rfl, _, rfl⟩
    · have hcp : (0 : Int) = 0 ∧ ¬ ((tkAt c.ts p).k = 1 ∧ 0 ≤ locI (tkAt c.ts p).s) := ⟨rfl, hc⟩
      have em : (if (0 : Int) = 0 ∧ ¬ ((tkAt c.ts p).k = 1 ∧ 0 ≤ locI (tkAt c.ts p).s) then oddR c.ts true ⟨p, 0, q0⟩ else (⟨p, 0, q0⟩ : RS)) = oddR c.ts true ⟨p, 0, q0⟩ := if_pos hcp
      rw [em, if_neg (odd_e c.ts true ⟨p, 0, q0⟩)]
      have hod : ¬ (oddR c.ts true ⟨p, 0, q0⟩).e = 0 := odd_e c.ts true ⟨p, 0, q0⟩
      refine Ctr.enterH tabOkF (fn := Tryz.f112) rfl rfl rfl rfl rfl rfl bndJ (Nat.le_refl _) ?_
      refine OpC.callH rfl rfl rfl rfl [0, 1] rfl (hmk) rfl rfl rfl rfl ⟨rfl, rfl, trivial⟩ rfl ?_
      refine OpC.callH rfl rfl rfl rfl [0] rfl (hpk) rfl rfl rfl rfl ⟨rfl, trivial⟩ rfl ?_
      refine OpC.callV rfl rfl rfl rfl rfl rfl rfl (fun _ => hlc) ?_
      refine ⟨fun _ => ?_, fun h => ?_⟩
      rotate_left
      · have h : (decide ((0 : Int) = 0) && (((!decide (p < c.ts.length)) || (!decide ((tkAt c.ts p).k = 1))) || decide (locI (tkAt c.ts p).s < 0))) = false := h
        simp only [decide_true, Bool.true_and, Bool.or_eq_false_iff, Bool.not_eq_false', decide_eq_true_eq, decide_eq_false_iff_not] at h; exact absurd ⟨h.1.2, by omega⟩ hc
      refine OpC.callH rfl rfl rfl rfl [0, 1] rfl (qodd_ok (s := ⟨p, 0, q0⟩) hk1 true) rfl rfl rfl rfl ⟨rfl, rfl, trivial⟩ rfl ?_
      refine ⟨fun _ => ?_, fun h => ?_⟩
      rotate_left
      · have h : (!decide ((oddR c.ts true ⟨p, 0, q0⟩).e = 0)) = false := h
        rw [decide_eq_false hod] at h; cases h
      exact ⟨rfl, _, rfl⟩
  · have hcn : ¬ (e0 = 0 ∧ ¬ ((tkAt c.ts p).k = 1 ∧ 0 ≤ locI (tkAt c.ts p).s)) := fun hh => he hh.1
    simp only [if_neg hcn, if_neg he]
    refine Ctr.enterH tabOkF (fn := Tryz.f112) rfl rfl rfl rfl rfl rfl bndJ (Nat.le_refl _) ?_
    refine OpC.callH rfl rfl rfl rfl [0, 1] rfl (hmk) rfl rfl rfl rfl ⟨rfl, rfl, trivial⟩ rfl ?_
    refine OpC.callH rfl rfl rfl rfl [0] rfl (hpk) rfl rfl rfl rfl ⟨rfl, trivial⟩ rfl ?_
    refine OpC.callV rfl rfl rfl rfl rfl rfl rfl (fun _ => hlc) ?_
    refine ⟨fun h => ?_, fun _ => ?_⟩
    · have h : (decide (e0 = 0) && (((!decide (p < c.ts.length)) || (!decide ((tkAt c.ts p).k = 1))) || decide (locI (tkAt c.ts p).s < 0))) = true := h
      rw [decide_eq_false he] at h; cases h
    refine ⟨fun _ => ?_, fun h => ?_⟩
    rotate_left
    · have h : (!decide (e0 = 0)) = false := h
      rw [decide_eq_false he] at h; cases h
    exact ⟨rfl, _, rfl⟩
theorem qbranch_w (hL : QL c) (hk : Qk c s) (i : In) (z : Bool) : Ctr Tryz.prog 113 [.ptr 1 1 0 [], .ptr 2 1 0 [], .b z] (hJ c s i) (fun r h => r = .s (brR c.L c.ts i z s).1.2 ∧ h = hJ c (brR c.L c.ts i z s).2 (brR c.L c.ts i z s).1.1) := by
  obtain ⟨op, dst, a, b, imm, loc, off, ix, sz, fn, acq, wk, rel, pr, su, to, ze⟩ := i
  unfold brR
  dsimp only
  refine Ctr.enterH tabOkF (fn := Tryz.f113) rfl rfl rfl rfl rfl rfl bndJ (Nat.le_refl _) ?_
  refine OpC.callH rfl rfl rfl rfl [0, 1] rfl (qreg_w hL hk) rfl rfl rfl rfl ⟨rfl, rfl, trivial⟩ rfl ?_
  refine OpC.callH rfl rfl rfl rfl [0, 1] rfl (qmark_w hk.reg [44]) rfl rfl rfl rfl ⟨rfl, rfl, trivial⟩ rfl ?_
  refine OpC.callH rfl rfl rfl rfl [0, 1] rfl (qlabel_w (hk.reg.mark [44])) rfl rfl rfl rfl ⟨rfl, rfl, trivial⟩ rfl ?_
  exact ⟨rfl, _, rfl⟩
set_option maxHeartbeats 1000000 in
theorem alu3_w (v : List UInt8) : CtrV Tryz.prog 105 [.i .i64 3, .s v] (.tup [.i .i64 (aluR [65, 68, 68] [83, 85, 66] [69, 79, 82] [65, 78, 68] [79, 82, 82] v), .b false]) := by
  refine Ctr.enterV tabOkF (fn := Tryz.f105) rfl rfl rfl rfl rfl rfl ?_
  refine ⟨fun h => no_ft h, fun _ => ?_⟩
  refine ⟨fun _ => ?_, fun h => no_tf h⟩
  refine WpC.loop tabOkF (β := Nat) (fun k => k ≤ 5 ∧ (0 < k → v ≠ [65, 68, 68]) ∧ (1 < k → v ≠ [83, 85, 66]) ∧ (2 < k → v ≠ [69, 79, 82]) ∧ (3 < k → v ≠ [65, 78, 68]) ∧ (4 < k → v ≠ [79, 82, 82])) (fun k => [(7, .i .i64 k)]) (fun _ => [strB [[65, 68, 68], [83, 85, 66], [88, 79, 82], [65, 78, 68], [79, 82]], strB [[65, 68, 68], [83, 85, 66], [69, 79, 82], [65, 78, 68], [79, 82, 82]]]) (fun k => 5 - k) 0 (2 ^ 40 - 1 - 3 - 2 ^ 6) ⟨by decide, fun h => absurd h (by decide), fun h => absurd h (by decide), fun h => absurd h (by decide), fun h => absurd h (by decide), fun h => absurd h (by decide)⟩ ?_ ?_
  · exact ⟨rfl, ⟨⟨rfl, rfl, rfl⟩, trivial⟩, ⟨[], rfl⟩, ⟨⟨rfl, rfl, rfl, rfl, rfl, trivial⟩, ⟨rfl, rfl, rfl, rfl, rfl, trivial⟩, trivial⟩, rfl⟩
  · rintro k ⟨hk, q0, q1, q2, q3, q4⟩
    rcases (by omega : k = 0 ∨ k = 1 ∨ k = 2 ∨ k = 3 ∨ k = 4 ∨ k = 5) with rfl | rfl | rfl | rfl | rfl | rfl
    · refine ⟨fun _ => ?_, fun h => no_tf h⟩
      refine ⟨fun _ => by decide, ?_⟩
      refine ⟨fun h => ?_, fun h => ?_⟩
      · have e : v = [65, 68, 68] := (of_decide_eq_true h : [65, 68, 68] = v).symm
        unfold aluR
        rw [if_pos e]
        rfl
      · have f0 : v ≠ [65, 68, 68] := fun hh => (of_decide_eq_false h : ¬ [65, 68, 68] = v) hh.symm
        refine ⟨fun _ => by decide, ?_⟩
        refine ⟨fun _ => by decide, ?_⟩
        refine ⟨fun h => no_ft h, fun _ => ?_⟩
        have e0 := f0
        exact ⟨1, ⟨by decide, fun _ => e0, fun h => absurd h (by decide), fun h => absurd h (by decide), fun h => absurd h (by decide), fun h => absurd h (by decide)⟩, by decide, rfl, ⟨⟨rfl, rfl, rfl⟩, trivial⟩, ⟨[], rfl⟩, ⟨⟨rfl, rfl, rfl, rfl, rfl, trivial⟩, ⟨rfl, rfl, rfl, rfl, rfl, trivial⟩, trivial⟩, rfl⟩
    · have e0 := q0 (by decide)
      refine ⟨fun _ => ?_, fun h => no_tf h⟩
      refine ⟨fun _ => by decide, ?_⟩
      refine ⟨fun h => ?_, fun h => ?_⟩
      · have e : v = [83, 85, 66] := (of_decide_eq_true h : [83, 85, 66] = v).symm
        unfold aluR
        rw [if_neg e0, if_pos e]
        rfl
      · have f1 : v ≠ [83, 85, 66] := fun hh => (of_decide_eq_false h : ¬ [83, 85, 66] = v) hh.symm
        refine ⟨fun _ => by decide, ?_⟩
        refine ⟨fun _ => by decide, ?_⟩
        refine ⟨fun h => no_ft h, fun _ => ?_⟩
        have e1 := f1
        exact ⟨2, ⟨by decide, fun _ => e0, fun _ => e1, fun h => absurd h (by decide), fun h => absurd h (by decide), fun h => absurd h (by decide)⟩, by decide, rfl, ⟨⟨rfl, rfl, rfl⟩, trivial⟩, ⟨[], rfl⟩, ⟨⟨rfl, rfl, rfl, rfl, rfl, trivial⟩, ⟨rfl, rfl, rfl, rfl, rfl, trivial⟩, trivial⟩, rfl⟩
    · have e0 := q0 (by decide)
      have e1 := q1 (by decide)
      refine ⟨fun _ => ?_, fun h => no_tf h⟩
      refine ⟨fun _ => by decide, ?_⟩
      refine ⟨fun h => ?_, fun h => ?_⟩
      · have e : v = [69, 79, 82] := (of_decide_eq_true h : [69, 79, 82] = v).symm
        unfold aluR
        rw [if_neg e0, if_neg e1, if_pos e]
        rfl
      · have f2 : v ≠ [69, 79, 82] := fun hh => (of_decide_eq_false h : ¬ [69, 79, 82] = v) hh.symm
        refine ⟨fun _ => by decide, ?_⟩
        refine ⟨fun _ => by decide, ?_⟩
        refine ⟨fun h => no_ft h, fun _ => ?_⟩
        have e2 := f2
        exact ⟨3, ⟨by decide, fun _ => e0, fun _ => e1, fun _ => e2, fun h => absurd h (by decide), fun h => absurd h (by decide)⟩, by decide, rfl, ⟨⟨rfl, rfl, rfl⟩, trivial⟩, ⟨[], rfl⟩, ⟨⟨rfl, rfl, rfl, rfl, rfl, trivial⟩, ⟨rfl, rfl, rfl, rfl, rfl, trivial⟩, trivial⟩, rfl⟩
    · have e0 := q0 (by decide)
      have e1 := q1 (by decide)
      have e2 := q2 (by decide)
      refine ⟨fun _ => ?_, fun h => no_tf h⟩
      refine ⟨fun _ => by decide, ?_⟩
      refine ⟨fun h => ?_, fun h => ?_⟩
      · have e : v = [65, 78, 68] := (of_decide_eq_true h : [65, 78, 68] = v).symm
        unfold aluR
        rw [if_neg e0, if_neg e1, if_neg e2, if_pos e]
        rfl
      · have f3 : v ≠ [65, 78, 68] := fun hh => (of_decide_eq_false h : ¬ [65, 78, 68] = v) hh.symm
        refine ⟨fun _ => by decide, ?_⟩
        refine ⟨fun _ => by decide, ?_⟩
        refine ⟨fun h => no_ft h, fun _ => ?_⟩
        have e3 := f3
        exact ⟨4, ⟨by decide, fun _ => e0, fun _ => e1, fun _ => e2, fun _ => e3, fun h => absurd h (by decide)⟩, by decide, rfl, ⟨⟨rfl, rfl, rfl⟩, trivial⟩, ⟨[], rfl⟩, ⟨⟨rfl, rfl, rfl, rfl, rfl, trivial⟩, ⟨rfl, rfl, rfl, rfl, rfl, trivial⟩, trivial⟩, rfl⟩
    · have e0 := q0 (by decide)
      have e1 := q1 (by decide)
      have e2 := q2 (by decide)
      have e3 := q3 (by decide)
      refine ⟨fun _ => ?_, fun h => no_tf h⟩
      refine ⟨fun _ => by decide, ?_⟩
      refine ⟨fun h => ?_, fun h => ?_⟩
      · have e : v = [79, 82, 82] := (of_decide_eq_true h : [79, 82, 82] = v).symm
        unfold aluR
        rw [if_neg e0, if_neg e1, if_neg e2, if_neg e3, if_pos e]
        rfl
      · have f4 : v ≠ [79, 82, 82] := fun hh => (of_decide_eq_false h : ¬ [79, 82, 82] = v) hh.symm
        refine ⟨fun _ => by decide, ?_⟩
        refine ⟨fun _ => by decide, ?_⟩
        refine ⟨fun h => no_ft h, fun _ => ?_⟩
        have e4 := f4
        exact ⟨5, ⟨by decide, fun _ => e0, fun _ => e1, fun _ => e2, fun _ => e3, fun _ => e4⟩, by decide, rfl, ⟨⟨rfl, rfl, rfl⟩, trivial⟩, ⟨[], rfl⟩, ⟨⟨rfl, rfl, rfl, rfl, rfl, trivial⟩, ⟨rfl, rfl, rfl, rfl, rfl, trivial⟩, trivial⟩, rfl⟩
    · have e0 := q0 (by decide)
      have e1 := q1 (by decide)
      have e2 := q2 (by decide)
      have e3 := q3 (by decide)
      have e4 := q4 (by decide)
      refine ⟨fun h => no_ft h, fun _ => ?_⟩
      unfold aluR
      rw [if_neg e0, if_neg e1, if_neg e2, if_neg e3, if_neg e4]
      rfl
set_option maxHeartbeats 1000000 in
theorem szd3_w (nm hd : List UInt8) (hn : nm.length ≤ 1000000) (hh : hd.length ≤ 1000000) : CtrV Tryz.prog 106 [.i .i64 3, .s nm, .s hd] (.i .i64 (szdF [66] [72] [87] [] nm hd)) := by
  refine Ctr.enterV tabOkF (fn := Tryz.f106) rfl rfl rfl rfl rfl rfl ?_
  refine ⟨fun hg => ?_, ?_⟩
  · have hg : (decide ((nm.length : Int) < (hd.length : Int)) == false) = true := hg
    have hg : ¬ (nm.length : Int) < (hd.length : Int) := by simpa using hg
    show (0 : Int) ≤ (hd.length : Int) ∧ (hd.length : Int) ≤ (nm.length : Int)
    omega
  have hpre : (decide ((nm.length : Int) < (hd.length : Int)) || (!decide ((nm.take (hd.length : Int).toNat).drop 0 = hd))) = !pre nm hd := by
    unfold pre
    rw [Int.toNat_natCast]
    by_cases h : (hd.length : Int) ≤ (nm.length : Int)
    · rw [decide_eq_true h, decide_eq_false (by omega)]; rfl
    · rw [decide_eq_false h, decide_eq_true (by omega)]; rfl
  unfold szdF
  refine ⟨fun h => ?_, fun h => ?_⟩
  · have h := hpre.symm.trans h
    rw [if_neg (by intro hh; rw [hh] at h; cases h)]
    exact rfl
  have h := hpre.symm.trans h
  have hp : pre nm hd = true := by simpa using h
  rw [if_pos hp]
  have hle : hd.length ≤ nm.length := pre_len hp
  have hob : (0 : Int) ≤ (hd.length : Int) ∧ (hd.length : Int) ≤ (nm.length : Int) := by omega
  have hW : ((nm.take nm.length).drop (hd.length : Int).toNat) = nm.drop hd.length := by rw [List.take_length]; rfl
  refine ⟨fun h => no_ft h, fun _ => ?_⟩
  refine ⟨fun _ => ?_, fun h => no_tf h⟩
  refine WpC.loop tabOkF (β := Nat) (fun k => k ≤ 4 ∧ (0 < k → nm.drop hd.length ≠ [66]) ∧ (1 < k → nm.drop hd.length ≠ [72]) ∧ (2 < k → nm.drop hd.length ≠ [87]) ∧ (3 < k → nm.drop hd.length ≠ [])) (fun k => [(8, .i .i64 k)]) (fun _ => [strB [[66], [87], [76], [81]], strB [[66], [72], [87], []]]) (fun k => 4 - k) 0 (2 ^ 44 - 1 - 7 - 2 ^ 7) ⟨by decide, fun h => absurd h (by decide), fun h => absurd h (by decide), fun h => absurd h (by decide), fun h => absurd h (by decide)⟩ ?_ ?_
  · exact ⟨rfl, ⟨⟨rfl, rfl, rfl⟩, trivial⟩, ⟨[], rfl⟩, ⟨⟨rfl, rfl, rfl, rfl, trivial⟩, ⟨rfl, rfl, rfl, rfl, trivial⟩, trivial⟩, rfl⟩
  · rintro k ⟨hk, q0, q1, q2, q3⟩
    rcases (by omega : k = 0 ∨ k = 1 ∨ k = 2 ∨ k = 3 ∨ k = 4) with rfl | rfl | rfl | rfl | rfl
    · refine ⟨fun _ => ?_, fun h => no_tf h⟩
      refine WpC.dr tabOkF mixed 0 ?_
      refine ⟨fun _ => hob, ?_⟩
      refine ⟨fun _ => by decide, ?_⟩
      refine ⟨by kernel_rfl, ?_⟩
      refine ⟨fun h => ?_, fun h => ?_⟩
      · have e : ((nm.take nm.length).drop (hd.length : Int).toNat) = [66] := of_decide_eq_true h
        rw [hW] at e
        refine ⟨fun _ => by decide, ?_⟩
        rw [if_pos e]
        rfl
      · have e0 : ¬ ((nm.take nm.length).drop (hd.length : Int).toNat) = [66] := of_decide_eq_false h
        rw [hW] at e0
        exact ⟨1, ⟨by decide, fun _ => e0, fun h => absurd h (by decide), fun h => absurd h (by decide), fun h => absurd h (by decide)⟩, by decide, rfl, ⟨⟨rfl, rfl, rfl⟩, trivial⟩, ⟨[], rfl⟩, ⟨⟨rfl, rfl, rfl, rfl, trivial⟩, ⟨rfl, rfl, rfl, rfl, trivial⟩, trivial⟩, rfl⟩
    · have e0 := q0 (by decide)
      refine ⟨fun _ => ?_, fun h => no_tf h⟩
      refine WpC.dr tabOkF mixed 0 ?_
      refine ⟨fun _ => hob, ?_⟩
      refine ⟨fun _ => by decide, ?_⟩
      refine ⟨by kernel_rfl, ?_⟩
      refine ⟨fun h => ?_, fun h => ?_⟩
      · have e : ((nm.take nm.length).drop (hd.length : Int).toNat) = [72] := of_decide_eq_true h
        rw [hW] at e
        refine ⟨fun _ => by decide, ?_⟩
        rw [if_neg e0, if_pos e]
        rfl
      · have e1 : ¬ ((nm.take nm.length).drop (hd.length : Int).toNat) = [72] := of_decide_eq_false h
        rw [hW] at e1
        exact ⟨2, ⟨by decide, fun _ => e0, fun _ => e1, fun h => absurd h (by decide), fun h => absurd h (by decide)⟩, by decide, rfl, ⟨⟨rfl, rfl, rfl⟩, trivial⟩, ⟨[], rfl⟩, ⟨⟨rfl, rfl, rfl, rfl, trivial⟩, ⟨rfl, rfl, rfl, rfl, trivial⟩, trivial⟩, rfl⟩
    · have e0 := q0 (by decide)
      have e1 := q1 (by decide)
      refine ⟨fun _ => ?_, fun h => no_tf h⟩
      refine WpC.dr tabOkF mixed 0 ?_
      refine ⟨fun _ => hob, ?_⟩
      refine ⟨fun _ => by decide, ?_⟩
      refine ⟨by kernel_rfl, ?_⟩
      refine ⟨fun h => ?_, fun h => ?_⟩
      · have e : ((nm.take nm.length).drop (hd.length : Int).toNat) = [87] := of_decide_eq_true h
        rw [hW] at e
        refine ⟨fun _ => by decide, ?_⟩
        rw [if_neg e0, if_neg e1, if_pos e]
        rfl
      · have e2 : ¬ ((nm.take nm.length).drop (hd.length : Int).toNat) = [87] := of_decide_eq_false h
        rw [hW] at e2
        exact ⟨3, ⟨by decide, fun _ => e0, fun _ => e1, fun _ => e2, fun h => absurd h (by decide)⟩, by decide, rfl, ⟨⟨rfl, rfl, rfl⟩, trivial⟩, ⟨[], rfl⟩, ⟨⟨rfl, rfl, rfl, rfl, trivial⟩, ⟨rfl, rfl, rfl, rfl, trivial⟩, trivial⟩, rfl⟩
    · have e0 := q0 (by decide)
      have e1 := q1 (by decide)
      have e2 := q2 (by decide)
      refine ⟨fun _ => ?_, fun h => no_tf h⟩
      refine WpC.dr tabOkF mixed 0 ?_
      refine ⟨fun _ => hob, ?_⟩
      refine ⟨fun _ => by decide, ?_⟩
      refine ⟨by kernel_rfl, ?_⟩
      refine ⟨fun h => ?_, fun h => ?_⟩
      · have e : ((nm.take nm.length).drop (hd.length : Int).toNat) = [] := of_decide_eq_true h
        rw [hW] at e
        refine ⟨fun _ => by decide, ?_⟩
        rw [if_neg e0, if_neg e1, if_neg e2, if_pos e]
        rfl
      · have e3 : ¬ ((nm.take nm.length).drop (hd.length : Int).toNat) = [] := of_decide_eq_false h
        rw [hW] at e3
        exact ⟨4, ⟨by decide, fun _ => e0, fun _ => e1, fun _ => e2, fun _ => e3⟩, by decide, rfl, ⟨⟨rfl, rfl, rfl⟩, trivial⟩, ⟨[], rfl⟩, ⟨⟨rfl, rfl, rfl, rfl, trivial⟩, ⟨rfl, rfl, rfl, rfl, trivial⟩, trivial⟩, rfl⟩
    · have e0 := q0 (by decide)
      have e1 := q1 (by decide)
      have e2 := q2 (by decide)
      have e3 := q3 (by decide)
      refine ⟨fun h => no_ft h, fun _ => ?_⟩
      rw [if_neg e0, if_neg e1, if_neg e2, if_neg e3]
      rfl
end SX
end Go.Proofs.YthkedcneehdinaaGreatDoor

/- The reference's x86, Parse. Written by qwd.py. -/
set_option linter.unusedVariables false
set_option maxRecDepth 100000
namespace Go.Proofs.YthkedcneehdinaaGreatDoor
namespace SX
open Go Go.Proofs
variable {c : Qc} {s : RS}
def QReadOk (rdF : List Tk → List UInt8 → RS → Rd × RS) (L : Lg) (a : Int) (f : Nat) : Prop :=
  ∀ (c : Qc) (s : RS) (nm : List UInt8), c.L = L → c.a = a → QL c → Qk c s → nm.length ≤ 100000 → Ctr Tryz.prog f [.ptr 1 1 0 [], .s nm, .ptr 2 1 0 []] (hJ c s blkI) (fun r h => r = .tup [.b (rdF c.ts nm s).1.known, .s (rdF c.ts nm s).1.lb] ∧ h = hJ c (rdF c.ts nm s).2 (rdF c.ts nm s).1.i)
def QReadRk (rdF : List Tk → List UInt8 → RS → Rd × RS) (L : Lg) : Prop := ∀ (c : Qc) (s : RS) (nm : List UInt8), c.L = L → Qk c s → Qk c (rdF c.ts nm s).2
def prV5r (p : Pr) : SV := .tup [.agg (ienc p.i), .s p.lb, .i .i64 p.e, .i .i64 p.q]
theorem blank_w : CtrV Tryz.prog 60 [] (.agg (ienc blkI)) := by
  refine Ctr.enterV tabOkF (fn := Tryz.f60) rfl rfl rfl rfl rfl rfl ?_
  exact rfl
theorem prV5r_ok (p : Pr) : nm (prV5r p) = true := rfl
end SX
end Go.Proofs.YthkedcneehdinaaGreatDoor

/- The reference's riscv. Written by qwe.py. -/
set_option linter.unusedVariables false
set_option maxRecDepth 100000
namespace Go.Proofs.YthkedcneehdinaaGreatDoor
namespace SX
open Go Go.Proofs
variable {c : Qc} {s : RS}
end SX
end Go.Proofs.YthkedcneehdinaaGreatDoor

/- The reference's arm. Written by qwg.py. -/
set_option linter.unusedVariables false
set_option maxRecDepth 100000
namespace Go.Proofs.YthkedcneehdinaaGreatDoor
namespace SX
open Go Go.Proofs
variable {c : Qc} {s : RS}
set_option maxHeartbeats 2000000 in
theorem order_w (nm hd : List UInt8) (hn : nm.length ≤ 1000000) (hh : hd.length ≤ 1000) : CtrV Tryz.prog 117 [.s nm, .s hd] (.tup [.i .i64 (ordR nm hd).1, .b (ordR nm hd).2.1, .b (ordR nm hd).2.2]) := by
  have z0 := szd3_w nm (hd ++ []) hn (by rw [List.length_append]; show hd.length + 0 ≤ 1000000; omega)
  have z1 := szd3_w nm (hd ++ [65]) hn (by rw [List.length_append]; show hd.length + 1 ≤ 1000000; omega)
  have z2 := szd3_w nm (hd ++ [76]) hn (by rw [List.length_append]; show hd.length + 1 ≤ 1000000; omega)
  have z3 := szd3_w nm (hd ++ [65, 76]) hn (by rw [List.length_append]; show hd.length + 2 ≤ 1000000; omega)
  have e0 : ordR nm hd = if 0 < szdF [66] [72] [87] [] nm (hd ++ []) then (szdF [66] [72] [87] [] nm (hd ++ []), false, false) else if 0 < szdF [66] [72] [87] [] nm (hd ++ [65]) then (szdF [66] [72] [87] [] nm (hd ++ [65]), true, false) else if 0 < szdF [66] [72] [87] [] nm (hd ++ [76]) then (szdF [66] [72] [87] [] nm (hd ++ [76]), false, true) else if 0 < szdF [66] [72] [87] [] nm (hd ++ [65, 76]) then (szdF [66] [72] [87] [] nm (hd ++ [65, 76]), true, true) else (0, false, false) := by rw [List.append_nil]; rfl
  rw [e0]
  generalize szdF [66] [72] [87] [] nm (hd ++ []) = x0 at *
  generalize szdF [66] [72] [87] [] nm (hd ++ [65]) = x1 at *
  generalize szdF [66] [72] [87] [] nm (hd ++ [76]) = x2 at *
  generalize szdF [66] [72] [87] [] nm (hd ++ [65, 76]) = x3 at *
  clear e0
  refine Ctr.enterV tabOkF (fn := Tryz.f117) rfl rfl rfl rfl rfl rfl ?_
  refine WpC.loop tabOkF (β := Nat) (fun k => k ≤ 4 ∧ (0 < k → ¬ 0 < x0) ∧ (1 < k → ¬ 0 < x1) ∧ (2 < k → ¬ 0 < x2) ∧ (3 < k → ¬ 0 < x3)) (fun k => [(8, .i .i64 k)]) (fun _ => [strB [[], [65], [76], [65, 76]]]) (fun k => 4 - k) 0 (2 ^ 34 - 1 - 2 ^ 0 - 2 ^ 1 - 2 ^ 7) ⟨by decide, fun h => absurd h (by decide), fun h => absurd h (by decide), fun h => absurd h (by decide), fun h => absurd h (by decide)⟩ ?_ ?_
  · exact ⟨rfl, ⟨⟨rfl, rfl, rfl⟩, trivial⟩, ⟨[], rfl⟩, ⟨⟨rfl, rfl, rfl, rfl, trivial⟩, trivial⟩, rfl⟩
  · rintro k ⟨hk, p0, p1, p2, p3⟩
    rcases (by omega : k = 0 ∨ k = 1 ∨ k = 2 ∨ k = 3 ∨ k = 4) with rfl | rfl | rfl | rfl | rfl
    · refine ⟨fun _ => ?_, fun h => no_tf h⟩
      refine ⟨fun _ => by decide, ?_⟩
      refine ⟨fun _ => ?_, ?_⟩
      · show hd.length + 0 ≤ 9223372036854775807
        omega
      refine OpC.callV rfl rfl rfl rfl rfl rfl rfl (fun _ => z0) ?_
      refine ⟨fun h => ?_, fun h => ?_⟩
      · have q0 : 0 < x0 := of_decide_eq_true h
        rw [if_pos q0]
        exact rfl
      · have q0 : ¬ 0 < x0 := of_decide_eq_false h
        exact ⟨1, ⟨by decide, fun _ => q0, fun h => absurd h (by decide), fun h => absurd h (by decide), fun h => absurd h (by decide)⟩, by decide, rfl, ⟨⟨rfl, rfl, rfl⟩, trivial⟩, ⟨[], rfl⟩, ⟨⟨rfl, rfl, rfl, rfl, trivial⟩, trivial⟩, rfl⟩
    · have q0 := p0 (by decide)
      refine ⟨fun _ => ?_, fun h => no_tf h⟩
      refine ⟨fun _ => by decide, ?_⟩
      refine ⟨fun _ => ?_, ?_⟩
      · show hd.length + 1 ≤ 9223372036854775807
        omega
      refine OpC.callV rfl rfl rfl rfl rfl rfl rfl (fun _ => z1) ?_
      refine ⟨fun h => ?_, fun h => ?_⟩
      · have q1 : 0 < x1 := of_decide_eq_true h
        rw [if_neg q0]
        rw [if_pos q1]
        exact rfl
      · have q1 : ¬ 0 < x1 := of_decide_eq_false h
        exact ⟨2, ⟨by decide, fun _ => q0, fun _ => q1, fun h => absurd h (by decide), fun h => absurd h (by decide)⟩, by decide, rfl, ⟨⟨rfl, rfl, rfl⟩, trivial⟩, ⟨[], rfl⟩, ⟨⟨rfl, rfl, rfl, rfl, trivial⟩, trivial⟩, rfl⟩
    · have q0 := p0 (by decide)
      have q1 := p1 (by decide)
      refine ⟨fun _ => ?_, fun h => no_tf h⟩
      refine ⟨fun _ => by decide, ?_⟩
      refine ⟨fun _ => ?_, ?_⟩
      · show hd.length + 1 ≤ 9223372036854775807
        omega
      refine OpC.callV rfl rfl rfl rfl rfl rfl rfl (fun _ => z2) ?_
      refine ⟨fun h => ?_, fun h => ?_⟩
      · have q2 : 0 < x2 := of_decide_eq_true h
        rw [if_neg q0]
        rw [if_neg q1]
        rw [if_pos q2]
        exact rfl
      · have q2 : ¬ 0 < x2 := of_decide_eq_false h
        exact ⟨3, ⟨by decide, fun _ => q0, fun _ => q1, fun _ => q2, fun h => absurd h (by decide)⟩, by decide, rfl, ⟨⟨rfl, rfl, rfl⟩, trivial⟩, ⟨[], rfl⟩, ⟨⟨rfl, rfl, rfl, rfl, trivial⟩, trivial⟩, rfl⟩
    · have q0 := p0 (by decide)
      have q1 := p1 (by decide)
      have q2 := p2 (by decide)
      refine ⟨fun _ => ?_, fun h => no_tf h⟩
      refine ⟨fun _ => by decide, ?_⟩
      refine ⟨fun _ => ?_, ?_⟩
      · show hd.length + 2 ≤ 9223372036854775807
        omega
      refine OpC.callV rfl rfl rfl rfl rfl rfl rfl (fun _ => z3) ?_
      refine ⟨fun h => ?_, fun h => ?_⟩
      · have q3 : 0 < x3 := of_decide_eq_true h
        rw [if_neg q0]
        rw [if_neg q1]
        rw [if_neg q2]
        rw [if_pos q3]
        exact rfl
      · have q3 : ¬ 0 < x3 := of_decide_eq_false h
        exact ⟨4, ⟨by decide, fun _ => q0, fun _ => q1, fun _ => q2, fun _ => q3⟩, by decide, rfl, ⟨⟨rfl, rfl, rfl⟩, trivial⟩, ⟨[], rfl⟩, ⟨⟨rfl, rfl, rfl, rfl, trivial⟩, trivial⟩, rfl⟩
    · have q0 := p0 (by decide)
      have q1 := p1 (by decide)
      have q2 := p2 (by decide)
      have q3 := p3 (by decide)
      refine ⟨fun h => no_ft h, fun _ => ?_⟩
      rw [if_neg q0, if_neg q1, if_neg q2, if_neg q3]
      exact rfl
theorem Qk.bar (h : Qk c s) : Qk c (barR c.ts s).2 := by
  unfold barR
  split
  · rename_i hk; exact h.go (at_lt (by rw [hk.1]; decide))
  split
  · rename_i hk; exact h.go (at_lt (by rw [hk.1]; decide))
  split
  · rename_i hk; exact h.go (at_lt (by rw [hk.1]; decide))
  · exact h.odd _
set_option maxHeartbeats 4000000 in
theorem qbar_w (hk : Qk c s) (i : In) : Ctr Tryz.prog 118 [.ptr 1 1 0 [], .ptr 2 1 0 []] (hJ c s i) (fun r h => r = .tup [] ∧ h = hJ c (barR c.ts s).2 { i with pr := (barR c.ts s).1.1, su := (barR c.ts s).1.2 }) := by
  obtain ⟨op, dst, a, b, imm, loc, off, ix, sz, fn, acq, wk, rel, pr, su, to, ze⟩ := i
  obtain ⟨p, e0, q0⟩ := s
  have hpk := wpeek_ok (ad := c.ad) (cap := c.cap) hk.p
  unfold barR
  dsimp only at hpk ⊢
  by_cases h1 : (tkAt c.ts p).k = 1
  · have hlt := at_lt (ts := c.ts) (p := p) (by rw [h1]; decide)
    by_cases b0 : (tkAt c.ts p).s = [83, 89]
    · rw [if_pos ⟨h1, b0⟩]
      refine Ctr.enterH tabOkF (fn := Tryz.f118) rfl rfl rfl rfl rfl rfl bndJ (Nat.le_refl _) ?_
      refine OpC.callH rfl rfl rfl rfl [0] rfl (hpk) rfl rfl rfl rfl ⟨rfl, trivial⟩ rfl ?_
      refine ⟨fun _ => ?_, fun h => ?_⟩
      rotate_left
      · have h : (decide (p < c.ts.length) && decide ((tkAt c.ts p).k = 1) && decide ((tkAt c.ts p).s = [83, 89])) = false := h
        rw [decide_eq_true hlt, decide_eq_true h1, decide_eq_true b0] at h; cases h
      refine OpC.callH rfl rfl rfl rfl [0] rfl (wnext_ok (ad := c.ad) (cap := c.cap) hlt hk.l) rfl rfl rfl rfl ⟨rfl, trivial⟩ rfl ?_
      exact ⟨rfl, _, rfl⟩
    by_cases b1 : (tkAt c.ts p).s = [76, 68]
    · rw [if_neg (fun hh => b0 hh.2)]
      rw [if_pos ⟨h1, b1⟩]
      refine Ctr.enterH tabOkF (fn := Tryz.f118) rfl rfl rfl rfl rfl rfl bndJ (Nat.le_refl _) ?_
      refine OpC.callH rfl rfl rfl rfl [0] rfl (hpk) rfl rfl rfl rfl ⟨rfl, trivial⟩ rfl ?_
      refine ⟨fun h => ?_, fun _ => ?_⟩
      · have h : (decide (p < c.ts.length) && decide ((tkAt c.ts p).k = 1) && decide ((tkAt c.ts p).s = [83, 89])) = true := h
        rw [decide_eq_false b0, Bool.and_false] at h; cases h
      refine ⟨fun _ => ?_, fun h => ?_⟩
      rotate_left
      · have h : (decide (p < c.ts.length) && decide ((tkAt c.ts p).k = 1) && decide ((tkAt c.ts p).s = [76, 68])) = false := h
        rw [decide_eq_true hlt, decide_eq_true h1, decide_eq_true b1] at h; cases h
      refine OpC.callH rfl rfl rfl rfl [0] rfl (wnext_ok (ad := c.ad) (cap := c.cap) hlt hk.l) rfl rfl rfl rfl ⟨rfl, trivial⟩ rfl ?_
      exact ⟨rfl, _, rfl⟩
    by_cases b2 : (tkAt c.ts p).s = [83, 84]
    · rw [if_neg (fun hh => b0 hh.2)]
      rw [if_neg (fun hh => b1 hh.2)]
      rw [if_pos ⟨h1, b2⟩]
      refine Ctr.enterH tabOkF (fn := Tryz.f118) rfl rfl rfl rfl rfl rfl bndJ (Nat.le_refl _) ?_
      refine OpC.callH rfl rfl rfl rfl [0] rfl (hpk) rfl rfl rfl rfl ⟨rfl, trivial⟩ rfl ?_
      refine ⟨fun h => ?_, fun _ => ?_⟩
      · have h : (decide (p < c.ts.length) && decide ((tkAt c.ts p).k = 1) && decide ((tkAt c.ts p).s = [83, 89])) = true := h
        rw [decide_eq_false b0, Bool.and_false] at h; cases h
      refine ⟨fun h => ?_, fun _ => ?_⟩
      · have h : (decide (p < c.ts.length) && decide ((tkAt c.ts p).k = 1) && decide ((tkAt c.ts p).s = [76, 68])) = true := h
        rw [decide_eq_false b1, Bool.and_false] at h; cases h
      refine ⟨fun _ => ?_, fun h => ?_⟩
      rotate_left
      · have h : (decide (p < c.ts.length) && decide ((tkAt c.ts p).k = 1) && decide ((tkAt c.ts p).s = [83, 84])) = false := h
        rw [decide_eq_true hlt, decide_eq_true h1, decide_eq_true b2] at h; cases h
      refine OpC.callH rfl rfl rfl rfl [0] rfl (wnext_ok (ad := c.ad) (cap := c.cap) hlt hk.l) rfl rfl rfl rfl ⟨rfl, trivial⟩ rfl ?_
      exact ⟨rfl, _, rfl⟩
    rw [if_neg (fun hh => b0 hh.2), if_neg (fun hh => b1 hh.2), if_neg (fun hh => b2 hh.2)]
    refine Ctr.enterH tabOkF (fn := Tryz.f118) rfl rfl rfl rfl rfl rfl bndJ (Nat.le_refl _) ?_
    refine OpC.callH rfl rfl rfl rfl [0] rfl (hpk) rfl rfl rfl rfl ⟨rfl, trivial⟩ rfl ?_
    refine ⟨fun h => ?_, fun _ => ?_⟩
    · have h : (decide (p < c.ts.length) && decide ((tkAt c.ts p).k = 1) && decide ((tkAt c.ts p).s = [83, 89])) = true := h
      rw [decide_eq_false b0, Bool.and_false] at h; cases h
    refine ⟨fun h => ?_, fun _ => ?_⟩
    · have h : (decide (p < c.ts.length) && decide ((tkAt c.ts p).k = 1) && decide ((tkAt c.ts p).s = [76, 68])) = true := h
      rw [decide_eq_false b1, Bool.and_false] at h; cases h
    refine ⟨fun h => ?_, fun _ => ?_⟩
    · have h : (decide (p < c.ts.length) && decide ((tkAt c.ts p).k = 1) && decide ((tkAt c.ts p).s = [83, 84])) = true := h
      rw [decide_eq_false b2, Bool.and_false] at h; cases h
    refine OpC.callH rfl rfl rfl rfl [0, 1] rfl (qodd_ok (s := ⟨p, e0, q0⟩) hk true) rfl rfl rfl rfl ⟨rfl, rfl, trivial⟩ rfl ?_
    exact ⟨rfl, _, rfl⟩
  · rw [if_neg (fun hh => h1 hh.1), if_neg (fun hh => h1 hh.1), if_neg (fun hh => h1 hh.1)]
    refine Ctr.enterH tabOkF (fn := Tryz.f118) rfl rfl rfl rfl rfl rfl bndJ (Nat.le_refl _) ?_
    refine OpC.callH rfl rfl rfl rfl [0] rfl (hpk) rfl rfl rfl rfl ⟨rfl, trivial⟩ rfl ?_
    refine ⟨fun h => ?_, fun _ => ?_⟩
    · have h : (decide (p < c.ts.length) && decide ((tkAt c.ts p).k = 1) && decide ((tkAt c.ts p).s = [83, 89])) = true := h
      rw [decide_eq_false h1, Bool.and_false, Bool.false_and] at h; cases h
    refine ⟨fun h => ?_, fun _ => ?_⟩
    · have h : (decide (p < c.ts.length) && decide ((tkAt c.ts p).k = 1) && decide ((tkAt c.ts p).s = [76, 68])) = true := h
      rw [decide_eq_false h1, Bool.and_false, Bool.false_and] at h; cases h
    refine ⟨fun h => ?_, fun _ => ?_⟩
    · have h : (decide (p < c.ts.length) && decide ((tkAt c.ts p).k = 1) && decide ((tkAt c.ts p).s = [83, 84])) = true := h
      rw [decide_eq_false h1, Bool.and_false, Bool.false_and] at h; cases h
    refine OpC.callH rfl rfl rfl rfl [0, 1] rfl (qodd_ok (s := ⟨p, e0, q0⟩) hk true) rfl rfl rfl rfl ⟨rfl, rfl, trivial⟩ rfl ?_
    exact ⟨rfl, _, rfl⟩
theorem qthree2_w (hL : QL c) (hk : Qk c s) (i : In) : Ctr Tryz.prog 115 [.ptr 1 1 0 [], .ptr 2 1 2 [], .ptr 2 1 1 [], .ptr 2 1 0 []] (hJ c s i)
    (fun r h => r = .tup [] ∧ h = hJ c (memR c.L c.ts { i with a := (regR c.L c.ts s).1, dst := (regR c.L c.ts (markR c.ts [44] (regR c.L c.ts s).2)).1 } (markR c.ts [44] (regR c.L c.ts (markR c.ts [44] (regR c.L c.ts s).2)).2)).2 (memR c.L c.ts { i with a := (regR c.L c.ts s).1, dst := (regR c.L c.ts (markR c.ts [44] (regR c.L c.ts s).2)).1 } (markR c.ts [44] (regR c.L c.ts (markR c.ts [44] (regR c.L c.ts s).2)).2)).1) := by
  obtain ⟨op, dst, a, b, imm, loc, off, ix, sz, fn, acq, wk, rel, pr, su, to, ze⟩ := i
  have hr := hk.reg
  have hm := hr.mark [44]
  have hr2 := hm.reg
  have hm2 := hr2.mark [44]
  refine Ctr.enterH tabOkF (fn := Tryz.f115) rfl rfl rfl rfl rfl rfl bndJ (Nat.le_refl _) ?_
  refine OpC.callH rfl rfl rfl rfl [0, 1] rfl (qreg_w hL hk) rfl rfl rfl rfl ⟨rfl, rfl, trivial⟩ rfl ?_
  refine OpC.callH rfl rfl rfl rfl [0, 1] rfl (qmark_w hr [44]) rfl rfl rfl rfl ⟨rfl, rfl, trivial⟩ rfl ?_
  refine OpC.callH rfl rfl rfl rfl [0, 1] rfl (qreg_w hL hm) rfl rfl rfl rfl ⟨rfl, rfl, trivial⟩ rfl ?_
  refine OpC.callH rfl rfl rfl rfl [0, 1] rfl (qmark_w hr2 [44]) rfl rfl rfl rfl ⟨rfl, rfl, trivial⟩ rfl ?_
  refine OpC.callH rfl rfl rfl rfl [0, 1, 2] rfl (qmem_w hL hm2 ⟨op, (regR c.L c.ts (markR c.ts [44] (regR c.L c.ts s).2)).1, (regR c.L c.ts s).1, b, imm, loc, off, ix, sz, fn, acq, wk, rel, pr, su, to, ze⟩) rfl rfl rfl rfl ⟨rfl, rfl, rfl, trivial⟩ rfl ?_
  exact ⟨rfl, _, rfl⟩
theorem qarm_rk : QReadRk readAR lgA := by
  rintro ⟨a, L, ts, ad, cap⟩ s nm hL hk
  dsimp only at hL
  subst hL
  have hr := hk.reg
  have hm := hr.mark [44]
  have hm2 := hm.reg.mark [44]
  unfold readAR
  dsimp only
  repeat' split
  all_goals first
    | exact hk
    | exact hm.imm
    | exact hm.reg
    | exact hm2.imm
    | exact hm2.reg
    | exact hm.lab
    | exact hm.mem _
    | exact hm2.mem _
    | exact hk.bar
theorem szdA_8 (nm hd : List UInt8) : 0 ≤ szdA nm hd ∧ szdA nm hd ≤ 8 := by
  unfold szdA szdF
  repeat' split
  all_goals decide
theorem ordR_8 (nm hd : List UInt8) : 0 ≤ (ordR nm hd).1 ∧ (ordR nm hd).1 ≤ 8 := by
  unfold ordR
  repeat' split
  all_goals first | exact szdA_8 _ _ | decide
set_option maxHeartbeats 8000000 in
theorem qarm_read : QReadOk readAR lgA 3 63 := by
  rintro ⟨a, L, ts, ad, cap⟩ s nm hL ha hQ hk hn
  dsimp only at hL ha
  subst hL ha
  have hal := alu3_w nm
  have hz1 := szd3_w nm [76, 68, 82] (by omega) (by decide)
  have hz2 := szd3_w nm [76, 68, 65, 82] (by omega) (by decide)
  have hz3 := szd3_w nm [76, 68, 65, 80, 82] (by omega) (by decide)
  have hz4 := szd3_w nm [83, 84, 82] (by omega) (by decide)
  have hz5 := szd3_w nm [83, 84, 76, 82] (by omega) (by decide)
  have ho1 := order_w nm [83, 87, 80] (by omega) (by decide)
  have ho2 := order_w nm [76, 68, 65, 68, 68] (by omega) (by decide)
  have k1 := szdA_8 nm [76, 68, 82]
  have k2 := szdA_8 nm [76, 68, 65, 82]
  have k3 := szdA_8 nm [76, 68, 65, 80, 82]
  have k4 := szdA_8 nm [83, 84, 82]
  have k5 := szdA_8 nm [83, 84, 76, 82]
  have k6 := ordR_8 nm [83, 87, 80]
  have k7 := ordR_8 nm [76, 68, 65, 68, 68]
  unfold readAR
  dsimp only
  rw [show szdF [66] [72] [87] [] nm [76, 68, 82] = szdA nm [76, 68, 82] from rfl] at hz1
  rw [show szdF [66] [72] [87] [] nm [76, 68, 65, 82] = szdA nm [76, 68, 65, 82] from rfl] at hz2
  rw [show szdF [66] [72] [87] [] nm [76, 68, 65, 80, 82] = szdA nm [76, 68, 65, 80, 82] from rfl] at hz3
  rw [show szdF [66] [72] [87] [] nm [83, 84, 82] = szdA nm [83, 84, 82] from rfl] at hz4
  rw [show szdF [66] [72] [87] [] nm [83, 84, 76, 82] = szdA nm [83, 84, 76, 82] from rfl] at hz5
  generalize aluR [65, 68, 68] [83, 85, 66] [69, 79, 82] [65, 78, 68] [79, 82, 82] nm = fn at *
  generalize szdA nm [76, 68, 82] = ld at *
  generalize szdA nm [76, 68, 65, 82] = aq at *
  generalize szdA nm [76, 68, 65, 80, 82] = wk at *
  generalize szdA nm [83, 84, 82] = st at *
  generalize szdA nm [83, 84, 76, 82] = rl at *
  generalize ordR nm [83, 87, 80] = sw at *
  generalize ordR nm [76, 68, 65, 68, 68] = dd at *
  obtain ⟨sw, sa, sl⟩ := sw
  obtain ⟨dd, da, dl⟩ := dd
  dsimp only at ho1 ho2 k6 k7 ⊢
  have u1 : IntKind.i64.wrap (ld + aq) = ld + aq := w64 (by omega) (by omega)
  have u2 : IntKind.i64.wrap (IntKind.i64.wrap (ld + aq) + wk) = ld + aq + wk := by rw [u1]; exact w64 (by omega) (by omega)
  have u3 : IntKind.i64.wrap (st + rl) = st + rl := w64 (by omega) (by omega)
  have u4 : IntKind.i64.wrap (sw + dd) = sw + dd := w64 (by omega) (by omega)
  rw [← u2, ← u3, ← u4]
  have hr := hk.reg
  have hm := hr.mark [44]
  have hr2 := hm.reg
  have hm2 := hr2.mark [44]
  by_cases h1 : nm = [77, 79, 86]
  · rw [if_pos h1]
    have his := qisImm_w hQ hm
    cases hb : isImm lgA ts (markR ts [44] (regR lgA ts s).2) with
    | true =>
      rw [hb] at his
      rw [if_pos rfl]
      refine Ctr.enterH tabOkF (fn := Tryz.f63) rfl rfl rfl rfl rfl rfl bndJ (Nat.le_refl _) ?_
      refine OpC.callV rfl rfl rfl rfl rfl rfl rfl (fun _ => hal) ?_
      refine OpC.callV rfl rfl rfl rfl rfl rfl rfl (fun _ => hz1) ?_
      refine OpC.callV rfl rfl rfl rfl rfl rfl rfl (fun _ => hz2) ?_
      refine OpC.callV rfl rfl rfl rfl rfl rfl rfl (fun _ => hz3) ?_
      refine OpC.callV rfl rfl rfl rfl rfl rfl rfl (fun _ => hz4) ?_
      refine OpC.callV rfl rfl rfl rfl rfl rfl rfl (fun _ => hz5) ?_
      refine OpC.callV rfl rfl rfl rfl rfl rfl rfl (fun _ => ho1) ?_
      refine OpC.callV rfl rfl rfl rfl rfl rfl rfl (fun _ => ho2) ?_
      refine ⟨fun _ => ?_, fun h => ?_⟩
      rotate_left
      · have h : (decide (nm = [77, 79, 86])) = false := h
        rw [decide_eq_true h1] at h; cases h
      refine OpC.callH rfl rfl rfl rfl [0, 1] rfl (qreg_w hQ hk) rfl rfl rfl rfl ⟨rfl, rfl, trivial⟩ rfl ?_
      refine OpC.callH rfl rfl rfl rfl [0, 1] rfl (qmark_w hr [44]) rfl rfl rfl rfl ⟨rfl, rfl, trivial⟩ rfl ?_
      refine OpC.callH rfl rfl rfl rfl [0, 1] rfl (his) rfl rfl rfl rfl ⟨rfl, rfl, trivial⟩ rfl ?_
      refine ⟨fun _ => ?_, fun h => no_tf h⟩
      refine OpC.callH rfl rfl rfl rfl [0, 1] rfl (qimm_w hQ hm) rfl rfl rfl rfl ⟨rfl, rfl, trivial⟩ rfl ?_
      exact ⟨rfl, _, rfl⟩
    | false =>
      rw [hb] at his
      rw [if_neg (by decide)]
      refine Ctr.enterH tabOkF (fn := Tryz.f63) rfl rfl rfl rfl rfl rfl bndJ (Nat.le_refl _) ?_
      refine OpC.callV rfl rfl rfl rfl rfl rfl rfl (fun _ => hal) ?_
      refine OpC.callV rfl rfl rfl rfl rfl rfl rfl (fun _ => hz1) ?_
      refine OpC.callV rfl rfl rfl rfl rfl rfl rfl (fun _ => hz2) ?_
      refine OpC.callV rfl rfl rfl rfl rfl rfl rfl (fun _ => hz3) ?_
      refine OpC.callV rfl rfl rfl rfl rfl rfl rfl (fun _ => hz4) ?_
      refine OpC.callV rfl rfl rfl rfl rfl rfl rfl (fun _ => hz5) ?_
      refine OpC.callV rfl rfl rfl rfl rfl rfl rfl (fun _ => ho1) ?_
      refine OpC.callV rfl rfl rfl rfl rfl rfl rfl (fun _ => ho2) ?_
      refine ⟨fun _ => ?_, fun h => ?_⟩
      rotate_left
      · have h : (decide (nm = [77, 79, 86])) = false := h
        rw [decide_eq_true h1] at h; cases h
      refine OpC.callH rfl rfl rfl rfl [0, 1] rfl (qreg_w hQ hk) rfl rfl rfl rfl ⟨rfl, rfl, trivial⟩ rfl ?_
      refine OpC.callH rfl rfl rfl rfl [0, 1] rfl (qmark_w hr [44]) rfl rfl rfl rfl ⟨rfl, rfl, trivial⟩ rfl ?_
      refine OpC.callH rfl rfl rfl rfl [0, 1] rfl (his) rfl rfl rfl rfl ⟨rfl, rfl, trivial⟩ rfl ?_
      refine ⟨fun h => no_ft h, fun _ => ?_⟩
      refine OpC.callH rfl rfl rfl rfl [0, 1] rfl (qreg_w hQ hm) rfl rfl rfl rfl ⟨rfl, rfl, trivial⟩ rfl ?_
      exact ⟨rfl, _, rfl⟩
  rw [if_neg h1]
  by_cases h2 : 0 < fn
  · rw [if_pos h2]
    have his := qisImm_w hQ hm2
    cases hb : isImm lgA ts (markR ts [44] (regR lgA ts (markR ts [44] (regR lgA ts s).2)).2) with
    | true =>
      rw [hb] at his
      rw [if_pos rfl]
      refine Ctr.enterH tabOkF (fn := Tryz.f63) rfl rfl rfl rfl rfl rfl bndJ (Nat.le_refl _) ?_
      refine OpC.callV rfl rfl rfl rfl rfl rfl rfl (fun _ => hal) ?_
      refine OpC.callV rfl rfl rfl rfl rfl rfl rfl (fun _ => hz1) ?_
      refine OpC.callV rfl rfl rfl rfl rfl rfl rfl (fun _ => hz2) ?_
      refine OpC.callV rfl rfl rfl rfl rfl rfl rfl (fun _ => hz3) ?_
      refine OpC.callV rfl rfl rfl rfl rfl rfl rfl (fun _ => hz4) ?_
      refine OpC.callV rfl rfl rfl rfl rfl rfl rfl (fun _ => hz5) ?_
      refine OpC.callV rfl rfl rfl rfl rfl rfl rfl (fun _ => ho1) ?_
      refine OpC.callV rfl rfl rfl rfl rfl rfl rfl (fun _ => ho2) ?_
      refine ⟨fun h => ?_, fun _ => ?_⟩
      · have h : (decide (nm = [77, 79, 86])) = true := h
        rw [decide_eq_false h1] at h; cases h
      refine ⟨fun _ => ?_, fun h => ?_⟩
      rotate_left
      · have h : (decide ((0 : Int) < fn)) = false := h
        rw [decide_eq_true h2] at h; cases h
      refine OpC.callH rfl rfl rfl rfl [0, 1] rfl (qreg_w hQ hk) rfl rfl rfl rfl ⟨rfl, rfl, trivial⟩ rfl ?_
      refine OpC.callH rfl rfl rfl rfl [0, 1] rfl (qmark_w hr [44]) rfl rfl rfl rfl ⟨rfl, rfl, trivial⟩ rfl ?_
      refine OpC.callH rfl rfl rfl rfl [0, 1] rfl (qreg_w hQ hm) rfl rfl rfl rfl ⟨rfl, rfl, trivial⟩ rfl ?_
      refine OpC.callH rfl rfl rfl rfl [0, 1] rfl (qmark_w hr2 [44]) rfl rfl rfl rfl ⟨rfl, rfl, trivial⟩ rfl ?_
      refine OpC.callH rfl rfl rfl rfl [0, 1] rfl (his) rfl rfl rfl rfl ⟨rfl, rfl, trivial⟩ rfl ?_
      refine ⟨fun _ => ?_, fun h => no_tf h⟩
      refine OpC.callH rfl rfl rfl rfl [0, 1] rfl (qimm_w hQ hm2) rfl rfl rfl rfl ⟨rfl, rfl, trivial⟩ rfl ?_
      exact ⟨rfl, _, rfl⟩
    | false =>
      rw [hb] at his
      rw [if_neg (by decide)]
      refine Ctr.enterH tabOkF (fn := Tryz.f63) rfl rfl rfl rfl rfl rfl bndJ (Nat.le_refl _) ?_
      refine OpC.callV rfl rfl rfl rfl rfl rfl rfl (fun _ => hal) ?_
      refine OpC.callV rfl rfl rfl rfl rfl rfl rfl (fun _ => hz1) ?_
      refine OpC.callV rfl rfl rfl rfl rfl rfl rfl (fun _ => hz2) ?_
      refine OpC.callV rfl rfl rfl rfl rfl rfl rfl (fun _ => hz3) ?_
      refine OpC.callV rfl rfl rfl rfl rfl rfl rfl (fun _ => hz4) ?_
      refine OpC.callV rfl rfl rfl rfl rfl rfl rfl (fun _ => hz5) ?_
      refine OpC.callV rfl rfl rfl rfl rfl rfl rfl (fun _ => ho1) ?_
      refine OpC.callV rfl rfl rfl rfl rfl rfl rfl (fun _ => ho2) ?_
      refine ⟨fun h => ?_, fun _ => ?_⟩
      · have h : (decide (nm = [77, 79, 86])) = true := h
        rw [decide_eq_false h1] at h; cases h
      refine ⟨fun _ => ?_, fun h => ?_⟩
      rotate_left
      · have h : (decide ((0 : Int) < fn)) = false := h
        rw [decide_eq_true h2] at h; cases h
      refine OpC.callH rfl rfl rfl rfl [0, 1] rfl (qreg_w hQ hk) rfl rfl rfl rfl ⟨rfl, rfl, trivial⟩ rfl ?_
      refine OpC.callH rfl rfl rfl rfl [0, 1] rfl (qmark_w hr [44]) rfl rfl rfl rfl ⟨rfl, rfl, trivial⟩ rfl ?_
      refine OpC.callH rfl rfl rfl rfl [0, 1] rfl (qreg_w hQ hm) rfl rfl rfl rfl ⟨rfl, rfl, trivial⟩ rfl ?_
      refine OpC.callH rfl rfl rfl rfl [0, 1] rfl (qmark_w hr2 [44]) rfl rfl rfl rfl ⟨rfl, rfl, trivial⟩ rfl ?_
      refine OpC.callH rfl rfl rfl rfl [0, 1] rfl (his) rfl rfl rfl rfl ⟨rfl, rfl, trivial⟩ rfl ?_
      refine ⟨fun h => no_ft h, fun _ => ?_⟩
      refine OpC.callH rfl rfl rfl rfl [0, 1] rfl (qreg_w hQ hm2) rfl rfl rfl rfl ⟨rfl, rfl, trivial⟩ rfl ?_
      exact ⟨rfl, _, rfl⟩
  rw [if_neg h2]
  by_cases h3 : 0 < IntKind.i64.wrap (IntKind.i64.wrap (ld + aq) + wk)
  · rw [if_pos h3]
    refine Ctr.enterH tabOkF (fn := Tryz.f63) rfl rfl rfl rfl rfl rfl bndJ (Nat.le_refl _) ?_
    refine OpC.callV rfl rfl rfl rfl rfl rfl rfl (fun _ => hal) ?_
    refine OpC.callV rfl rfl rfl rfl rfl rfl rfl (fun _ => hz1) ?_
    refine OpC.callV rfl rfl rfl rfl rfl rfl rfl (fun _ => hz2) ?_
    refine OpC.callV rfl rfl rfl rfl rfl rfl rfl (fun _ => hz3) ?_
    refine OpC.callV rfl rfl rfl rfl rfl rfl rfl (fun _ => hz4) ?_
    refine OpC.callV rfl rfl rfl rfl rfl rfl rfl (fun _ => hz5) ?_
    refine OpC.callV rfl rfl rfl rfl rfl rfl rfl (fun _ => ho1) ?_
    refine OpC.callV rfl rfl rfl rfl rfl rfl rfl (fun _ => ho2) ?_
    refine ⟨fun h => ?_, fun _ => ?_⟩
    · have h : (decide (nm = [77, 79, 86])) = true := h
      rw [decide_eq_false h1] at h; cases h
    refine ⟨fun h => ?_, fun _ => ?_⟩
    · have h : (decide ((0 : Int) < fn)) = true := h
      rw [decide_eq_false h2] at h; cases h
    refine ⟨fun _ => ?_, fun h => ?_⟩
    rotate_left
    · have h : (decide ((0 : Int) < IntKind.i64.wrap (IntKind.i64.wrap (ld + aq) + wk))) = false := h
      rw [decide_eq_true h3] at h; cases h
    refine OpC.callH rfl rfl rfl rfl [0, 1] rfl (qreg_w hQ hk) rfl rfl rfl rfl ⟨rfl, rfl, trivial⟩ rfl ?_
    refine OpC.callH rfl rfl rfl rfl [0, 1] rfl (qmark_w hr [44]) rfl rfl rfl rfl ⟨rfl, rfl, trivial⟩ rfl ?_
    refine OpC.callH rfl rfl rfl rfl [0, 1, 2] rfl (qmem_w hQ hm { blkI with op := 4, sz := IntKind.i64.wrap (IntKind.i64.wrap (ld + aq) + wk), acq := decide (0 < aq), wk := decide (0 < wk), dst := (regR lgA ts s).1 }) rfl rfl rfl rfl ⟨rfl, rfl, rfl, trivial⟩ rfl ?_
    exact ⟨rfl, _, rfl⟩
  rw [if_neg h3]
  by_cases h4 : 0 < IntKind.i64.wrap (st + rl)
  · rw [if_pos h4]
    refine Ctr.enterH tabOkF (fn := Tryz.f63) rfl rfl rfl rfl rfl rfl bndJ (Nat.le_refl _) ?_
    refine OpC.callV rfl rfl rfl rfl rfl rfl rfl (fun _ => hal) ?_
    refine OpC.callV rfl rfl rfl rfl rfl rfl rfl (fun _ => hz1) ?_
    refine OpC.callV rfl rfl rfl rfl rfl rfl rfl (fun _ => hz2) ?_
    refine OpC.callV rfl rfl rfl rfl rfl rfl rfl (fun _ => hz3) ?_
    refine OpC.callV rfl rfl rfl rfl rfl rfl rfl (fun _ => hz4) ?_
    refine OpC.callV rfl rfl rfl rfl rfl rfl rfl (fun _ => hz5) ?_
    refine OpC.callV rfl rfl rfl rfl rfl rfl rfl (fun _ => ho1) ?_
    refine OpC.callV rfl rfl rfl rfl rfl rfl rfl (fun _ => ho2) ?_
    refine ⟨fun h => ?_, fun _ => ?_⟩
    · have h : (decide (nm = [77, 79, 86])) = true := h
      rw [decide_eq_false h1] at h; cases h
    refine ⟨fun h => ?_, fun _ => ?_⟩
    · have h : (decide ((0 : Int) < fn)) = true := h
      rw [decide_eq_false h2] at h; cases h
    refine ⟨fun h => ?_, fun _ => ?_⟩
    · have h : (decide ((0 : Int) < IntKind.i64.wrap (IntKind.i64.wrap (ld + aq) + wk))) = true := h
      rw [decide_eq_false h3] at h; cases h
    refine ⟨fun _ => ?_, fun h => ?_⟩
    rotate_left
    · have h : (decide ((0 : Int) < IntKind.i64.wrap (st + rl))) = false := h
      rw [decide_eq_true h4] at h; cases h
    refine OpC.callH rfl rfl rfl rfl [0, 1] rfl (qreg_w hQ hk) rfl rfl rfl rfl ⟨rfl, rfl, trivial⟩ rfl ?_
    refine OpC.callH rfl rfl rfl rfl [0, 1] rfl (qmark_w hr [44]) rfl rfl rfl rfl ⟨rfl, rfl, trivial⟩ rfl ?_
    refine OpC.callH rfl rfl rfl rfl [0, 1, 2] rfl (qmem_w hQ hm { blkI with op := 5, sz := IntKind.i64.wrap (st + rl), rel := decide (0 < rl), a := (regR lgA ts s).1 }) rfl rfl rfl rfl ⟨rfl, rfl, rfl, trivial⟩ rfl ?_
    exact ⟨rfl, _, rfl⟩
  rw [if_neg h4]
  by_cases h5 : 0 < IntKind.i64.wrap (sw + dd)
  · rw [if_pos h5]
    by_cases h6 : 0 < dd
    · rw [if_pos h6]
      refine Ctr.enterH tabOkF (fn := Tryz.f63) rfl rfl rfl rfl rfl rfl bndJ (Nat.le_refl _) ?_
      refine OpC.callV rfl rfl rfl rfl rfl rfl rfl (fun _ => hal) ?_
      refine OpC.callV rfl rfl rfl rfl rfl rfl rfl (fun _ => hz1) ?_
      refine OpC.callV rfl rfl rfl rfl rfl rfl rfl (fun _ => hz2) ?_
      refine OpC.callV rfl rfl rfl rfl rfl rfl rfl (fun _ => hz3) ?_
      refine OpC.callV rfl rfl rfl rfl rfl rfl rfl (fun _ => hz4) ?_
      refine OpC.callV rfl rfl rfl rfl rfl rfl rfl (fun _ => hz5) ?_
      refine OpC.callV rfl rfl rfl rfl rfl rfl rfl (fun _ => ho1) ?_
      refine OpC.callV rfl rfl rfl rfl rfl rfl rfl (fun _ => ho2) ?_
      refine ⟨fun h => ?_, fun _ => ?_⟩
      · have h : (decide (nm = [77, 79, 86])) = true := h
        rw [decide_eq_false h1] at h; cases h
      refine ⟨fun h => ?_, fun _ => ?_⟩
      · have h : (decide ((0 : Int) < fn)) = true := h
        rw [decide_eq_false h2] at h; cases h
      refine ⟨fun h => ?_, fun _ => ?_⟩
      · have h : (decide ((0 : Int) < IntKind.i64.wrap (IntKind.i64.wrap (ld + aq) + wk))) = true := h
        rw [decide_eq_false h3] at h; cases h
      refine ⟨fun h => ?_, fun _ => ?_⟩
      · have h : (decide ((0 : Int) < IntKind.i64.wrap (st + rl))) = true := h
        rw [decide_eq_false h4] at h; cases h
      refine ⟨fun _ => ?_, fun h => ?_⟩
      rotate_left
      · have h : (decide ((0 : Int) < IntKind.i64.wrap (sw + dd))) = false := h
        rw [decide_eq_true h5] at h; cases h
      refine ⟨fun _ => ?_, fun h => ?_⟩
      rotate_left
      · have h : (decide ((0 : Int) < dd)) = false := h
        rw [decide_eq_true h6] at h; cases h
      refine WpC.dr tabOkF mixed 0 ?_
      refine OpD.callL rfl rfl rfl rfl [0, 1, 2] 0 rfl rfl (qthree2_w hQ hk { blkI with op := 6, fn := 1, sz := IntKind.i64.wrap (sw + dd), acq := sa || da, rel := sl || dl }) rfl rfl rfl rfl ⟨rfl, rfl, rfl, trivial⟩ rfl rfl ?_
      refine ⟨by kernel_rfl, ?_⟩
      exact ⟨rfl, _, rfl⟩
    · rw [if_neg h6]
      refine Ctr.enterH tabOkF (fn := Tryz.f63) rfl rfl rfl rfl rfl rfl bndJ (Nat.le_refl _) ?_
      refine OpC.callV rfl rfl rfl rfl rfl rfl rfl (fun _ => hal) ?_
      refine OpC.callV rfl rfl rfl rfl rfl rfl rfl (fun _ => hz1) ?_
      refine OpC.callV rfl rfl rfl rfl rfl rfl rfl (fun _ => hz2) ?_
      refine OpC.callV rfl rfl rfl rfl rfl rfl rfl (fun _ => hz3) ?_
      refine OpC.callV rfl rfl rfl rfl rfl rfl rfl (fun _ => hz4) ?_
      refine OpC.callV rfl rfl rfl rfl rfl rfl rfl (fun _ => hz5) ?_
      refine OpC.callV rfl rfl rfl rfl rfl rfl rfl (fun _ => ho1) ?_
      refine OpC.callV rfl rfl rfl rfl rfl rfl rfl (fun _ => ho2) ?_
      refine ⟨fun h => ?_, fun _ => ?_⟩
      · have h : (decide (nm = [77, 79, 86])) = true := h
        rw [decide_eq_false h1] at h; cases h
      refine ⟨fun h => ?_, fun _ => ?_⟩
      · have h : (decide ((0 : Int) < fn)) = true := h
        rw [decide_eq_false h2] at h; cases h
      refine ⟨fun h => ?_, fun _ => ?_⟩
      · have h : (decide ((0 : Int) < IntKind.i64.wrap (IntKind.i64.wrap (ld + aq) + wk))) = true := h
        rw [decide_eq_false h3] at h; cases h
      refine ⟨fun h => ?_, fun _ => ?_⟩
      · have h : (decide ((0 : Int) < IntKind.i64.wrap (st + rl))) = true := h
        rw [decide_eq_false h4] at h; cases h
      refine ⟨fun _ => ?_, fun h => ?_⟩
      rotate_left
      · have h : (decide ((0 : Int) < IntKind.i64.wrap (sw + dd))) = false := h
        rw [decide_eq_true h5] at h; cases h
      refine ⟨fun h => ?_, fun _ => ?_⟩
      · have h : (decide ((0 : Int) < dd)) = true := h
        rw [decide_eq_false h6] at h; cases h
      refine WpC.dr tabOkF mixed 0 ?_
      refine OpD.callL rfl rfl rfl rfl [0, 1, 2] 0 rfl rfl (qthree2_w hQ hk { blkI with op := 6, fn := 6, sz := IntKind.i64.wrap (sw + dd), acq := sa || da, rel := sl || dl }) rfl rfl rfl rfl ⟨rfl, rfl, rfl, trivial⟩ rfl rfl ?_
      refine ⟨by kernel_rfl, ?_⟩
      exact ⟨rfl, _, rfl⟩
  rw [if_neg h5]
  by_cases h7 : nm = [68, 77, 66]
  · rw [if_pos h7]
    refine Ctr.enterH tabOkF (fn := Tryz.f63) rfl rfl rfl rfl rfl rfl bndJ (Nat.le_refl _) ?_
    refine OpC.callV rfl rfl rfl rfl rfl rfl rfl (fun _ => hal) ?_
    refine OpC.callV rfl rfl rfl rfl rfl rfl rfl (fun _ => hz1) ?_
    refine OpC.callV rfl rfl rfl rfl rfl rfl rfl (fun _ => hz2) ?_
    refine OpC.callV rfl rfl rfl rfl rfl rfl rfl (fun _ => hz3) ?_
    refine OpC.callV rfl rfl rfl rfl rfl rfl rfl (fun _ => hz4) ?_
    refine OpC.callV rfl rfl rfl rfl rfl rfl rfl (fun _ => hz5) ?_
    refine OpC.callV rfl rfl rfl rfl rfl rfl rfl (fun _ => ho1) ?_
    refine OpC.callV rfl rfl rfl rfl rfl rfl rfl (fun _ => ho2) ?_
    refine ⟨fun h => ?_, fun _ => ?_⟩
    · have h : (decide (nm = [77, 79, 86])) = true := h
      rw [decide_eq_false h1] at h; cases h
    refine ⟨fun h => ?_, fun _ => ?_⟩
    · have h : (decide ((0 : Int) < fn)) = true := h
      rw [decide_eq_false h2] at h; cases h
    refine ⟨fun h => ?_, fun _ => ?_⟩
    · have h : (decide ((0 : Int) < IntKind.i64.wrap (IntKind.i64.wrap (ld + aq) + wk))) = true := h
      rw [decide_eq_false h3] at h; cases h
    refine ⟨fun h => ?_, fun _ => ?_⟩
    · have h : (decide ((0 : Int) < IntKind.i64.wrap (st + rl))) = true := h
      rw [decide_eq_false h4] at h; cases h
    refine ⟨fun h => ?_, fun _ => ?_⟩
    · have h : (decide ((0 : Int) < IntKind.i64.wrap (sw + dd))) = true := h
      rw [decide_eq_false h5] at h; cases h
    refine ⟨fun _ => ?_, fun h => ?_⟩
    rotate_left
    · have h : (decide (nm = [68, 77, 66])) = false := h
      rw [decide_eq_true h7] at h; cases h
    refine OpC.callH rfl rfl rfl rfl [0, 1, 2] rfl (qbar_w hk { blkI with op := 7 }) rfl rfl rfl rfl ⟨rfl, rfl, rfl, trivial⟩ rfl ?_
    exact ⟨rfl, _, rfl⟩
  rw [if_neg h7]
  by_cases h8 : nm = [73, 83, 66]
  · rw [if_pos h8]
    refine Ctr.enterH tabOkF (fn := Tryz.f63) rfl rfl rfl rfl rfl rfl bndJ (Nat.le_refl _) ?_
    refine OpC.callV rfl rfl rfl rfl rfl rfl rfl (fun _ => hal) ?_
    refine OpC.callV rfl rfl rfl rfl rfl rfl rfl (fun _ => hz1) ?_
    refine OpC.callV rfl rfl rfl rfl rfl rfl rfl (fun _ => hz2) ?_
    refine OpC.callV rfl rfl rfl rfl rfl rfl rfl (fun _ => hz3) ?_
    refine OpC.callV rfl rfl rfl rfl rfl rfl rfl (fun _ => hz4) ?_
    refine OpC.callV rfl rfl rfl rfl rfl rfl rfl (fun _ => hz5) ?_
    refine OpC.callV rfl rfl rfl rfl rfl rfl rfl (fun _ => ho1) ?_
    refine OpC.callV rfl rfl rfl rfl rfl rfl rfl (fun _ => ho2) ?_
    refine ⟨fun h => ?_, fun _ => ?_⟩
    · have h : (decide (nm = [77, 79, 86])) = true := h
      rw [decide_eq_false h1] at h; cases h
    refine ⟨fun h => ?_, fun _ => ?_⟩
    · have h : (decide ((0 : Int) < fn)) = true := h
      rw [decide_eq_false h2] at h; cases h
    refine ⟨fun h => ?_, fun _ => ?_⟩
    · have h : (decide ((0 : Int) < IntKind.i64.wrap (IntKind.i64.wrap (ld + aq) + wk))) = true := h
      rw [decide_eq_false h3] at h; cases h
    refine ⟨fun h => ?_, fun _ => ?_⟩
    · have h : (decide ((0 : Int) < IntKind.i64.wrap (st + rl))) = true := h
      rw [decide_eq_false h4] at h; cases h
    refine ⟨fun h => ?_, fun _ => ?_⟩
    · have h : (decide ((0 : Int) < IntKind.i64.wrap (sw + dd))) = true := h
      rw [decide_eq_false h5] at h; cases h
    refine ⟨fun h => ?_, fun _ => ?_⟩
    · have h : (decide (nm = [68, 77, 66])) = true := h
      rw [decide_eq_false h7] at h; cases h
    refine ⟨fun _ => ?_, fun h => ?_⟩
    rotate_left
    · have h : (decide (nm = [73, 83, 66])) = false := h
      rw [decide_eq_true h8] at h; cases h
    exact ⟨rfl, _, rfl⟩
  rw [if_neg h8]
  by_cases h9 : nm = [67, 66, 90] ∨ nm = [67, 66, 78, 90]
  · rw [if_pos h9]
    refine Ctr.enterH tabOkF (fn := Tryz.f63) rfl rfl rfl rfl rfl rfl bndJ (Nat.le_refl _) ?_
    refine OpC.callV rfl rfl rfl rfl rfl rfl rfl (fun _ => hal) ?_
    refine OpC.callV rfl rfl rfl rfl rfl rfl rfl (fun _ => hz1) ?_
    refine OpC.callV rfl rfl rfl rfl rfl rfl rfl (fun _ => hz2) ?_
    refine OpC.callV rfl rfl rfl rfl rfl rfl rfl (fun _ => hz3) ?_
    refine OpC.callV rfl rfl rfl rfl rfl rfl rfl (fun _ => hz4) ?_
    refine OpC.callV rfl rfl rfl rfl rfl rfl rfl (fun _ => hz5) ?_
    refine OpC.callV rfl rfl rfl rfl rfl rfl rfl (fun _ => ho1) ?_
    refine OpC.callV rfl rfl rfl rfl rfl rfl rfl (fun _ => ho2) ?_
    refine ⟨fun h => ?_, fun _ => ?_⟩
    · have h : (decide (nm = [77, 79, 86])) = true := h
      rw [decide_eq_false h1] at h; cases h
    refine ⟨fun h => ?_, fun _ => ?_⟩
    · have h : (decide ((0 : Int) < fn)) = true := h
      rw [decide_eq_false h2] at h; cases h
    refine ⟨fun h => ?_, fun _ => ?_⟩
    · have h : (decide ((0 : Int) < IntKind.i64.wrap (IntKind.i64.wrap (ld + aq) + wk))) = true := h
      rw [decide_eq_false h3] at h; cases h
    refine ⟨fun h => ?_, fun _ => ?_⟩
    · have h : (decide ((0 : Int) < IntKind.i64.wrap (st + rl))) = true := h
      rw [decide_eq_false h4] at h; cases h
    refine ⟨fun h => ?_, fun _ => ?_⟩
    · have h : (decide ((0 : Int) < IntKind.i64.wrap (sw + dd))) = true := h
      rw [decide_eq_false h5] at h; cases h
    refine ⟨fun h => ?_, fun _ => ?_⟩
    · have h : (decide (nm = [68, 77, 66])) = true := h
      rw [decide_eq_false h7] at h; cases h
    refine ⟨fun h => ?_, fun _ => ?_⟩
    · have h : (decide (nm = [73, 83, 66])) = true := h
      rw [decide_eq_false h8] at h; cases h
    refine ⟨fun _ => ?_, fun h => ?_⟩
    rotate_left
    · have h : (decide (nm = [67, 66, 90]) || decide (nm = [67, 66, 78, 90])) = false := h
      simp only [Bool.or_eq_false_iff, decide_eq_false_iff_not] at h; exact absurd h9 (fun hh => hh.elim h.1 h.2)
    refine OpC.callH rfl rfl rfl rfl [0, 1, 2] rfl (qbranch_w hQ hk blkI (decide (nm = [67, 66, 90]))) rfl rfl rfl rfl ⟨rfl, rfl, rfl, trivial⟩ rfl ?_
    exact ⟨rfl, _, rfl⟩
  rw [if_neg h9]
  refine Ctr.enterH tabOkF (fn := Tryz.f63) rfl rfl rfl rfl rfl rfl bndJ (Nat.le_refl _) ?_
  refine OpC.callV rfl rfl rfl rfl rfl rfl rfl (fun _ => hal) ?_
  refine OpC.callV rfl rfl rfl rfl rfl rfl rfl (fun _ => hz1) ?_
  refine OpC.callV rfl rfl rfl rfl rfl rfl rfl (fun _ => hz2) ?_
  refine OpC.callV rfl rfl rfl rfl rfl rfl rfl (fun _ => hz3) ?_
  refine OpC.callV rfl rfl rfl rfl rfl rfl rfl (fun _ => hz4) ?_
  refine OpC.callV rfl rfl rfl rfl rfl rfl rfl (fun _ => hz5) ?_
  refine OpC.callV rfl rfl rfl rfl rfl rfl rfl (fun _ => ho1) ?_
  refine OpC.callV rfl rfl rfl rfl rfl rfl rfl (fun _ => ho2) ?_
  refine ⟨fun h => ?_, fun _ => ?_⟩
  · have h : (decide (nm = [77, 79, 86])) = true := h
    rw [decide_eq_false h1] at h; cases h
  refine ⟨fun h => ?_, fun _ => ?_⟩
  · have h : (decide ((0 : Int) < fn)) = true := h
    rw [decide_eq_false h2] at h; cases h
  refine ⟨fun h => ?_, fun _ => ?_⟩
  · have h : (decide ((0 : Int) < IntKind.i64.wrap (IntKind.i64.wrap (ld + aq) + wk))) = true := h
    rw [decide_eq_false h3] at h; cases h
  refine ⟨fun h => ?_, fun _ => ?_⟩
  · have h : (decide ((0 : Int) < IntKind.i64.wrap (st + rl))) = true := h
    rw [decide_eq_false h4] at h; cases h
  refine ⟨fun h => ?_, fun _ => ?_⟩
  · have h : (decide ((0 : Int) < IntKind.i64.wrap (sw + dd))) = true := h
    rw [decide_eq_false h5] at h; cases h
  refine ⟨fun h => ?_, fun _ => ?_⟩
  · have h : (decide (nm = [68, 77, 66])) = true := h
    rw [decide_eq_false h7] at h; cases h
  refine ⟨fun h => ?_, fun _ => ?_⟩
  · have h : (decide (nm = [73, 83, 66])) = true := h
    rw [decide_eq_false h8] at h; cases h
  refine ⟨fun h => ?_, fun _ => ?_⟩
  · have h : (decide (nm = [67, 66, 90]) || decide (nm = [67, 66, 78, 90])) = true := h
    simp only [Bool.or_eq_true, decide_eq_true_eq] at h; exact absurd h h9
  exact ⟨rfl, _, rfl⟩
end SX
end Go.Proofs.YthkedcneehdinaaGreatDoor

/- The reference: registers of RISC-V and Arm, by name; Parse. Written by qwf.py. -/
set_option linter.unusedVariables false
set_option maxRecDepth 100000
namespace Go.Proofs.YthkedcneehdinaaGreatDoor
namespace SX
open Go Go.Proofs
set_option maxHeartbeats 1000000 in
theorem rreg3_ok (v : List UInt8) : CtrV Tryz.prog 21 [.i .i64 3, .s v] (.i .i64 (idxF [88, 48] [88, 49] [88, 50] [88, 51] [88, 52] [88, 53] [88, 54] [88, 55] v)) := by
  refine Ctr.enterV tabOkF (fn := Tryz.f21) rfl rfl rfl rfl rfl rfl ?_
  refine WpC.loop tabOkF (β := Nat) (fun k => k ≤ 8 ∧ (0 < k → v ≠ [88, 48]) ∧ (1 < k → v ≠ [88, 49]) ∧ (2 < k → v ≠ [88, 50]) ∧ (3 < k → v ≠ [88, 51]) ∧ (4 < k → v ≠ [88, 52]) ∧ (5 < k → v ≠ [88, 53]) ∧ (6 < k → v ≠ [88, 54]) ∧ (7 < k → v ≠ [88, 55])) (fun k => [(5, .i .i64 k)]) (fun _ => []) (fun k => 8 - k) 0 1048560 ⟨by decide, fun h => absurd h (by decide), fun h => absurd h (by decide), fun h => absurd h (by decide), fun h => absurd h (by decide), fun h => absurd h (by decide), fun h => absurd h (by decide), fun h => absurd h (by decide), fun h => absurd h (by decide)⟩ ?_ ?_
  · exact ⟨rfl, ⟨⟨rfl, rfl, rfl⟩, trivial⟩, ⟨[], rfl⟩, trivial, rfl⟩
  · rintro k ⟨hk, q0, q1, q2, q3, q4, q5, q6, q7⟩
    rcases (by omega : k = 0 ∨ k = 1 ∨ k = 2 ∨ k = 3 ∨ k = 4 ∨ k = 5 ∨ k = 6 ∨ k = 7 ∨ k = 8) with rfl | rfl | rfl | rfl | rfl | rfl | rfl | rfl | rfl
    · refine ⟨fun _ => ?_, fun h => absurd h (by decide)⟩
      refine OpC.callV rfl rfl rfl rfl rfl rfl rfl (fun _ => rname_ok 3 0) ?_
      refine ⟨fun h => ?_, fun h => ?_⟩
      · have h : ((!decide (v = [])) && decide ([88, 48] = v)) = true := h
        have e : v = [88, 48] := by simp at h; exact h.2.symm
        refine i_cg ?_
        unfold idxF
        rw [if_pos e]
        rfl
      · have h : ((!decide (v = [])) && decide ([88, 48] = v)) = false := h
        have e0 : ¬ v = [88, 48] := fun e => by subst e; exact absurd h (by decide)
        exact ⟨1, ⟨by decide, fun _ => e0, fun h => absurd h (by decide), fun h => absurd h (by decide), fun h => absurd h (by decide), fun h => absurd h (by decide), fun h => absurd h (by decide), fun h => absurd h (by decide), fun h => absurd h (by decide)⟩, by decide, rfl, ⟨⟨rfl, rfl, rfl⟩, trivial⟩, ⟨[], rfl⟩, trivial, rfl⟩
    · have e0 := q0 (by decide)
      refine ⟨fun _ => ?_, fun h => absurd h (by decide)⟩
      refine OpC.callV rfl rfl rfl rfl rfl rfl rfl (fun _ => rname_ok 3 1) ?_
      refine ⟨fun h => ?_, fun h => ?_⟩
      · have h : ((!decide (v = [])) && decide ([88, 49] = v)) = true := h
        have e : v = [88, 49] := by simp at h; exact h.2.symm
        refine i_cg ?_
        unfold idxF
        rw [if_neg e0]
        rw [if_pos e]
        rfl
      · have h : ((!decide (v = [])) && decide ([88, 49] = v)) = false := h
        have e1 : ¬ v = [88, 49] := fun e => by subst e; exact absurd h (by decide)
        exact ⟨2, ⟨by decide, fun _ => e0, fun _ => e1, fun h => absurd h (by decide), fun h => absurd h (by decide), fun h => absurd h (by decide), fun h => absurd h (by decide), fun h => absurd h (by decide), fun h => absurd h (by decide)⟩, by decide, rfl, ⟨⟨rfl, rfl, rfl⟩, trivial⟩, ⟨[], rfl⟩, trivial, rfl⟩
    · have e0 := q0 (by decide)
      have e1 := q1 (by decide)
      refine ⟨fun _ => ?_, fun h => absurd h (by decide)⟩
      refine OpC.callV rfl rfl rfl rfl rfl rfl rfl (fun _ => rname_ok 3 2) ?_
      refine ⟨fun h => ?_, fun h => ?_⟩
      · have h : ((!decide (v = [])) && decide ([88, 50] = v)) = true := h
        have e : v = [88, 50] := by simp at h; exact h.2.symm
        refine i_cg ?_
        unfold idxF
        rw [if_neg e0]
        rw [if_neg e1]
        rw [if_pos e]
        rfl
      · have h : ((!decide (v = [])) && decide ([88, 50] = v)) = false := h
        have e2 : ¬ v = [88, 50] := fun e => by subst e; exact absurd h (by decide)
        exact ⟨3, ⟨by decide, fun _ => e0, fun _ => e1, fun _ => e2, fun h => absurd h (by decide), fun h => absurd h (by decide), fun h => absurd h (by decide), fun h => absurd h (by decide), fun h => absurd h (by decide)⟩, by decide, rfl, ⟨⟨rfl, rfl, rfl⟩, trivial⟩, ⟨[], rfl⟩, trivial, rfl⟩
    · have e0 := q0 (by decide)
      have e1 := q1 (by decide)
      have e2 := q2 (by decide)
      refine ⟨fun _ => ?_, fun h => absurd h (by decide)⟩
      refine OpC.callV rfl rfl rfl rfl rfl rfl rfl (fun _ => rname_ok 3 3) ?_
      refine ⟨fun h => ?_, fun h => ?_⟩
      · have h : ((!decide (v = [])) && decide ([88, 51] = v)) = true := h
        have e : v = [88, 51] := by simp at h; exact h.2.symm
        refine i_cg ?_
        unfold idxF
        rw [if_neg e0]
        rw [if_neg e1]
        rw [if_neg e2]
        rw [if_pos e]
        rfl
      · have h : ((!decide (v = [])) && decide ([88, 51] = v)) = false := h
        have e3 : ¬ v = [88, 51] := fun e => by subst e; exact absurd h (by decide)
        exact ⟨4, ⟨by decide, fun _ => e0, fun _ => e1, fun _ => e2, fun _ => e3, fun h => absurd h (by decide), fun h => absurd h (by decide), fun h => absurd h (by decide), fun h => absurd h (by decide)⟩, by decide, rfl, ⟨⟨rfl, rfl, rfl⟩, trivial⟩, ⟨[], rfl⟩, trivial, rfl⟩
    · have e0 := q0 (by decide)
      have e1 := q1 (by decide)
      have e2 := q2 (by decide)
      have e3 := q3 (by decide)
      refine ⟨fun _ => ?_, fun h => absurd h (by decide)⟩
      refine OpC.callV rfl rfl rfl rfl rfl rfl rfl (fun _ => rname_ok 3 4) ?_
      refine ⟨fun h => ?_, fun h => ?_⟩
      · have h : ((!decide (v = [])) && decide ([88, 52] = v)) = true := h
        have e : v = [88, 52] := by simp at h; exact h.2.symm
        refine i_cg ?_
        unfold idxF
        rw [if_neg e0]
        rw [if_neg e1]
        rw [if_neg e2]
        rw [if_neg e3]
        rw [if_pos e]
        rfl
      · have h : ((!decide (v = [])) && decide ([88, 52] = v)) = false := h
        have e4 : ¬ v = [88, 52] := fun e => by subst e; exact absurd h (by decide)
        exact ⟨5, ⟨by decide, fun _ => e0, fun _ => e1, fun _ => e2, fun _ => e3, fun _ => e4, fun h => absurd h (by decide), fun h => absurd h (by decide), fun h => absurd h (by decide)⟩, by decide, rfl, ⟨⟨rfl, rfl, rfl⟩, trivial⟩, ⟨[], rfl⟩, trivial, rfl⟩
    · have e0 := q0 (by decide)
      have e1 := q1 (by decide)
      have e2 := q2 (by decide)
      have e3 := q3 (by decide)
      have e4 := q4 (by decide)
      refine ⟨fun _ => ?_, fun h => absurd h (by decide)⟩
      refine OpC.callV rfl rfl rfl rfl rfl rfl rfl (fun _ => rname_ok 3 5) ?_
      refine ⟨fun h => ?_, fun h => ?_⟩
      · have h : ((!decide (v = [])) && decide ([88, 53] = v)) = true := h
        have e : v = [88, 53] := by simp at h; exact h.2.symm
        refine i_cg ?_
        unfold idxF
        rw [if_neg e0]
        rw [if_neg e1]
        rw [if_neg e2]
        rw [if_neg e3]
        rw [if_neg e4]
        rw [if_pos e]
        rfl
      · have h : ((!decide (v = [])) && decide ([88, 53] = v)) = false := h
        have e5 : ¬ v = [88, 53] := fun e => by subst e; exact absurd h (by decide)
        exact ⟨6, ⟨by decide, fun _ => e0, fun _ => e1, fun _ => e2, fun _ => e3, fun _ => e4, fun _ => e5, fun h => absurd h (by decide), fun h => absurd h (by decide)⟩, by decide, rfl, ⟨⟨rfl, rfl, rfl⟩, trivial⟩, ⟨[], rfl⟩, trivial, rfl⟩
    · have e0 := q0 (by decide)
      have e1 := q1 (by decide)
      have e2 := q2 (by decide)
      have e3 := q3 (by decide)
      have e4 := q4 (by decide)
      have e5 := q5 (by decide)
      refine ⟨fun _ => ?_, fun h => absurd h (by decide)⟩
      refine OpC.callV rfl rfl rfl rfl rfl rfl rfl (fun _ => rname_ok 3 6) ?_
      refine ⟨fun h => ?_, fun h => ?_⟩
      · have h : ((!decide (v = [])) && decide ([88, 54] = v)) = true := h
        have e : v = [88, 54] := by simp at h; exact h.2.symm
        refine i_cg ?_
        unfold idxF
        rw [if_neg e0]
        rw [if_neg e1]
        rw [if_neg e2]
        rw [if_neg e3]
        rw [if_neg e4]
        rw [if_neg e5]
        rw [if_pos e]
        rfl
      · have h : ((!decide (v = [])) && decide ([88, 54] = v)) = false := h
        have e6 : ¬ v = [88, 54] := fun e => by subst e; exact absurd h (by decide)
        exact ⟨7, ⟨by decide, fun _ => e0, fun _ => e1, fun _ => e2, fun _ => e3, fun _ => e4, fun _ => e5, fun _ => e6, fun h => absurd h (by decide)⟩, by decide, rfl, ⟨⟨rfl, rfl, rfl⟩, trivial⟩, ⟨[], rfl⟩, trivial, rfl⟩
    · have e0 := q0 (by decide)
      have e1 := q1 (by decide)
      have e2 := q2 (by decide)
      have e3 := q3 (by decide)
      have e4 := q4 (by decide)
      have e5 := q5 (by decide)
      have e6 := q6 (by decide)
      refine ⟨fun _ => ?_, fun h => absurd h (by decide)⟩
      refine OpC.callV rfl rfl rfl rfl rfl rfl rfl (fun _ => rname_ok 3 7) ?_
      refine ⟨fun h => ?_, fun h => ?_⟩
      · have h : ((!decide (v = [])) && decide ([88, 55] = v)) = true := h
        have e : v = [88, 55] := by simp at h; exact h.2.symm
        refine i_cg ?_
        unfold idxF
        rw [if_neg e0]
        rw [if_neg e1]
        rw [if_neg e2]
        rw [if_neg e3]
        rw [if_neg e4]
        rw [if_neg e5]
        rw [if_neg e6]
        rw [if_pos e]
        rfl
      · have h : ((!decide (v = [])) && decide ([88, 55] = v)) = false := h
        have e7 : ¬ v = [88, 55] := fun e => by subst e; exact absurd h (by decide)
        exact ⟨8, ⟨by decide, fun _ => e0, fun _ => e1, fun _ => e2, fun _ => e3, fun _ => e4, fun _ => e5, fun _ => e6, fun _ => e7⟩, by decide, rfl, ⟨⟨rfl, rfl, rfl⟩, trivial⟩, ⟨[], rfl⟩, trivial, rfl⟩
    · have e0 := q0 (by decide)
      have e1 := q1 (by decide)
      have e2 := q2 (by decide)
      have e3 := q3 (by decide)
      have e4 := q4 (by decide)
      have e5 := q5 (by decide)
      have e6 := q6 (by decide)
      have e7 := q7 (by decide)
      refine ⟨fun h => absurd h (by decide), fun _ => i_cg ?_⟩
      unfold idxF
      rw [if_neg e0, if_neg e1, if_neg e2, if_neg e3, if_neg e4, if_neg e5, if_neg e6, if_neg e7]
theorem qlA (ts : List Tk) (ad : Option Addr) (cap : Nat) : QL ⟨3, lgA, ts, ad, cap⟩ := ⟨fun v => rreg3_ok v, .inr (.inr ⟨rfl, rfl⟩)⟩
set_option maxHeartbeats 4000000 in
theorem rparse3_w {rdR : List Tk → List UInt8 → RS → Rd × RS} {L : Lg} (hread : QReadOk rdR L 3 63) (hrk : QReadRk rdR L) (hL : ∀ ts ad cap, QL ⟨3, L, ts, ad, cap⟩) (ts : List Tk) (ad : Option Addr) (cap : Nat) (hl : ts.length ≤ 100000) (hnm : (tkAt ts 0).s.length ≤ 100000) :
    CtrV Tryz.prog 25 [.i .i64 3, .imm Tk tk0 4 tkenc ts ad cap] (prV5r (parseR rdR ts)) := by
  have hk0 : Qk ⟨3, L, ts, ad, cap⟩ rs0 := ⟨Nat.zero_le _, hl⟩
  have hpk := wpeek_ok (ts := ts) (ad := ad) (cap := cap) (p := 0) (Nat.zero_le _)
  have hwh := where_ok (ts := ts) (ad := ad) (cap := cap) (p := 0) (Nat.zero_le _) hl
  refine Ctr.enterV tabOkF (fn := Tryz.f25) rfl rfl rfl rfl rfl (prV5r_ok _) ?_
  unfold parseR
  refine OpC.callH rfl rfl rfl rfl [1] rfl (hpk) rfl rfl rfl rfl ⟨rfl, trivial⟩ rfl ?_
  refine OpC.callH rfl rfl rfl rfl [1] rfl (hwh) rfl rfl rfl rfl ⟨rfl, trivial⟩ rfl ?_
  by_cases h1 : (tkAt ts 0).k = 1
  · rw [if_pos h1]
    have hlt := at_lt (ts := ts) (p := 0) (by rw [h1]; decide)
    have hk1 : Qk ⟨3, L, ts, ad, cap⟩ (goF rs0) := ⟨hlt, hl⟩
    have hx := hread ⟨3, L, ts, ad, cap⟩ (goF rs0) (tkAt ts 0).s rfl rfl (hL ts ad cap) hk1 hnm
    have hk2 : Qk ⟨3, L, ts, ad, cap⟩ (rdR ts (tkAt ts 0).s (goF rs0)).2 := hrk ⟨3, L, ts, ad, cap⟩ (goF rs0) (tkAt ts 0).s rfl hk1
    dsimp only at hx
    generalize rdR ts (tkAt ts 0).s (goF rs0) = x at *
    refine ⟨fun h => ?_, fun _ => ?_⟩
    · have h : ((!decide (0 < ts.length)) || (!decide ((tkAt ts 0).k = 1))) = true := h
      rw [decide_eq_true hlt, decide_eq_true h1] at h; cases h
    refine OpC.callH rfl rfl rfl rfl [1] rfl (wnext_ok (ad := ad) (cap := cap) hlt hl) rfl rfl rfl rfl ⟨rfl, trivial⟩ rfl ?_
    refine OpC.callV rfl rfl rfl rfl rfl rfl rfl (fun _ => blank_w) ?_
    refine ⟨fun h => no_ft h, fun _ => ?_⟩
    refine ⟨fun h => no_ft h, fun _ => ?_⟩
    refine ⟨fun _ => ?_, fun h => no_tf h⟩
    unfold endR
    cases hkn : x.1.known with
    | false =>
      rw [hkn] at hx
      rw [if_neg (by decide)]
      refine OpC.callH rfl rfl rfl rfl [1, 2, 4] rfl (hx) rfl rfl rfl rfl ⟨rfl, rfl, rfl, trivial⟩ rfl ?_
      refine ⟨fun _ => ?_, fun h => no_tf h⟩
      exact rfl
    | true =>
      rw [hkn] at hx
      rw [if_pos rfl]
      dsimp only
      refine OpC.callH rfl rfl rfl rfl [1, 2, 4] rfl (hx) rfl rfl rfl rfl ⟨rfl, rfl, rfl, trivial⟩ rfl ?_
      refine ⟨fun h => no_ft h, fun _ => ?_⟩
      have hpk2 := wpeek_ok (ad := ad) (cap := cap) hk2.p
      refine OpC.callH rfl rfl rfl rfl [1] rfl (hpk2) rfl rfl rfl rfl ⟨rfl, trivial⟩ rfl ?_
      refine ⟨fun h => ?_, fun h => ?_⟩
      · have hm : (decide (x.2.p < ts.length)) = true := h
        have hm : x.2.p < ts.length := of_decide_eq_true hm
        have em : moreF ts x.2 = failF x.2 25 (tkAt ts x.2.p).a := by unfold moreF whF; rw [if_pos hm, if_pos hm]
        rw [em]
        refine OpC.callH rfl rfl rfl rfl [1, 2] rfl (qfail_ok (c := (⟨3, L, ts, ad, cap⟩ : Qc)) (s := x.2) 25 (tkAt ts x.2.p).a) rfl rfl rfl rfl ⟨rfl, rfl, trivial⟩ rfl ?_
        refine ⟨fun h => ?_, fun h => ?_⟩
        · have h9 : (decide (x.1.i.op = 9)) = true := h
          have h9 : x.1.i.op = 9 := of_decide_eq_true h9
          have ht1 : to1 x.1.i = { x.1.i with to := 1 } := by unfold to1; rw [if_pos h9]
          refine OpC.callV rfl rfl rfl rfl rfl rfl rfl (fun _ => rright3_ok ({ x.1.i with to := 1 }) 0 1) ?_
          refine ⟨fun h => ?_, fun h => ?_⟩
          · have hr : (decide ((failF x.2 25 (tkAt ts x.2.p).a).e = 0) && !decide (rgtF ({ x.1.i with to := 1 }) 0 1 = 0)) = true := h
            have hq : ((failF x.2 25 (tkAt ts x.2.p).a).e = 0 ∧ rgtF (to1 x.1.i) 0 1 ≠ 0) := by rw [ht1]; simp only [Bool.and_eq_true, decide_eq_true_eq, Bool.not_eq_true', decide_eq_false_iff_not] at hr; exact hr
            rw [if_pos hq]
            refine OpC.callH rfl rfl rfl rfl [1, 2] rfl (qfail_ok (c := (⟨3, L, ts, ad, cap⟩ : Qc)) (s := failF x.2 25 (tkAt ts x.2.p).a) 34 (whF ts 0)) rfl rfl rfl rfl ⟨rfl, rfl, trivial⟩ rfl ?_
            refine ⟨fun h => ?_, fun h => ?_⟩
            · have he : (!decide ((failF (failF x.2 25 (tkAt ts x.2.p).a) 34 (whF ts 0)).e = 0)) = true := h
              have he : ¬ (failF (failF x.2 25 (tkAt ts x.2.p).a) 34 (whF ts 0)).e = 0 := by simpa using he
              have hO : outF x.1 (failF (failF x.2 25 (tkAt ts x.2.p).a) 34 (whF ts 0)) = ⟨in0, [], (failF (failF x.2 25 (tkAt ts x.2.p).a) 34 (whF ts 0)).e, (failF (failF x.2 25 (tkAt ts x.2.p).a) 34 (whF ts 0)).q⟩ := by unfold outF; rw [if_neg he]
              rw [hO]
              refine WpC.dr tabOkF mixed 0 ?_
              refine ⟨by kernel_rfl, ?_⟩
              exact rfl
            · have he : (!decide ((failF (failF x.2 25 (tkAt ts x.2.p).a) 34 (whF ts 0)).e = 0)) = false := h
              have he : (failF (failF x.2 25 (tkAt ts x.2.p).a) 34 (whF ts 0)).e = 0 := by simpa using he
              have hO : outF x.1 (failF (failF x.2 25 (tkAt ts x.2.p).a) 34 (whF ts 0)) = ⟨x.1.i, x.1.lb, 0, 0⟩ := by unfold outF; rw [if_pos he]
              rw [hO]
              exact rfl
          · have hr : (decide ((failF x.2 25 (tkAt ts x.2.p).a).e = 0) && !decide (rgtF ({ x.1.i with to := 1 }) 0 1 = 0)) = false := h
            have hq : ¬ ((failF x.2 25 (tkAt ts x.2.p).a).e = 0 ∧ rgtF (to1 x.1.i) 0 1 ≠ 0) := by rw [ht1]; intro hh; rw [decide_eq_true hh.1, decide_eq_false hh.2] at hr; cases hr
            rw [if_neg hq]
            refine ⟨fun h => ?_, fun h => ?_⟩
            · have he : (!decide ((failF x.2 25 (tkAt ts x.2.p).a).e = 0)) = true := h
              have he : ¬ (failF x.2 25 (tkAt ts x.2.p).a).e = 0 := by simpa using he
              have hO : outF x.1 (failF x.2 25 (tkAt ts x.2.p).a) = ⟨in0, [], (failF x.2 25 (tkAt ts x.2.p).a).e, (failF x.2 25 (tkAt ts x.2.p).a).q⟩ := by unfold outF; rw [if_neg he]
              rw [hO]
              refine WpC.dr tabOkF mixed 0 ?_
              refine ⟨by kernel_rfl, ?_⟩
              exact rfl
            · have he : (!decide ((failF x.2 25 (tkAt ts x.2.p).a).e = 0)) = false := h
              have he : (failF x.2 25 (tkAt ts x.2.p).a).e = 0 := by simpa using he
              have hO : outF x.1 (failF x.2 25 (tkAt ts x.2.p).a) = ⟨x.1.i, x.1.lb, 0, 0⟩ := by unfold outF; rw [if_pos he]
              rw [hO]
              exact rfl
        · have h9 : (decide (x.1.i.op = 9)) = false := h
          have h9 : ¬ x.1.i.op = 9 := of_decide_eq_false h9
          have ht1 : to1 x.1.i = x.1.i := by unfold to1; rw [if_neg h9]
          refine OpC.callV rfl rfl rfl rfl rfl rfl rfl (fun _ => rright3_ok (x.1.i) 0 1) ?_
          refine ⟨fun h => ?_, fun h => ?_⟩
          · have hr : (decide ((failF x.2 25 (tkAt ts x.2.p).a).e = 0) && !decide (rgtF (x.1.i) 0 1 = 0)) = true := h
            have hq : ((failF x.2 25 (tkAt ts x.2.p).a).e = 0 ∧ rgtF (to1 x.1.i) 0 1 ≠ 0) := by rw [ht1]; simp only [Bool.and_eq_true, decide_eq_true_eq, Bool.not_eq_true', decide_eq_false_iff_not] at hr; exact hr
            rw [if_pos hq]
            refine OpC.callH rfl rfl rfl rfl [1, 2] rfl (qfail_ok (c := (⟨3, L, ts, ad, cap⟩ : Qc)) (s := failF x.2 25 (tkAt ts x.2.p).a) 34 (whF ts 0)) rfl rfl rfl rfl ⟨rfl, rfl, trivial⟩ rfl ?_
            refine ⟨fun h => ?_, fun h => ?_⟩
            · have he : (!decide ((failF (failF x.2 25 (tkAt ts x.2.p).a) 34 (whF ts 0)).e = 0)) = true := h
              have he : ¬ (failF (failF x.2 25 (tkAt ts x.2.p).a) 34 (whF ts 0)).e = 0 := by simpa using he
              have hO : outF x.1 (failF (failF x.2 25 (tkAt ts x.2.p).a) 34 (whF ts 0)) = ⟨in0, [], (failF (failF x.2 25 (tkAt ts x.2.p).a) 34 (whF ts 0)).e, (failF (failF x.2 25 (tkAt ts x.2.p).a) 34 (whF ts 0)).q⟩ := by unfold outF; rw [if_neg he]
              rw [hO]
              refine WpC.dr tabOkF mixed 0 ?_
              refine ⟨by kernel_rfl, ?_⟩
              exact rfl
            · have he : (!decide ((failF (failF x.2 25 (tkAt ts x.2.p).a) 34 (whF ts 0)).e = 0)) = false := h
              have he : (failF (failF x.2 25 (tkAt ts x.2.p).a) 34 (whF ts 0)).e = 0 := by simpa using he
              have hO : outF x.1 (failF (failF x.2 25 (tkAt ts x.2.p).a) 34 (whF ts 0)) = ⟨x.1.i, x.1.lb, 0, 0⟩ := by unfold outF; rw [if_pos he]
              rw [hO]
              exact rfl
          · have hr : (decide ((failF x.2 25 (tkAt ts x.2.p).a).e = 0) && !decide (rgtF (x.1.i) 0 1 = 0)) = false := h
            have hq : ¬ ((failF x.2 25 (tkAt ts x.2.p).a).e = 0 ∧ rgtF (to1 x.1.i) 0 1 ≠ 0) := by rw [ht1]; intro hh; rw [decide_eq_true hh.1, decide_eq_false hh.2] at hr; cases hr
            rw [if_neg hq]
            refine ⟨fun h => ?_, fun h => ?_⟩
            · have he : (!decide ((failF x.2 25 (tkAt ts x.2.p).a).e = 0)) = true := h
              have he : ¬ (failF x.2 25 (tkAt ts x.2.p).a).e = 0 := by simpa using he
              have hO : outF x.1 (failF x.2 25 (tkAt ts x.2.p).a) = ⟨in0, [], (failF x.2 25 (tkAt ts x.2.p).a).e, (failF x.2 25 (tkAt ts x.2.p).a).q⟩ := by unfold outF; rw [if_neg he]
              rw [hO]
              refine WpC.dr tabOkF mixed 0 ?_
              refine ⟨by kernel_rfl, ?_⟩
              exact rfl
            · have he : (!decide ((failF x.2 25 (tkAt ts x.2.p).a).e = 0)) = false := h
              have he : (failF x.2 25 (tkAt ts x.2.p).a).e = 0 := by simpa using he
              have hO : outF x.1 (failF x.2 25 (tkAt ts x.2.p).a) = ⟨x.1.i, x.1.lb, 0, 0⟩ := by unfold outF; rw [if_pos he]
              rw [hO]
              exact rfl
      · have hm : (decide (x.2.p < ts.length)) = false := h
        have hm : ¬ x.2.p < ts.length := of_decide_eq_false hm
        have em : moreF ts x.2 = x.2 := by unfold moreF; rw [if_neg hm]
        rw [em]
        refine ⟨fun h => ?_, fun h => ?_⟩
        · have h9 : (decide (x.1.i.op = 9)) = true := h
          have h9 : x.1.i.op = 9 := of_decide_eq_true h9
          have ht1 : to1 x.1.i = { x.1.i with to := 1 } := by unfold to1; rw [if_pos h9]
          refine OpC.callV rfl rfl rfl rfl rfl rfl rfl (fun _ => rright3_ok ({ x.1.i with to := 1 }) 0 1) ?_
          refine ⟨fun h => ?_, fun h => ?_⟩
          · have hr : (decide ((x.2).e = 0) && !decide (rgtF ({ x.1.i with to := 1 }) 0 1 = 0)) = true := h
            have hq : ((x.2).e = 0 ∧ rgtF (to1 x.1.i) 0 1 ≠ 0) := by rw [ht1]; simp only [Bool.and_eq_true, decide_eq_true_eq, Bool.not_eq_true', decide_eq_false_iff_not] at hr; exact hr
            rw [if_pos hq]
            refine OpC.callH rfl rfl rfl rfl [1, 2] rfl (qfail_ok (c := (⟨3, L, ts, ad, cap⟩ : Qc)) (s := x.2) 34 (whF ts 0)) rfl rfl rfl rfl ⟨rfl, rfl, trivial⟩ rfl ?_
            refine ⟨fun h => ?_, fun h => ?_⟩
            · have he : (!decide ((failF (x.2) 34 (whF ts 0)).e = 0)) = true := h
              have he : ¬ (failF (x.2) 34 (whF ts 0)).e = 0 := by simpa using he
              have hO : outF x.1 (failF (x.2) 34 (whF ts 0)) = ⟨in0, [], (failF (x.2) 34 (whF ts 0)).e, (failF (x.2) 34 (whF ts 0)).q⟩ := by unfold outF; rw [if_neg he]
              rw [hO]
              refine WpC.dr tabOkF mixed 0 ?_
              refine ⟨by kernel_rfl, ?_⟩
              exact rfl
            · have he : (!decide ((failF (x.2) 34 (whF ts 0)).e = 0)) = false := h
              have he : (failF (x.2) 34 (whF ts 0)).e = 0 := by simpa using he
              have hO : outF x.1 (failF (x.2) 34 (whF ts 0)) = ⟨x.1.i, x.1.lb, 0, 0⟩ := by unfold outF; rw [if_pos he]
              rw [hO]
              exact rfl
          · have hr : (decide ((x.2).e = 0) && !decide (rgtF ({ x.1.i with to := 1 }) 0 1 = 0)) = false := h
            have hq : ¬ ((x.2).e = 0 ∧ rgtF (to1 x.1.i) 0 1 ≠ 0) := by rw [ht1]; intro hh; rw [decide_eq_true hh.1, decide_eq_false hh.2] at hr; cases hr
            rw [if_neg hq]
            refine ⟨fun h => ?_, fun h => ?_⟩
            · have he : (!decide ((x.2).e = 0)) = true := h
              have he : ¬ (x.2).e = 0 := by simpa using he
              have hO : outF x.1 (x.2) = ⟨in0, [], (x.2).e, (x.2).q⟩ := by unfold outF; rw [if_neg he]
              rw [hO]
              refine WpC.dr tabOkF mixed 0 ?_
              refine ⟨by kernel_rfl, ?_⟩
              exact rfl
            · have he : (!decide ((x.2).e = 0)) = false := h
              have he : (x.2).e = 0 := by simpa using he
              have hO : outF x.1 (x.2) = ⟨x.1.i, x.1.lb, 0, 0⟩ := by unfold outF; rw [if_pos he]
              rw [hO]
              exact rfl
        · have h9 : (decide (x.1.i.op = 9)) = false := h
          have h9 : ¬ x.1.i.op = 9 := of_decide_eq_false h9
          have ht1 : to1 x.1.i = x.1.i := by unfold to1; rw [if_neg h9]
          refine OpC.callV rfl rfl rfl rfl rfl rfl rfl (fun _ => rright3_ok (x.1.i) 0 1) ?_
          refine ⟨fun h => ?_, fun h => ?_⟩
          · have hr : (decide ((x.2).e = 0) && !decide (rgtF (x.1.i) 0 1 = 0)) = true := h
            have hq : ((x.2).e = 0 ∧ rgtF (to1 x.1.i) 0 1 ≠ 0) := by rw [ht1]; simp only [Bool.and_eq_true, decide_eq_true_eq, Bool.not_eq_true', decide_eq_false_iff_not] at hr; exact hr
            rw [if_pos hq]
            refine OpC.callH rfl rfl rfl rfl [1, 2] rfl (qfail_ok (c := (⟨3, L, ts, ad, cap⟩ : Qc)) (s := x.2) 34 (whF ts 0)) rfl rfl rfl rfl ⟨rfl, rfl, trivial⟩ rfl ?_
            refine ⟨fun h => ?_, fun h => ?_⟩
            · have he : (!decide ((failF (x.2) 34 (whF ts 0)).e = 0)) = true := h
              have he : ¬ (failF (x.2) 34 (whF ts 0)).e = 0 := by simpa using he
              have hO : outF x.1 (failF (x.2) 34 (whF ts 0)) = ⟨in0, [], (failF (x.2) 34 (whF ts 0)).e, (failF (x.2) 34 (whF ts 0)).q⟩ := by unfold outF; rw [if_neg he]
              rw [hO]
              refine WpC.dr tabOkF mixed 0 ?_
              refine ⟨by kernel_rfl, ?_⟩
              exact rfl
            · have he : (!decide ((failF (x.2) 34 (whF ts 0)).e = 0)) = false := h
              have he : (failF (x.2) 34 (whF ts 0)).e = 0 := by simpa using he
              have hO : outF x.1 (failF (x.2) 34 (whF ts 0)) = ⟨x.1.i, x.1.lb, 0, 0⟩ := by unfold outF; rw [if_pos he]
              rw [hO]
              exact rfl
          · have hr : (decide ((x.2).e = 0) && !decide (rgtF (x.1.i) 0 1 = 0)) = false := h
            have hq : ¬ ((x.2).e = 0 ∧ rgtF (to1 x.1.i) 0 1 ≠ 0) := by rw [ht1]; intro hh; rw [decide_eq_true hh.1, decide_eq_false hh.2] at hr; cases hr
            rw [if_neg hq]
            refine ⟨fun h => ?_, fun h => ?_⟩
            · have he : (!decide ((x.2).e = 0)) = true := h
              have he : ¬ (x.2).e = 0 := by simpa using he
              have hO : outF x.1 (x.2) = ⟨in0, [], (x.2).e, (x.2).q⟩ := by unfold outF; rw [if_neg he]
              rw [hO]
              refine WpC.dr tabOkF mixed 0 ?_
              refine ⟨by kernel_rfl, ?_⟩
              exact rfl
            · have he : (!decide ((x.2).e = 0)) = false := h
              have he : (x.2).e = 0 := by simpa using he
              have hO : outF x.1 (x.2) = ⟨x.1.i, x.1.lb, 0, 0⟩ := by unfold outF; rw [if_pos he]
              rw [hO]
              exact rfl
  · rw [if_neg h1]
    refine ⟨fun _ => ?_, fun h => ?_⟩
    rotate_left
    · have h : ((!decide (0 < ts.length)) || (!decide ((tkAt ts 0).k = 1))) = false := h
      rw [decide_eq_false h1, Bool.not_false, Bool.or_true] at h; cases h
    refine OpC.callH rfl rfl rfl rfl [1, 2] rfl (qodd_ok (s := rs0) hk0 true) rfl rfl rfl rfl ⟨rfl, rfl, trivial⟩ rfl ?_
    refine WpC.dr tabOkF mixed 0 ?_
    refine ⟨by kernel_rfl, ?_⟩
    exact rfl
end SX
end Go.Proofs.YthkedcneehdinaaGreatDoor

/- Arm: the reference's Parse. Written by qwf.py. -/
set_option linter.unusedVariables false
set_option maxRecDepth 100000
namespace Go.Proofs.YthkedcneehdinaaGreatDoor
namespace SX
open Go Go.Proofs
theorem rparseA_w (ts : List Tk) (ad : Option Addr) (cap : Nat) (hl : ts.length ≤ 100000) (hnm : (tkAt ts 0).s.length ≤ 100000) : CtrV Tryz.prog 25 [.i .i64 3, .imm Tk tk0 4 tkenc ts ad cap] (prV5r (parseR readAR ts)) :=
  rparse3_w qarm_read qarm_rk qlA ts ad cap hl hnm
end SX
end Go.Proofs.YthkedcneehdinaaGreatDoor

/- arm.Parse of a row that stays. -/
set_option linter.unusedVariables false
set_option maxRecDepth 100000
namespace Go.Proofs.YthkedcneehdinaaGreatDoor
namespace SX
open Go Go.Proofs
theorem armParse_v (ts : List Tk) (ad : Option Addr) (cap : Nat) (hl : ts.length ≤ 100000) (hnm : (tkAt ts 0).s.length ≤ 100000) : CtrV Tryz.prog 24 [.imm Tk tk0 4 tkenc ts ad cap] (prV5 (parseP readAP ts)) := by
  cases ad with
  | some a => exact armParse_w ts (some a) cap hl (fun h => by cases h) hnm
  | none =>
    by_cases he : ts = []
    · exact armParse_w ts none cap hl (fun _ => he) hnm
    · exact Cp.vac fun m V h => he (imm_none h)
end SX
end Go.Proofs.YthkedcneehdinaaGreatDoor

/- What a run of law 5's able() asks of the library, as memos. -/
set_option linter.unusedVariables false
set_option maxRecDepth 100000
namespace Go.Proofs.YthkedcneehdinaaGreatDoor
namespace SX
open Go Go.Proofs
def mIB (c n : Int) : Memo := ⟨47, [.s [123, 125, 40, 41, 91, 93, 59, 124, 44, 58, 61, 43, 45, 35, 36, 126, 42, 47, 92, 38, 63, 94], .i .u8 c], [], .i .i64 n, []⟩
theorem mIB_ok {c n : Int} (h : Lib.indexByte marksL c.toNat.toUInt8 = n) : MemoOk Tryz.prog (mIB c n) := by
  subst h
  exact sIndexByte_ok marksL c
def mLoc (s : List UInt8) (n : Int) : Memo := ⟨40, [.s [120, 121, 122], .s s], [], .i .i64 n, []⟩
theorem mLoc_ok {s : List UInt8} {n : Int} (h : Lib.index [120, 121, 122] s = n) : MemoOk Tryz.prog (mLoc s n) := by
  subst h
  exact sIndex_ok [120, 121, 122] s (by decide)
def mNum (w : List UInt8) (n : Nat) : Memo := ⟨45, [.s w], [], .tup [.i .i64 n, .b true], []⟩
theorem mNum_ok {w : List UInt8} {n : Nat} (h : numF w = some n) (hn : (w.all fun c => numB (c.toNat : Int)) = true) (hw : w.length ≤ 10000) (h2 : n ≤ 9223372036854775807) : MemoOk Tryz.prog (mNum w n) := by
  refine (number_ok w (fun c hc => List.all_eq_true.1 hn c hc) hw).mono callX_m ?_
  rintro r h' ⟨hr, rfl⟩
  rw [h] at hr
  have hr : r = .tup [.i .i64 (IntKind.i64.wrap n), .b true] := hr
  rw [w64 (by omega) (by omega)] at hr
  exact ⟨hr, rfl⟩
def mJoin (xs : List (List UInt8)) (n : Nat) (r : List UInt8) : Memo := ⟨199, [.sl 0 1 0 n (some n) 0, .s [44]], [.mem 9 (xs.map .s) 1 0], .s r, [.mem 9 (xs.map .s) 1 0]⟩
theorem mJoin_ok {xs : List (List UInt8)} {n : Nat} {r : List UInt8} (hn : xs.length = n) (hn2 : n ≤ 1000) (h : Lib.join xs [44] = r) (hl : r.length ≤ 1000) : MemoOk Tryz.prog (mJoin xs n r) := by
  subst h
  exact join_ok xs n hn hn2 [44] (by omega)
end SX
end Go.Proofs.YthkedcneehdinaaGreatDoor

/- Law 7: able() answers true. Written by x67.py. -/
set_option linter.unusedVariables false
set_option maxRecDepth 100000
namespace Go.Proofs.YthkedcneehdinaaGreatDoor
namespace SX
open Go Go.Proofs
def x7ms : List Memo := [mIB 91 4, mIB 93 5, mIB 43 11, mIB 44 8, mLoc [120] 0, mNum [50] 2, mJoin [[88, 48], [91, 120, 43, 50, 93]] 2 [88, 48, 44, 91, 120, 43, 50, 93]]
theorem x7ms_ok : ∀ m ∈ x7ms, MemoOk Tryz.prog m := by
  intro m hm
  simp only [x7ms, List.mem_cons, List.not_mem_nil, or_false] at hm
  rcases hm with rfl | rfl | rfl | rfl | rfl | rfl | rfl
  · exact mIB_ok (by decide)
  · exact mIB_ok (by decide)
  · exact mIB_ok (by decide)
  · exact mIB_ok (by decide)
  · exact mLoc_ok (by decide)
  · exact mNum_ok (by decide) (by decide) (by decide) (by decide)
  · exact mJoin_ok rfl (by decide) (by decide) (by decide)
def x7able : Memo := ⟨23, [], [], .b true, []⟩
theorem able7_ok : CtrV Tryz.prog 23 [] (.b true) := (memo_of (m := x7able) (tr := treeF) (ft := ftree) (ms := x7ms) (n := 40) tabOkF ftOk mixed x7ms_ok (by decide +kernel) : MemoOk Tryz.prog x7able)
end SX
end Go.Proofs.YthkedcneehdinaaGreatDoor

/- ArmParses: the law's contract. Written by qwf.py from XLq. -/
set_option linter.unusedVariables false
set_option maxRecDepth 100000
namespace Go.Proofs.YthkedcneehdinaaGreatDoor
namespace SX
open Go Go.Proofs
set_option maxHeartbeats 4000000 in
theorem armParses_ok (text : List UInt8) (htl : text.length ≤ 2 ^ 47) : CtrV Tryz.prog 6 [.s text] (.b true) := by
  refine Ctr.enterV tabOkM (fn := Tryz.f6) rfl rfl rfl rfl rfl rfl ?_
  refine OpC.callV rfl rfl rfl rfl rfl rfl rfl (fun _ => able7_ok) ?_
  refine ⟨fun h => no_ft h, fun _ => ?_⟩
  refine OpC.callL rfl rfl rfl rfl [] 1 rfl rfl rfl (tokensI_ok text) rfl rfl rfl rfl trivial rfl (fun r H' hk => ?_) ?_
  · rcases hk with ⟨ts, ad, cap, B, h1, rfl, rfl⟩ | ⟨e, p, h1, he, rfl, rfl⟩
    · exact ⟨Nat.zero_le _, Nat.le_refl _⟩
    · exact ⟨Nat.zero_le _, Nat.zero_le _⟩
  rintro r H' (⟨ts, ad, cap, B, h1, rfl, rfl⟩ | ⟨e, p, h1, he, rfl, rfl⟩)
  rotate_left
  · refine ⟨fun _ => rfl, fun h => ?_⟩
    have h : (!decide (e = 0)) = false := h
    rw [decide_eq_false he] at h; cases h
  have hts : (tokF text).1 = ts := by rw [h1]
  have hw : WfA ts := by rw [← hts]; exact tok_wf text
  have hn : ts.length ≤ 8192 := by rw [← hts]; exact tok_count text
  have hl : ts.length ≤ 100000 := by omega
  have hnm := tk_at_len hts 0
  have hP := arm_parse hw
  refine ⟨fun h => no_ft h, fun _ => ?_⟩
  refine OpC.yld 1 rfl (yld_app_lit tabOkM rfl rfl rfl rfl rfl rfl rfl rfl (fun E => rfl) (SrcA.imm rfl rfl rfl) (p := 2) rfl Joins.nil (Nat.le_trans hn (by decide)) ?_) (fun d hd => by cases hd; rfl) ?_
  · exact tok_bytes _ hl
  refine OpC.yld 0 rfl (yld_app_row tabOkM rfl rfl rfl rfl rfl rfl rfl rfl rfl (SrcA.sl rfl rfl rfl rfl (by decide) rfl) (Joins.arrN (y := t77) rfl rfl tkenc_w) (by decide) (Nat.le_trans (show ts.length + 1 ≤ 8193 by omega) (by decide)) ?_) (fun d hd => by cases hd; rfl) ?_
  · exact tok_bytes _ (by omega)
  have hsl : ((1 + 1 = 1 + 1 ∧ 4 = 3 + 1 ∧ 0 < 3 + 1) ∧ 0 = 0 * 4 ∧ (0 + (ts.length + 1)) * 4 ≤ (ts.length + 1) * 4 + 0) ∧ (0 : Int) ≤ ts.length ∧ (ts.length : Int) ≤ ((ts.length + 1 : Nat) : Int) := by omega
  refine ⟨fun _ => hsl, ?_⟩
  have hx := fun a cap => armParse_v ts a cap hl hnm
  have hy := rparseA_w ts ad cap hl hnm
  rw [hP] at hx
  generalize parseR readAR ts = P at *
  obtain ⟨i, lb, e, q⟩ := P
  refine OpC.callG rfl rfl rfl rfl rfl rfl (r := prV5 ⟨i, lb, e, q⟩) (fun _ => Ctr.frz (A := []) (B := []) (ys := ts ++ [t77]) rfl tk_take (by omega) (by simp) (by omega) tkw tkok ⟨rfl, by decide, rfl⟩ rfl rfl rfl hx) ?_
  refine OpC.callV rfl rfl rfl rfl rfl rfl rfl (fun _ => hy) ?_
  have hB : BndH 6 [.gone B, .gone 1, .mem 42 [.arr (ts.length + 1) Tk tk0 4 tkenc (ts ++ [t77])] 2 4, .mem 42 (tkenc t77) 1 0, .mem 23 (ienc i) 1 0, .mem 23 (ienc i) 1 0] := ⟨trivial, trivial, ⟨fun _ => rfl, trivial⟩, ⟨rfl, rfl, rfl, rfl, trivial⟩, bndIn, bndIn, trivial⟩
  refine WpC.loop tabOkM (β := Nat) (fun k => k ≤ ts.length) (fun k => [(15, .i .i64 k)]) (fun _ => [.gone B, .gone 1, .mem 42 [.arr (ts.length + 1) Tk tk0 4 tkenc (ts ++ [t77])] 2 4, .mem 42 (tkenc t77) 1 0, .mem 23 (ienc i) 1 0, .mem 23 (ienc i) 1 0]) (fun k => ts.length - k) 0 (2 ^ 94 - 2 ^ 15 + 4) (Nat.zero_le _) ?_ ?_
  · refine ⟨rfl, ⟨⟨rfl, rfl, rfl⟩, trivial⟩, ⟨[], rfl⟩, hB, rfl⟩
  · rintro k hk
    refine ⟨fun h2 => ?_, fun h2 => ?_⟩
    · have h2 : (k : Int) < (ts.length : Int) := of_decide_eq_true h2
      have h3 : k < ts.length := by omega
      have hg : (ts ++ [t77]).getD (0 + k) tk0 = ts.getD k tk0 := by rw [Nat.zero_add]; simp only [List.getD_eq_getElem?_getD]; rw [List.getElem?_append_left h3]
      refine WpC.dr tabOkM mixed 0 ?_
      have hix : 0 = 0 * 4 ∧ (0 : Int) ≤ (k : Int) ∧ (k : Int) < ((ts.length + 1 : Nat) : Int) := by omega
      have hld : 2 = 2 ∧ 0 + k < ts.length + 1 := by omega
      have hit : (0 : Int) ≤ (k : Int) ∧ (k : Int) < (ts.length : Int) := by omega
      refine ⟨fun _ => hix, ?_⟩
      refine ⟨fun _ => hld, ?_⟩
      refine ⟨fun _ => hit, ?_⟩
      refine ⟨by kernel_rfl, ?_⟩
      refine ⟨fun h => ?_, fun _ => ?_⟩
      · have h : (!(decide (((ts ++ [t77]).getD (0 + k) tk0).k = (ts.getD k tk0).k) && (decide (((ts ++ [t77]).getD (0 + k) tk0).s = (ts.getD k tk0).s) && (decide (((ts ++ [t77]).getD (0 + k) tk0).n = (ts.getD k tk0).n) && decide (((ts ++ [t77]).getD (0 + k) tk0).a = (ts.getD k tk0).a))))) = true := h
        rw [hg] at h
        simp at h
      · refine ⟨k + 1, h3, by omega, Eq.trans (b := [.s text, .dead, .dead, .imm Tk tk0 4 tkenc ts ad cap, .i .i64 0, .i .i64 0, .sl 2 2 0 (ts.length + 1) none 0, .ptr 4 1 0 [], .s lb, .i .i64 e, .i .i64 q, .ptr 5 1 0 [], .s lb, .i .i64 e, .i .i64 q] ++ List.replicate 79 .dead) rfl rfl, ⟨⟨?_, rfl, rfl⟩, trivial⟩, ⟨[], rfl⟩, hB, rfl⟩
        show SV.i .i64 (IntKind.i64.wrap ((k : Int) + 1)) = SV.i .i64 ((k + 1 : Nat) : Int)
        rw [w64 (by omega) (by omega)]; rfl
    · have h2 : ¬ (k : Int) < (ts.length : Int) := of_decide_eq_false h2
      have hix : 0 = 0 * 4 ∧ (0 : Int) ≤ ts.length ∧ (ts.length : Int) < ((ts.length + 1 : Nat) : Int) := by omega
      have hld : 2 = 2 ∧ 0 + ts.length < ts.length + 1 := by omega
      refine ⟨fun _ => hix, ⟨fun _ => hld, ?_⟩⟩
      refine b_cg ?_
      show ((((eqI i i && decide (lb = lb)) && decide (e = e)) && decide (q = q)) && decide (((ts ++ [t77]).getD (0 + ts.length) tk0).n = -77)) = true
      rw [eqI_rfl, Nat.zero_add]
      simp [List.getD_eq_getElem?_getD, t77]
end SX
end Go.Proofs.YthkedcneehdinaaGreatDoor

/- ArmParses: the row. Written by row.py. -/
set_option linter.unusedVariables false
set_option linter.unusedSimpArgs false
set_option maxRecDepth 100000
namespace Go.Proofs.YthkedcneehdinaaGreatDoor
open Go Go.ChangeShapes Go.WideShapes Go.ChangeAt Go.RowKit
theorem params_in : ∀ t ∈ Tryz.f6.params.toList, t < Tryz.prog.types.size := by
  have : (Tryz.f6.params.toList.all fun t => Nat.blt t Tryz.prog.types.size) = true := by kernel_rfl
  exact fun t ht => Nat.le_of_ble_eq_true (List.all_eq_true.1 this t ht)
theorem door_met (os : Os) (args : Array Value) : laidMetH Tryz.prog Rows.armParsesRow.laid ((World.doorLaid Tryz.prog 400 os).forCall (fun _ _ => 0) ⟨#[], args, []⟩).memory :=
  laidMetH_of_parts3 (fuel := 8) (laidMet_of_run' 8 (by kernel_rfl) (by kernel_rfl)) (by kernel_rfl) (by kernel_rfl)
theorem lifted (os : Os) (started : os.Started) (H : Type) (enc : TypeId × Value → H) :
    ReturnsInHanded {} Tryz.checked os 6 .any (fun w args => (Rows.armParsesSpec.pre enc Tryz.prog Tryz.f6 [] false w args ∧ laidMetH Tryz.prog Rows.armParsesRow.laid w) ∧ sizedMet enc Tryz.prog Tryz.f6 (OpenSpec.ofChange Rows.armParsesSpec) false w args)
      (Rows.armParsesSpec.post enc Tryz.prog Tryz.f6 false true false false) := by
  refine SX.returns_shaped (C := Tryz.checked) (X := fun w _ => laidMetH Tryz.prog Rows.armParsesRow.laid w) (fun _ _ _ hh h => h.of_heap hh) own started (by kernel_rfl) Tryz.func6
    (ChangeSpec.witness_shaped (enc := enc) (C := Tryz.checked) (os := os) (X := fun w _ => laidMetH Tryz.prog Rows.armParsesRow.laid w) false (World.doorLaid Tryz.prog 400 os) #[.string ⟨#[]⟩] 8 rfl (World.shaped_of_RefB (by kernel_rfl) (by kernel_rfl)) (by kernel_rfl) (by kernel_rfl) (by kernel_rfl) (door_met os _)) ?_
  intro W base args ds gs before hval0 hW hz hL hSh
  have hval : ∀ (j : Nat) t v, Tryz.f6.params[j]? = some t → args[j]? = some v → Value.okWide Tryz.prog W .any base t v := hval0
  have hW' := hW
  obtain ⟨p, q, hA0, hV, rfl, hfz, hnd⟩ := hW
  have hA : DataW.TrodAll enc Tryz.prog W 0 (fun _ => true) true Tryz.f6.params.toList args.toList ds p := hA0
  rw [Tryz.params6] at hA hval
  obtain ⟨v0, d0, rfl, rfl, h0⟩ := trodAll_one hA
  obtain ⟨rfl, rfl⟩ := trodVars_none hV
  obtain ⟨s0, rfl, e0, _, _⟩ := Go.ChangeMaps.open_string Tryz.underlying9 (hval 0 _ v0 rfl rfl) h0
  have w0 := sized_string hz (j := 0) rfl (congrArg some e0)
  clear hA0 hval0
  have hT := SX.tabsIn_row hL rfl hSh (List.mem_of_getElem? (i := 0) rfl) (List.mem_of_getElem? (i := 1) rfl) (List.mem_of_getElem? (i := 2) rfl) (List.mem_of_getElem? (i := 3) rfl) (List.mem_of_getElem? (i := 4) rfl) (List.mem_of_getElem? (i := 6) rfl) (by kernel_rfl) (by kernel_rfl) (by kernel_rfl) (by kernel_rfl) (by kernel_rfl) (by kernel_rfl)
  refine (SX.law_callsM (args := [.s s0.data.toList]) Tryz.func6 rfl rfl (SX.armParses_ok s0.data.toList (Nat.le_of_lt (Nat.lt_of_le_of_lt w0 reachBytes_lt))) W hT (fun _ => false) ?_ (by simp [SX.den, SX.denL, SX.wrapV, SX.cells])).mono fun e W' ⟨he, hk, ho, hu⟩ => ?_
  · exact ⟨⟨rfl, trivial⟩, trivial⟩
  subst he
  exact ⟨_, rfl, SX.post_kept hk compsOk params_in (fun n hn => by cases hn) hW' ho hu rfl rfl rfl (fun _ _ _ => trodAll_mk1 (shut_bool Tryz.underlying4 _)) (ok_one (by kernel_rfl) rfl (okWide_bool_mk Tryz.underlying4 _))⟩
theorem fact0 : (fun (P : Program) (f : FuncId) (fn : Func) (s : ChangeSpec) (c : OpenClaim) => c.wf (OpenSpec.ofChange s)) Tryz.prog 6 Tryz.f6 Rows.armParsesSpec Rows.armParsesRow = true := by kernel_rfl
theorem fact1 : (fun (P : Program) (f : FuncId) (fn : Func) (s : ChangeSpec) (c : OpenClaim) => laidOutB P) Tryz.prog 6 Tryz.f6 Rows.armParsesSpec Rows.armParsesRow = true := by kernel_rfl
theorem fact2 : (fun (P : Program) (f : FuncId) (fn : Func) (s : ChangeSpec) (c : OpenClaim) => mapsRowed P) Tryz.prog 6 Tryz.f6 Rows.armParsesSpec Rows.armParsesRow = true := by kernel_rfl
theorem fact3 : (fun (P : Program) (f : FuncId) (fn : Func) (s : ChangeSpec) (c : OpenClaim) => fn.params.all (P.readableRec ·)) Tryz.prog 6 Tryz.f6 Rows.armParsesSpec Rows.armParsesRow = true := by kernel_rfl
theorem fact4 : (fun (P : Program) (f : FuncId) (fn : Func) (s : ChangeSpec) (c : OpenClaim) => namedTie P c.named s.vars) Tryz.prog 6 Tryz.f6 Rows.armParsesSpec Rows.armParsesRow = true := by kernel_rfl
theorem fact5 : (fun (P : Program) (f : FuncId) (fn : Func) (s : ChangeSpec) (c : OpenClaim) => (c.stops == [])) Tryz.prog 6 Tryz.f6 Rows.armParsesSpec Rows.armParsesRow = true := by kernel_rfl
theorem fact6 : (fun (P : Program) (f : FuncId) (fn : Func) (s : ChangeSpec) (c : OpenClaim) => (P.stops == [])) Tryz.prog 6 Tryz.f6 Rows.armParsesSpec Rows.armParsesRow = true := by kernel_rfl
theorem fact7 : (fun (P : Program) (f : FuncId) (fn : Func) (s : ChangeSpec) (c : OpenClaim) => (c.knobs == [])) Tryz.prog 6 Tryz.f6 Rows.armParsesSpec Rows.armParsesRow = true := by kernel_rfl
theorem fact8 : (fun (P : Program) (f : FuncId) (fn : Func) (s : ChangeSpec) (c : OpenClaim) => (P.stopKnobs == [])) Tryz.prog 6 Tryz.f6 Rows.armParsesSpec Rows.armParsesRow = true := by kernel_rfl
theorem fact9 : (fun (P : Program) (f : FuncId) (fn : Func) (s : ChangeSpec) (c : OpenClaim) => (c.inPlace == P.inPlace f)) Tryz.prog 6 Tryz.f6 Rows.armParsesSpec Rows.armParsesRow = true := by kernel_rfl
theorem fact10 : (fun (P : Program) (f : FuncId) (fn : Func) (s : ChangeSpec) (c : OpenClaim) => (c.unfollowed == P.unfollowed f)) Tryz.prog 6 Tryz.f6 Rows.armParsesSpec Rows.armParsesRow = true := by kernel_rfl
theorem fact11 : (fun (P : Program) (f : FuncId) (fn : Func) (s : ChangeSpec) (c : OpenClaim) => (c.recurses == P.recurses f)) Tryz.prog 6 Tryz.f6 Rows.armParsesSpec Rows.armParsesRow = true := by kernel_rfl
theorem fact12 : (fun (P : Program) (f : FuncId) (fn : Func) (s : ChangeSpec) (c : OpenClaim) => (c.named == P.varsNamed f)) Tryz.prog 6 Tryz.f6 Rows.armParsesSpec Rows.armParsesRow = true := by kernel_rfl
theorem fact13 : (fun (P : Program) (f : FuncId) (fn : Func) (s : ChangeSpec) (c : OpenClaim) => (c.maps == (fn.params.toList ++ s.plain.varTypes P).any (P.mapsRec ·))) Tryz.prog 6 Tryz.f6 Rows.armParsesSpec Rows.armParsesRow = true := by kernel_rfl
theorem fact14 : (fun (P : Program) (f : FuncId) (fn : Func) (s : ChangeSpec) (c : OpenClaim) => (c.ifaces == (fn.params.toList ++ s.plain.varTypes P).any (P.ifacesRec ·))) Tryz.prog 6 Tryz.f6 Rows.armParsesSpec Rows.armParsesRow = true := by kernel_rfl
theorem fact15 : (fun (P : Program) (f : FuncId) (fn : Func) (s : ChangeSpec) (c : OpenClaim) => (c.mapsOut == P.mapsAmong fn.resultTypes.toList)) Tryz.prog 6 Tryz.f6 Rows.armParsesSpec Rows.armParsesRow = true := by kernel_rfl
theorem fact16 : (fun (P : Program) (f : FuncId) (fn : Func) (s : ChangeSpec) (c : OpenClaim) => (c.loops == (fn.params.toList ++ s.plain.varTypes P).any (P.loopsFrom ·))) Tryz.prog 6 Tryz.f6 Rows.armParsesSpec Rows.armParsesRow = true := by kernel_rfl
theorem fact17 : (fun (P : Program) (f : FuncId) (fn : Func) (s : ChangeSpec) (c : OpenClaim) => (c.wideKeys == (fn.params.toList ++ s.plain.varTypes P ++ fn.resultTypes.toList).any (P.wideKeysFrom ·))) Tryz.prog 6 Tryz.f6 Rows.armParsesSpec Rows.armParsesRow = true := by kernel_rfl
theorem fact18 : (fun (P : Program) (f : FuncId) (fn : Func) (s : ChangeSpec) (c : OpenClaim) => s.vars.all (P.varReadable ·)) Tryz.prog 6 Tryz.f6 Rows.armParsesSpec Rows.armParsesRow = true := by kernel_rfl
theorem fact19 : (fun (P : Program) (f : FuncId) (fn : Func) (s : ChangeSpec) (c : OpenClaim) => fn.resultTypes.all (fun t => P.readableRec t && decide (t < P.types.size))) Tryz.prog 6 Tryz.f6 Rows.armParsesSpec Rows.armParsesRow = true := by kernel_rfl
theorem fact20 : (fun (P : Program) (f : FuncId) (fn : Func) (s : ChangeSpec) (c : OpenClaim) => (c.ifacesOut == fn.resultTypes.toList.any (P.ifacesRec ·))) Tryz.prog 6 Tryz.f6 Rows.armParsesSpec Rows.armParsesRow = true := by kernel_rfl
theorem fact21 : (fun (P : Program) (f : FuncId) (fn : Func) (s : ChangeSpec) (c : OpenClaim) => (c.loopsOut == fn.resultTypes.toList.any (P.loopsFrom ·))) Tryz.prog 6 Tryz.f6 Rows.armParsesSpec Rows.armParsesRow = true := by kernel_rfl
theorem fact22 : (fun (P : Program) (f : FuncId) (fn : Func) (s : ChangeSpec) (c : OpenClaim) => (c.plainKeys == P.plainKeys)) Tryz.prog 6 Tryz.f6 Rows.armParsesSpec Rows.armParsesRow = true := by kernel_rfl
theorem fact23 : (fun (P : Program) (f : FuncId) (fn : Func) (s : ChangeSpec) (c : OpenClaim) => c.shortTexts.isNone) Tryz.prog 6 Tryz.f6 Rows.armParsesSpec Rows.armParsesRow = true := by kernel_rfl
theorem fact24 : (fun (P : Program) (f : FuncId) (fn : Func) (s : ChangeSpec) (c : OpenClaim) => P.stopsHeard) Tryz.prog 6 Tryz.f6 Rows.armParsesSpec Rows.armParsesRow = true := by kernel_rfl
theorem fact25 : (fun (P : Program) (f : FuncId) (fn : Func) (s : ChangeSpec) (c : OpenClaim) => P.mayEnter) Tryz.prog 6 Tryz.f6 Rows.armParsesSpec Rows.armParsesRow = true := by kernel_rfl
theorem fact26 : (fun (P : Program) (f : FuncId) (fn : Func) (s : ChangeSpec) (c : OpenClaim) => (c.lifted == P.liftsFinal)) Tryz.prog 6 Tryz.f6 Rows.armParsesSpec Rows.armParsesRow = true := by kernel_rfl
theorem fact27 : (fun (P : Program) (f : FuncId) (fn : Func) (s : ChangeSpec) (c : OpenClaim) => (P.make == some c.make)) Tryz.prog 6 Tryz.f6 Rows.armParsesSpec Rows.armParsesRow = true := by kernel_rfl
theorem fact28 : (fun (P : Program) (f : FuncId) (fn : Func) (s : ChangeSpec) (c : OpenClaim) => (c.kinds == (if c.domain.isEmpty then [] else fn.params.toList.map fun t => match P.underlying t with | some (.int k) => some k | _ => none))) Tryz.prog 6 Tryz.f6 Rows.armParsesSpec Rows.armParsesRow = true := by kernel_rfl
theorem fact29 : (fun (P : Program) (f : FuncId) (fn : Func) (s : ChangeSpec) (c : OpenClaim) => (c.pinned == c.pinnedBy)) Tryz.prog 6 Tryz.f6 Rows.armParsesSpec Rows.armParsesRow = true := by kernel_rfl
theorem fact30 : (fun (P : Program) (f : FuncId) (fn : Func) (s : ChangeSpec) (c : OpenClaim) => (c.veiled == (fn.params.toList ++ s.plain.varTypes P ++ fn.resultTypes.toList).any (P.veiledRec ·))) Tryz.prog 6 Tryz.f6 Rows.armParsesSpec Rows.armParsesRow = true := by kernel_rfl
theorem fact31 : (fun (P : Program) (f : FuncId) (fn : Func) (s : ChangeSpec) (c : OpenClaim) => c.veiledFits P fn.params.toList (fn.params.toList ++ s.plain.varTypes P ++ fn.resultTypes.toList)) Tryz.prog 6 Tryz.f6 Rows.armParsesSpec Rows.armParsesRow = true := by kernel_rfl
theorem facts : joinedFacts Tryz.prog 6 Tryz.f6 Rows.armParsesSpec Rows.armParsesRow = true := facts_of fact0 fact1 fact2 fact3 fact4 fact5 fact6 fact7 fact8 fact9 fact10 fact11 fact12 fact13 fact14 fact15 fact16 fact17 fact18 fact19 fact20 fact21 fact22 fact23 fact24 fact25 fact26 fact27 fact28 fact29 fact30 fact31
theorem fnamed : Tryz.prog.funcNamed "belated/belatedlaw7.ArmParses" = some 6 := by kernel_rfl
theorem instOk : Tryz.f6.isInstance Tryz.prog Rows.armParsesRow.origin Rows.armParsesRow.targs := of_decide_eq_true (by kernel_rfl)
theorem wrapOk : Tryz.f6.isWrapper Tryz.prog Rows.armParsesRow.wrapper Rows.armParsesRow.mainSum := by
  unfold Func.isWrapper; first | (rw [if_pos (by decide +kernel)]; kernel_rfl) | (rw [if_neg (by decide +kernel)]; exact ⟨rfl, rfl⟩)
theorem armParses_holds : Rows.ArmParsesSaid :=
  OpenClaim.holds_of_wide 6 Tryz.f6 rfl rfl rfl rfl rfl rfl rfl ⟨rfl, rfl, rfl, rfl, rfl⟩ rfl rfl rfl rfl rfl fnamed Tryz.func6 facts instOk wrapOk
    (fun os started H enc _ => lifted os started H enc)
theorem wfText : Rows.armParsesRow.wfByText (OpenSpec.ofChange Rows.armParsesSpec) = true := by kernel_rfl
theorem mainOk : Tryz.prog.mainIs = some (true, "ee5e4f0b19a504e36959d0abf6e8593140e78c9cabcc708e7bd1f2ba571561a3".toList) := by kernel_rfl
theorem looksOk : true = Tryz.prog.looks [] := by kernel_rfl
theorem standOk : ([9].all fun u => !Tryz.prog.wantsStandIn u) = true := by kernel_rfl
theorem goesOk : false = Rows.armParsesRow.goesBy Tryz.prog := by kernel_rfl
theorem armParses_card : Rows.ArmParsesCardSaid :=
  Claim7.holds_tied_plain_at .later [] [.data, .data, .data, .sentinel, .sentinel, .listed, .data] true (true, "ee5e4f0b19a504e36959d0abf6e8593140e78c9cabcc708e7bd1f2ba571561a3") true
    armParses_holds (fun _ h => by cases h) wfText (fun _ h => by cases h) armParses_row_tie rfl ⟨rfl, rfl⟩ mainOk rfl
    (fun f fn hf hfn => by
      obtain rfl : f = 6 := Option.some.inj (fnamed.symm.trans hf) |>.symm
      obtain rfl : fn = Tryz.f6 := (Option.some.inj (Tryz.func6.symm.trans hfn)).symm
      exact ⟨looksOk, fun j t ht => by
        have ht : [9].toArray[j]? = some t := by rw [Tryz.params6] at ht; exact ht
        have hm : t ∈ [9] := by simpa using Array.mem_of_getElem? ht
        exact (show Tryz.prog.wantsStandIn t = false by simpa using List.all_eq_true.1 standOk t hm)⟩)
    goesOk
#print axioms armParses_card
end Go.Proofs.YthkedcneehdinaaGreatDoor
