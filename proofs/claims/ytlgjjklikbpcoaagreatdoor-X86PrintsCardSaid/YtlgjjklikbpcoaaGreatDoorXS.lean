/- A part of SX: symbolic and concrete runs of the program, with contracts of functions; lemmas without further conditions. -/
import Derived.OpenShut
import Derived.SizedLaws
import Derived.Lib.LaidTab
import Derived.ProofKit
import Derived.Handed
import Derived.Test.YtlgjjklikbpcoaaGreatDoorXR
set_option linter.unusedVariables false
set_option linter.unusedSimpArgs false
set_option linter.unusedSectionVars false
/- x86: a register's number, by its name. Printed by xrg.py. -/
set_option linter.unusedVariables false
set_option maxRecDepth 100000
namespace Go.Proofs.YtlgjjklikbpcoaaGreatDoor
namespace SX
open Go Go.Proofs
def idxF (s0 s1 s2 s3 s4 s5 s6 s7 v : List UInt8) : Int := if v = s0 then 0 else if v = s1 then 1 else if v = s2 then 2 else if v = s3 then 3 else if v = s4 then 4 else if v = s5 then 5 else if v = s6 then 6 else if v = s7 then 7 else -1
set_option maxHeartbeats 1000000 in
theorem index_s (s0 s1 s2 s3 s4 s5 s6 s7 v : List UInt8) : Ctr Tryz.prog 155 [.sl 0 1 0 8 (some 8) 0, .s v] [rowS s0 s1 s2 s3 s4 s5 s6 s7] (fun r h => r = .i .i64 (idxF s0 s1 s2 s3 s4 s5 s6 s7 v) ∧ h = [rowS s0 s1 s2 s3 s4 s5 s6 s7]) := by
  refine Ctr.enterG tabOkF (fn := Tryz.f155) rfl rfl rfl rfl rfl rfl ⟨⟨rfl, rfl, rfl, rfl, rfl, rfl, rfl, rfl, trivial⟩, trivial⟩ ?_
  refine WpC.loop tabOkF (β := Nat) (fun k => k ≤ 8 ∧ (0 < k → v ≠ s0) ∧ (1 < k → v ≠ s1) ∧ (2 < k → v ≠ s2) ∧ (3 < k → v ≠ s3) ∧ (4 < k → v ≠ s4) ∧ (5 < k → v ≠ s5) ∧ (6 < k → v ≠ s6) ∧ (7 < k → v ≠ s7)) (fun k => [(8, .i .i64 k)]) (fun _ => [rowS s0 s1 s2 s3 s4 s5 s6 s7]) (fun k => 8 - k) 0 524080 ⟨by decide, fun h => absurd h (by decide), fun h => absurd h (by decide), fun h => absurd h (by decide), fun h => absurd h (by decide), fun h => absurd h (by decide), fun h => absurd h (by decide), fun h => absurd h (by decide), fun h => absurd h (by decide)⟩ ?_ ?_
  · exact ⟨rfl, ⟨⟨rfl, rfl, rfl⟩, trivial⟩, ⟨[], rfl⟩, ⟨⟨rfl, rfl, rfl, rfl, rfl, rfl, rfl, rfl, trivial⟩, trivial⟩, rfl⟩
  · rintro k ⟨hk, q0, q1, q2, q3, q4, q5, q6, q7⟩
    rcases (by omega : k = 0 ∨ k = 1 ∨ k = 2 ∨ k = 3 ∨ k = 4 ∨ k = 5 ∨ k = 6 ∨ k = 7 ∨ k = 8) with rfl | rfl | rfl | rfl | rfl | rfl | rfl | rfl | rfl
    · refine ⟨fun _ => ?_, fun h => absurd h (by decide)⟩
      refine ⟨fun _ => by decide, ?_⟩
      refine ⟨fun h => ?_, fun h => ?_⟩
      · have e : v = s0 := of_decide_eq_true h
        refine ⟨i_cg ?_, _, rfl⟩
        unfold idxF
        rw [if_pos e]
        rfl
      · have e0 : ¬ v = s0 := of_decide_eq_false h
        exact ⟨1, ⟨by decide, fun _ => e0, fun h => absurd h (by decide), fun h => absurd h (by decide), fun h => absurd h (by decide), fun h => absurd h (by decide), fun h => absurd h (by decide), fun h => absurd h (by decide), fun h => absurd h (by decide)⟩, by decide, rfl, ⟨⟨rfl, rfl, rfl⟩, trivial⟩, ⟨[], rfl⟩, ⟨⟨rfl, rfl, rfl, rfl, rfl, rfl, rfl, rfl, trivial⟩, trivial⟩, rfl⟩
    · have e0 := q0 (by decide)
      refine ⟨fun _ => ?_, fun h => absurd h (by decide)⟩
      refine ⟨fun _ => by decide, ?_⟩
      refine ⟨fun h => ?_, fun h => ?_⟩
      · have e : v = s1 := of_decide_eq_true h
        refine ⟨i_cg ?_, _, rfl⟩
        unfold idxF
        rw [if_neg e0]
        rw [if_pos e]
        rfl
      · have e1 : ¬ v = s1 := of_decide_eq_false h
        exact ⟨2, ⟨by decide, fun _ => e0, fun _ => e1, fun h => absurd h (by decide), fun h => absurd h (by decide), fun h => absurd h (by decide), fun h => absurd h (by decide), fun h => absurd h (by decide), fun h => absurd h (by decide)⟩, by decide, rfl, ⟨⟨rfl, rfl, rfl⟩, trivial⟩, ⟨[], rfl⟩, ⟨⟨rfl, rfl, rfl, rfl, rfl, rfl, rfl, rfl, trivial⟩, trivial⟩, rfl⟩
    · have e0 := q0 (by decide)
      have e1 := q1 (by decide)
      refine ⟨fun _ => ?_, fun h => absurd h (by decide)⟩
      refine ⟨fun _ => by decide, ?_⟩
      refine ⟨fun h => ?_, fun h => ?_⟩
      · have e : v = s2 := of_decide_eq_true h
        refine ⟨i_cg ?_, _, rfl⟩
        unfold idxF
        rw [if_neg e0]
        rw [if_neg e1]
        rw [if_pos e]
        rfl
      · have e2 : ¬ v = s2 := of_decide_eq_false h
        exact ⟨3, ⟨by decide, fun _ => e0, fun _ => e1, fun _ => e2, fun h => absurd h (by decide), fun h => absurd h (by decide), fun h => absurd h (by decide), fun h => absurd h (by decide), fun h => absurd h (by decide)⟩, by decide, rfl, ⟨⟨rfl, rfl, rfl⟩, trivial⟩, ⟨[], rfl⟩, ⟨⟨rfl, rfl, rfl, rfl, rfl, rfl, rfl, rfl, trivial⟩, trivial⟩, rfl⟩
    · have e0 := q0 (by decide)
      have e1 := q1 (by decide)
      have e2 := q2 (by decide)
      refine ⟨fun _ => ?_, fun h => absurd h (by decide)⟩
      refine ⟨fun _ => by decide, ?_⟩
      refine ⟨fun h => ?_, fun h => ?_⟩
      · have e : v = s3 := of_decide_eq_true h
        refine ⟨i_cg ?_, _, rfl⟩
        unfold idxF
        rw [if_neg e0]
        rw [if_neg e1]
        rw [if_neg e2]
        rw [if_pos e]
        rfl
      · have e3 : ¬ v = s3 := of_decide_eq_false h
        exact ⟨4, ⟨by decide, fun _ => e0, fun _ => e1, fun _ => e2, fun _ => e3, fun h => absurd h (by decide), fun h => absurd h (by decide), fun h => absurd h (by decide), fun h => absurd h (by decide)⟩, by decide, rfl, ⟨⟨rfl, rfl, rfl⟩, trivial⟩, ⟨[], rfl⟩, ⟨⟨rfl, rfl, rfl, rfl, rfl, rfl, rfl, rfl, trivial⟩, trivial⟩, rfl⟩
    · have e0 := q0 (by decide)
      have e1 := q1 (by decide)
      have e2 := q2 (by decide)
      have e3 := q3 (by decide)
      refine ⟨fun _ => ?_, fun h => absurd h (by decide)⟩
      refine ⟨fun _ => by decide, ?_⟩
      refine ⟨fun h => ?_, fun h => ?_⟩
      · have e : v = s4 := of_decide_eq_true h
        refine ⟨i_cg ?_, _, rfl⟩
        unfold idxF
        rw [if_neg e0]
        rw [if_neg e1]
        rw [if_neg e2]
        rw [if_neg e3]
        rw [if_pos e]
        rfl
      · have e4 : ¬ v = s4 := of_decide_eq_false h
        exact ⟨5, ⟨by decide, fun _ => e0, fun _ => e1, fun _ => e2, fun _ => e3, fun _ => e4, fun h => absurd h (by decide), fun h => absurd h (by decide), fun h => absurd h (by decide)⟩, by decide, rfl, ⟨⟨rfl, rfl, rfl⟩, trivial⟩, ⟨[], rfl⟩, ⟨⟨rfl, rfl, rfl, rfl, rfl, rfl, rfl, rfl, trivial⟩, trivial⟩, rfl⟩
    · have e0 := q0 (by decide)
      have e1 := q1 (by decide)
      have e2 := q2 (by decide)
      have e3 := q3 (by decide)
      have e4 := q4 (by decide)
      refine ⟨fun _ => ?_, fun h => absurd h (by decide)⟩
      refine ⟨fun _ => by decide, ?_⟩
      refine ⟨fun h => ?_, fun h => ?_⟩
      · have e : v = s5 := of_decide_eq_true h
        refine ⟨i_cg ?_, _, rfl⟩
        unfold idxF
        rw [if_neg e0]
        rw [if_neg e1]
        rw [if_neg e2]
        rw [if_neg e3]
        rw [if_neg e4]
        rw [if_pos e]
        rfl
      · have e5 : ¬ v = s5 := of_decide_eq_false h
        exact ⟨6, ⟨by decide, fun _ => e0, fun _ => e1, fun _ => e2, fun _ => e3, fun _ => e4, fun _ => e5, fun h => absurd h (by decide), fun h => absurd h (by decide)⟩, by decide, rfl, ⟨⟨rfl, rfl, rfl⟩, trivial⟩, ⟨[], rfl⟩, ⟨⟨rfl, rfl, rfl, rfl, rfl, rfl, rfl, rfl, trivial⟩, trivial⟩, rfl⟩
    · have e0 := q0 (by decide)
      have e1 := q1 (by decide)
      have e2 := q2 (by decide)
      have e3 := q3 (by decide)
      have e4 := q4 (by decide)
      have e5 := q5 (by decide)
      refine ⟨fun _ => ?_, fun h => absurd h (by decide)⟩
      refine ⟨fun _ => by decide, ?_⟩
      refine ⟨fun h => ?_, fun h => ?_⟩
      · have e : v = s6 := of_decide_eq_true h
        refine ⟨i_cg ?_, _, rfl⟩
        unfold idxF
        rw [if_neg e0]
        rw [if_neg e1]
        rw [if_neg e2]
        rw [if_neg e3]
        rw [if_neg e4]
        rw [if_neg e5]
        rw [if_pos e]
        rfl
      · have e6 : ¬ v = s6 := of_decide_eq_false h
        exact ⟨7, ⟨by decide, fun _ => e0, fun _ => e1, fun _ => e2, fun _ => e3, fun _ => e4, fun _ => e5, fun _ => e6, fun h => absurd h (by decide)⟩, by decide, rfl, ⟨⟨rfl, rfl, rfl⟩, trivial⟩, ⟨[], rfl⟩, ⟨⟨rfl, rfl, rfl, rfl, rfl, rfl, rfl, rfl, trivial⟩, trivial⟩, rfl⟩
    · have e0 := q0 (by decide)
      have e1 := q1 (by decide)
      have e2 := q2 (by decide)
      have e3 := q3 (by decide)
      have e4 := q4 (by decide)
      have e5 := q5 (by decide)
      have e6 := q6 (by decide)
      refine ⟨fun _ => ?_, fun h => absurd h (by decide)⟩
      refine ⟨fun _ => by decide, ?_⟩
      refine ⟨fun h => ?_, fun h => ?_⟩
      · have e : v = s7 := of_decide_eq_true h
        refine ⟨i_cg ?_, _, rfl⟩
        unfold idxF
        rw [if_neg e0]
        rw [if_neg e1]
        rw [if_neg e2]
        rw [if_neg e3]
        rw [if_neg e4]
        rw [if_neg e5]
        rw [if_neg e6]
        rw [if_pos e]
        rfl
      · have e7 : ¬ v = s7 := of_decide_eq_false h
        exact ⟨8, ⟨by decide, fun _ => e0, fun _ => e1, fun _ => e2, fun _ => e3, fun _ => e4, fun _ => e5, fun _ => e6, fun _ => e7⟩, by decide, rfl, ⟨⟨rfl, rfl, rfl⟩, trivial⟩, ⟨[], rfl⟩, ⟨⟨rfl, rfl, rfl, rfl, rfl, rfl, rfl, rfl, trivial⟩, trivial⟩, rfl⟩
    · have e0 := q0 (by decide)
      have e1 := q1 (by decide)
      have e2 := q2 (by decide)
      have e3 := q3 (by decide)
      have e4 := q4 (by decide)
      have e5 := q5 (by decide)
      have e6 := q6 (by decide)
      have e7 := q7 (by decide)
      refine ⟨fun h => absurd h (by decide), fun _ => ⟨i_cg ?_, _, rfl⟩⟩
      unfold idxF
      rw [if_neg e0, if_neg e1, if_neg e2, if_neg e3, if_neg e4, if_neg e5, if_neg e6, if_neg e7]
theorem lreg_ok (s0 s1 s2 s3 s4 s5 s6 s7 h v : List UInt8) (rd pr : Nat) : Ctr Tryz.prog 79 [.ptr 1 1 0 [], .s v] [rowS s0 s1 s2 s3 s4 s5 s6 s7, langB h rd pr] (fun r h' => r = .i .i64 (idxF s0 s1 s2 s3 s4 s5 s6 s7 v) ∧ h' = [rowS s0 s1 s2 s3 s4 s5 s6 s7, langB h rd pr]) := by
  refine Ctr.enterG tabOkF (fn := Tryz.f79) rfl rfl rfl rfl rfl rfl bndLang ?_
  refine OpC.callG rfl rfl rfl rfl rfl rfl (fun _ => Ctr.spread (index_s s0 s1 s2 s3 s4 s5 s6 s7 v) (fun ρ => rfl) _ [0] rfl rfl ⟨rfl, trivial⟩ rfl) ?_
  exact ⟨rfl, _, rfl⟩
theorem x86Reg_ok (v : List UInt8) : CtrV Tryz.prog 27 [.s v] (.i .i64 (idxF [82, 65, 88] [82, 66, 88] [82, 67, 88] [82, 68, 88] [82, 83, 73] [82, 68, 73] [82, 56] [82, 57] v)) := by
  refine Ctr.enterV tabOkF (fn := Tryz.f27) rfl rfl rfl rfl rfl rfl ?_
  refine OpC.callL rfl rfl rfl rfl [] 2 rfl rfl rfl x86_lang rfl rfl rfl rfl trivial rfl (fun r H' hk => ?_) ?_
  · obtain ⟨rfl, rfl⟩ := hk; exact ⟨Nat.zero_le _, Nat.le_refl _⟩
  rintro r H' ⟨rfl, rfl⟩
  refine OpC.callG rfl rfl rfl rfl rfl rfl (fun _ => lreg_ok [82, 65, 88] [82, 66, 88] [82, 67, 88] [82, 68, 88] [82, 83, 73] [82, 68, 73] [82, 56] [82, 57] [36] v 129 130) ?_
  exact rfl
theorem x86Print_ok (i : In) (lb t : List UInt8) (hb : formP i = true → XBoth i lb t) : CtrV Tryz.prog 23 [.agg (ienc i), .s lb] (ansF i lb t) := by
  have ht := ltext_ok i lb t hb
  obtain ⟨x, n, hx⟩ : ∃ x n, ansF i lb t = .tup [.s x, .i .i64 n] := ansF_any (p := fun r => ∃ x n, r = .tup [.s x, .i .i64 n]) fun x n => ⟨x, n, rfl⟩
  rw [hx] at ht ⊢
  refine Ctr.enterV tabOkF (fn := Tryz.f23) rfl rfl rfl rfl rfl rfl ?_
  refine WpC.dr tabOkF mixed 2 ?_
  refine OpD.callL rfl rfl rfl rfl [] 2 rfl rfl x86_lang rfl rfl rfl rfl trivial rfl rfl ?_
  refine OpD.callG [1, 2] rfl rfl rfl rfl rfl rfl (r := .tup [.s x, .i .i64 n]) (fun _ H1 hH => Ctr.spread ht (fun ρ => rfl) H1 [1, 2] rfl rfl ⟨hH 1 (by simp), hH 2 (by simp), trivial⟩ rfl) ?_
  refine ⟨by kernel_rfl, ?_⟩
  exact rfl
set_option maxHeartbeats 1000000 in
theorem rreg1_ok (v : List UInt8) : CtrV Tryz.prog 28 [.i .i64 1, .s v] (.i .i64 (idxF [82, 65, 88] [82, 66, 88] [82, 67, 88] [82, 68, 88] [82, 83, 73] [82, 68, 73] [82, 56] [82, 57] v)) := by
  refine Ctr.enterV tabOkF (fn := Tryz.f28) rfl rfl rfl rfl rfl rfl ?_
  refine WpC.loop tabOkF (β := Nat) (fun k => k ≤ 8 ∧ (0 < k → v ≠ [82, 65, 88]) ∧ (1 < k → v ≠ [82, 66, 88]) ∧ (2 < k → v ≠ [82, 67, 88]) ∧ (3 < k → v ≠ [82, 68, 88]) ∧ (4 < k → v ≠ [82, 83, 73]) ∧ (5 < k → v ≠ [82, 68, 73]) ∧ (6 < k → v ≠ [82, 56]) ∧ (7 < k → v ≠ [82, 57])) (fun k => [(5, .i .i64 k)]) (fun _ => []) (fun k => 8 - k) 0 1048560 ⟨by decide, fun h => absurd h (by decide), fun h => absurd h (by decide), fun h => absurd h (by decide), fun h => absurd h (by decide), fun h => absurd h (by decide), fun h => absurd h (by decide), fun h => absurd h (by decide), fun h => absurd h (by decide)⟩ ?_ ?_
  · exact ⟨rfl, ⟨⟨rfl, rfl, rfl⟩, trivial⟩, ⟨[], rfl⟩, trivial, rfl⟩
  · rintro k ⟨hk, q0, q1, q2, q3, q4, q5, q6, q7⟩
    rcases (by omega : k = 0 ∨ k = 1 ∨ k = 2 ∨ k = 3 ∨ k = 4 ∨ k = 5 ∨ k = 6 ∨ k = 7 ∨ k = 8) with rfl | rfl | rfl | rfl | rfl | rfl | rfl | rfl | rfl
    · refine ⟨fun _ => ?_, fun h => absurd h (by decide)⟩
      refine OpC.callV rfl rfl rfl rfl rfl rfl rfl (fun _ => rname_ok 1 0) ?_
      refine ⟨fun h => ?_, fun h => ?_⟩
      · have h : ((!decide (v = [])) && decide ([82, 65, 88] = v)) = true := h
        have e : v = [82, 65, 88] := by simp at h; exact h.2.symm
        refine i_cg ?_
        unfold idxF
        rw [if_pos e]
        rfl
      · have h : ((!decide (v = [])) && decide ([82, 65, 88] = v)) = false := h
        have e0 : ¬ v = [82, 65, 88] := fun e => by subst e; exact absurd h (by decide)
        exact ⟨1, ⟨by decide, fun _ => e0, fun h => absurd h (by decide), fun h => absurd h (by decide), fun h => absurd h (by decide), fun h => absurd h (by decide), fun h => absurd h (by decide), fun h => absurd h (by decide), fun h => absurd h (by decide)⟩, by decide, rfl, ⟨⟨rfl, rfl, rfl⟩, trivial⟩, ⟨[], rfl⟩, trivial, rfl⟩
    · have e0 := q0 (by decide)
      refine ⟨fun _ => ?_, fun h => absurd h (by decide)⟩
      refine OpC.callV rfl rfl rfl rfl rfl rfl rfl (fun _ => rname_ok 1 1) ?_
      refine ⟨fun h => ?_, fun h => ?_⟩
      · have h : ((!decide (v = [])) && decide ([82, 66, 88] = v)) = true := h
        have e : v = [82, 66, 88] := by simp at h; exact h.2.symm
        refine i_cg ?_
        unfold idxF
        rw [if_neg e0]
        rw [if_pos e]
        rfl
      · have h : ((!decide (v = [])) && decide ([82, 66, 88] = v)) = false := h
        have e1 : ¬ v = [82, 66, 88] := fun e => by subst e; exact absurd h (by decide)
        exact ⟨2, ⟨by decide, fun _ => e0, fun _ => e1, fun h => absurd h (by decide), fun h => absurd h (by decide), fun h => absurd h (by decide), fun h => absurd h (by decide), fun h => absurd h (by decide), fun h => absurd h (by decide)⟩, by decide, rfl, ⟨⟨rfl, rfl, rfl⟩, trivial⟩, ⟨[], rfl⟩, trivial, rfl⟩
    · have e0 := q0 (by decide)
      have e1 := q1 (by decide)
      refine ⟨fun _ => ?_, fun h => absurd h (by decide)⟩
      refine OpC.callV rfl rfl rfl rfl rfl rfl rfl (fun _ => rname_ok 1 2) ?_
      refine ⟨fun h => ?_, fun h => ?_⟩
      · have h : ((!decide (v = [])) && decide ([82, 67, 88] = v)) = true := h
        have e : v = [82, 67, 88] := by simp at h; exact h.2.symm
        refine i_cg ?_
        unfold idxF
        rw [if_neg e0]
        rw [if_neg e1]
        rw [if_pos e]
        rfl
      · have h : ((!decide (v = [])) && decide ([82, 67, 88] = v)) = false := h
        have e2 : ¬ v = [82, 67, 88] := fun e => by subst e; exact absurd h (by decide)
        exact ⟨3, ⟨by decide, fun _ => e0, fun _ => e1, fun _ => e2, fun h => absurd h (by decide), fun h => absurd h (by decide), fun h => absurd h (by decide), fun h => absurd h (by decide), fun h => absurd h (by decide)⟩, by decide, rfl, ⟨⟨rfl, rfl, rfl⟩, trivial⟩, ⟨[], rfl⟩, trivial, rfl⟩
    · have e0 := q0 (by decide)
      have e1 := q1 (by decide)
      have e2 := q2 (by decide)
      refine ⟨fun _ => ?_, fun h => absurd h (by decide)⟩
      refine OpC.callV rfl rfl rfl rfl rfl rfl rfl (fun _ => rname_ok 1 3) ?_
      refine ⟨fun h => ?_, fun h => ?_⟩
      · have h : ((!decide (v = [])) && decide ([82, 68, 88] = v)) = true := h
        have e : v = [82, 68, 88] := by simp at h; exact h.2.symm
        refine i_cg ?_
        unfold idxF
        rw [if_neg e0]
        rw [if_neg e1]
        rw [if_neg e2]
        rw [if_pos e]
        rfl
      · have h : ((!decide (v = [])) && decide ([82, 68, 88] = v)) = false := h
        have e3 : ¬ v = [82, 68, 88] := fun e => by subst e; exact absurd h (by decide)
        exact ⟨4, ⟨by decide, fun _ => e0, fun _ => e1, fun _ => e2, fun _ => e3, fun h => absurd h (by decide), fun h => absurd h (by decide), fun h => absurd h (by decide), fun h => absurd h (by decide)⟩, by decide, rfl, ⟨⟨rfl, rfl, rfl⟩, trivial⟩, ⟨[], rfl⟩, trivial, rfl⟩
    · have e0 := q0 (by decide)
      have e1 := q1 (by decide)
      have e2 := q2 (by decide)
      have e3 := q3 (by decide)
      refine ⟨fun _ => ?_, fun h => absurd h (by decide)⟩
      refine OpC.callV rfl rfl rfl rfl rfl rfl rfl (fun _ => rname_ok 1 4) ?_
      refine ⟨fun h => ?_, fun h => ?_⟩
      · have h : ((!decide (v = [])) && decide ([82, 83, 73] = v)) = true := h
        have e : v = [82, 83, 73] := by simp at h; exact h.2.symm
        refine i_cg ?_
        unfold idxF
        rw [if_neg e0]
        rw [if_neg e1]
        rw [if_neg e2]
        rw [if_neg e3]
        rw [if_pos e]
        rfl
      · have h : ((!decide (v = [])) && decide ([82, 83, 73] = v)) = false := h
        have e4 : ¬ v = [82, 83, 73] := fun e => by subst e; exact absurd h (by decide)
        exact ⟨5, ⟨by decide, fun _ => e0, fun _ => e1, fun _ => e2, fun _ => e3, fun _ => e4, fun h => absurd h (by decide), fun h => absurd h (by decide), fun h => absurd h (by decide)⟩, by decide, rfl, ⟨⟨rfl, rfl, rfl⟩, trivial⟩, ⟨[], rfl⟩, trivial, rfl⟩
    · have e0 := q0 (by decide)
      have e1 := q1 (by decide)
      have e2 := q2 (by decide)
      have e3 := q3 (by decide)
      have e4 := q4 (by decide)
      refine ⟨fun _ => ?_, fun h => absurd h (by decide)⟩
      refine OpC.callV rfl rfl rfl rfl rfl rfl rfl (fun _ => rname_ok 1 5) ?_
      refine ⟨fun h => ?_, fun h => ?_⟩
      · have h : ((!decide (v = [])) && decide ([82, 68, 73] = v)) = true := h
        have e : v = [82, 68, 73] := by simp at h; exact h.2.symm
        refine i_cg ?_
        unfold idxF
        rw [if_neg e0]
        rw [if_neg e1]
        rw [if_neg e2]
        rw [if_neg e3]
        rw [if_neg e4]
        rw [if_pos e]
        rfl
      · have h : ((!decide (v = [])) && decide ([82, 68, 73] = v)) = false := h
        have e5 : ¬ v = [82, 68, 73] := fun e => by subst e; exact absurd h (by decide)
        exact ⟨6, ⟨by decide, fun _ => e0, fun _ => e1, fun _ => e2, fun _ => e3, fun _ => e4, fun _ => e5, fun h => absurd h (by decide), fun h => absurd h (by decide)⟩, by decide, rfl, ⟨⟨rfl, rfl, rfl⟩, trivial⟩, ⟨[], rfl⟩, trivial, rfl⟩
    · have e0 := q0 (by decide)
      have e1 := q1 (by decide)
      have e2 := q2 (by decide)
      have e3 := q3 (by decide)
      have e4 := q4 (by decide)
      have e5 := q5 (by decide)
      refine ⟨fun _ => ?_, fun h => absurd h (by decide)⟩
      refine OpC.callV rfl rfl rfl rfl rfl rfl rfl (fun _ => rname_ok 1 6) ?_
      refine ⟨fun h => ?_, fun h => ?_⟩
      · have h : ((!decide (v = [])) && decide ([82, 56] = v)) = true := h
        have e : v = [82, 56] := by simp at h; exact h.2.symm
        refine i_cg ?_
        unfold idxF
        rw [if_neg e0]
        rw [if_neg e1]
        rw [if_neg e2]
        rw [if_neg e3]
        rw [if_neg e4]
        rw [if_neg e5]
        rw [if_pos e]
        rfl
      · have h : ((!decide (v = [])) && decide ([82, 56] = v)) = false := h
        have e6 : ¬ v = [82, 56] := fun e => by subst e; exact absurd h (by decide)
        exact ⟨7, ⟨by decide, fun _ => e0, fun _ => e1, fun _ => e2, fun _ => e3, fun _ => e4, fun _ => e5, fun _ => e6, fun h => absurd h (by decide)⟩, by decide, rfl, ⟨⟨rfl, rfl, rfl⟩, trivial⟩, ⟨[], rfl⟩, trivial, rfl⟩
    · have e0 := q0 (by decide)
      have e1 := q1 (by decide)
      have e2 := q2 (by decide)
      have e3 := q3 (by decide)
      have e4 := q4 (by decide)
      have e5 := q5 (by decide)
      have e6 := q6 (by decide)
      refine ⟨fun _ => ?_, fun h => absurd h (by decide)⟩
      refine OpC.callV rfl rfl rfl rfl rfl rfl rfl (fun _ => rname_ok 1 7) ?_
      refine ⟨fun h => ?_, fun h => ?_⟩
      · have h : ((!decide (v = [])) && decide ([82, 57] = v)) = true := h
        have e : v = [82, 57] := by simp at h; exact h.2.symm
        refine i_cg ?_
        unfold idxF
        rw [if_neg e0]
        rw [if_neg e1]
        rw [if_neg e2]
        rw [if_neg e3]
        rw [if_neg e4]
        rw [if_neg e5]
        rw [if_neg e6]
        rw [if_pos e]
        rfl
      · have h : ((!decide (v = [])) && decide ([82, 57] = v)) = false := h
        have e7 : ¬ v = [82, 57] := fun e => by subst e; exact absurd h (by decide)
        exact ⟨8, ⟨by decide, fun _ => e0, fun _ => e1, fun _ => e2, fun _ => e3, fun _ => e4, fun _ => e5, fun _ => e6, fun _ => e7⟩, by decide, rfl, ⟨⟨rfl, rfl, rfl⟩, trivial⟩, ⟨[], rfl⟩, trivial, rfl⟩
    · have e0 := q0 (by decide)
      have e1 := q1 (by decide)
      have e2 := q2 (by decide)
      have e3 := q3 (by decide)
      have e4 := q4 (by decide)
      have e5 := q5 (by decide)
      have e6 := q6 (by decide)
      have e7 := q7 (by decide)
      refine ⟨fun h => absurd h (by decide), fun _ => i_cg ?_⟩
      unfold idxF
      rw [if_neg e0, if_neg e1, if_neg e2, if_neg e3, if_neg e4, if_neg e5, if_neg e6, if_neg e7]
end SX
end Go.Proofs.YtlgjjklikbpcoaaGreatDoor

/- What a run of law 5's able() asks of the library, as memos. -/
set_option linter.unusedVariables false
set_option maxRecDepth 100000
namespace Go.Proofs.YtlgjjklikbpcoaaGreatDoor
namespace SX
open Go Go.Proofs
def mIB (c n : Int) : Memo := ⟨62, [.s [123, 125, 40, 41, 91, 93, 59, 124, 44, 58, 61, 43, 45, 35, 36, 126, 42, 47, 92, 38, 63, 94], .i .u8 c], [], .i .i64 n, []⟩
theorem mIB_ok {c n : Int} (h : Lib.indexByte marksL c.toNat.toUInt8 = n) : MemoOk Tryz.prog (mIB c n) := by
  subst h
  exact sIndexByte_ok marksL c
def mLoc (s : List UInt8) (n : Int) : Memo := ⟨55, [.s [120, 121, 122], .s s], [], .i .i64 n, []⟩
theorem mLoc_ok {s : List UInt8} {n : Int} (h : Lib.index [120, 121, 122] s = n) : MemoOk Tryz.prog (mLoc s n) := by
  subst h
  exact sIndex_ok [120, 121, 122] s (by decide)
def mNum (w : List UInt8) (n : Nat) : Memo := ⟨60, [.s w], [], .tup [.i .i64 n, .b true], []⟩
theorem mNum_ok {w : List UInt8} {n : Nat} (h : numF w = some n) (hn : (w.all fun c => numB (c.toNat : Int)) = true) (hw : w.length ≤ 10000) (h2 : n ≤ 9223372036854775807) : MemoOk Tryz.prog (mNum w n) := by
  refine (number_ok w (fun c hc => List.all_eq_true.1 hn c hc) hw).mono callX_m ?_
  rintro r h' ⟨hr, rfl⟩
  rw [h] at hr
  have hr : r = .tup [.i .i64 (IntKind.i64.wrap n), .b true] := hr
  rw [w64 (by omega) (by omega)] at hr
  exact ⟨hr, rfl⟩
def mJoin (xs : List (List UInt8)) (n : Nat) (r : List UInt8) : Memo := ⟨99, [.sl 0 1 0 n (some n) 0, .s [44]], [.mem 9 (xs.map .s) 1 0], .s r, [.mem 9 (xs.map .s) 1 0]⟩
theorem mJoin_ok {xs : List (List UInt8)} {n : Nat} {r : List UInt8} (hn : xs.length = n) (hn2 : n ≤ 1000) (h : Lib.join xs [44] = r) (hl : r.length ≤ 1000) : MemoOk Tryz.prog (mJoin xs n r) := by
  subst h
  exact join_ok xs n hn hn2 [44] (by omega)
def x5ms : List Memo := [mIB 91 4, mIB 93 5, mIB 43 11, mIB 44 8, mLoc [120] 0, mNum [52] 4, mJoin [[91, 120, 43, 52, 93], [82, 66, 88]] 2 [91, 120, 43, 52, 93, 44, 82, 66, 88]]
theorem x5ms_ok : ∀ m ∈ x5ms, MemoOk Tryz.prog m := by
  intro m hm
  simp only [x5ms, List.mem_cons, List.not_mem_nil, or_false] at hm
  rcases hm with rfl | rfl | rfl | rfl | rfl | rfl | rfl
  · exact mIB_ok (by decide)
  · exact mIB_ok (by decide)
  · exact mIB_ok (by decide)
  · exact mIB_ok (by decide)
  · exact mLoc_ok (by decide)
  · exact mNum_ok (by decide) (by decide) (by decide) (by decide)
  · exact mJoin_ok rfl (by decide) (by decide) (by decide)
end SX
end Go.Proofs.YtlgjjklikbpcoaaGreatDoor

/- Law 5: able() answers true. -/
set_option maxRecDepth 100000
namespace Go.Proofs.YtlgjjklikbpcoaaGreatDoor
namespace SX
open Go Go.Proofs
def x5able : Memo := ⟨19, [], [], .b true, []⟩
theorem able5_ok : CtrV Tryz.prog 19 [] (.b true) := (memo_of (m := x5able) (tr := treeF) (ft := ftree) (ms := x5ms) (n := 40) tabOkF ftOk mixed x5ms_ok (by decide +kernel) : MemoOk Tryz.prog x5able)
end SX
end Go.Proofs.YtlgjjklikbpcoaaGreatDoor

/- SX: rows: slices and structs of plain cells, opened. -/
set_option linter.unusedVariables false
set_option linter.unusedSimpArgs false
namespace Go.Proofs.YtlgjjklikbpcoaaGreatDoor
namespace SX
open Go Go.ChangeShapes Go.WideShapes

/-- What a cell of a kind may hold. -/
def LKv : LK → Value → Prop
  | .i k, v => ∃ n, v = .int k n ∧ (Lit.int k n).wf = true
  | .b, v => ∃ b, v = .bool b
  | .s, v => ∃ s : ByteArray, v = .string s ∧ s.size ≤ maxLen
def LKs : List LK → List Value → Prop
  | [], [] => True
  | k :: ls, v :: cs => LKv k v ∧ LKs ls cs
  | _, _ => False
theorem LKs.len : ∀ {ls : List LK} {cs : List Value}, LKs ls cs → cs.length = ls.length
  | [], [], _ => rfl
  | k :: ls, v :: cs, h => by simp only [LKs] at h; simp [LKs.len h.2]
  | [], _ :: _, h => h.elim
  | _ :: _, [], h => h.elim
theorem LKs.app : ∀ {ls rs : List LK} {cs ds : List Value}, LKs ls cs → LKs rs ds → LKs (ls ++ rs) (cs ++ ds)
  | [], rs, [], ds, _, h => h
  | k :: ls, rs, v :: cs, ds, h, h' => by simp only [LKs, List.cons_append] at h ⊢; exact ⟨h.1, LKs.app h.2 h'⟩
  | [], _, _ :: _, _, h, _ => h.elim
  | _ :: _, _, [], _, h, _ => h.elim
theorem LKs_rep {ls : List LK} {m : Nat} (hm : ls.length = m) : ∀ (n : Nat) (cs : List Value), cs.length = n * m → (∀ i, i < n → LKs ls ((cs.drop (i * m)).take m)) → LKs (rep n ls) cs
  | 0, cs, hl, _ => by
    have : cs = [] := List.eq_nil_of_length_eq_zero (by omega)
    subst this; simp [rep, LKs]
  | n + 1, cs, hl, h => by
    have h0 := h 0 (by omega)
    rw [Nat.zero_mul, List.drop_zero] at h0
    have h1 := LKs_rep hm n (cs.drop m) (by rw [List.length_drop, hl, Nat.succ_mul]; omega) fun i hi => by
      have := h (i + 1) (by omega)
      rw [List.drop_drop, show m + i * m = (i + 1) * m by rw [Nat.succ_mul, Nat.add_comm]]
      exact this
    have := h0.app h1
    rw [List.take_append_drop] at this
    simpa only [rep] using this
section
variable {H : Type} {enc : TypeId × Value → H} {P : Program} {w : World} {base : Nat} {spare : Nat → Bool} {held : Bool}
mutual
theorem trod_flat : ∀ (f : Nat) (t : TypeId) (ls : List LK), shape P f t = some ls → P.cellsOf t = ls.length → ∀ (fuel : Nat) (cs : List Value) (x : DataW H × List MemPlace), DataW.trod enc P w base spare held fuel t cs = some x → LKs ls cs
  | 0, t, ls, h, _, _, _, _, _ => by simp [shape] at h
  | f + 1, t, ls, h, hc, fuel, cs, x, hx => by
    unfold shape at h
    cases hu : P.underlying t with
    | none => simp [hu] at h
    | some d =>
      rw [hu] at h
      cases d <;> simp only at h <;> try (cases h; done)
      case bool =>
        cases h
        obtain ⟨b, rfl, _⟩ := DataW.trod_bool hu hx
        exact ⟨⟨b, rfl⟩, trivial⟩
      case int k =>
        cases h
        obtain ⟨n, rfl, _, hw⟩ := DataW.trod_int hu hx
        exact ⟨⟨n, rfl, hw⟩, trivial⟩
      case string =>
        cases h
        obtain ⟨s, rfl, _, hw⟩ := DataW.trod_string hu hx
        exact ⟨⟨s, rfl, hw⟩, trivial⟩
      case struct fs =>
        cases hsh : P.stoodInHeld t with
        | true => rw [hsh] at h; cases h
        | false =>
          rw [hsh] at h
          simp only [cond_false] at h
          obtain ⟨xs, n, rfl, _, hl, hxl, hg⟩ := DataW.trod_struct hu hx
          have := trod_flatF f 0 fs.toList ls h n cs (fun i fl hi => by
            have hi' : fs[i]? = some fl := by simpa using hi
            have hlt : i < xs.length := by
              rw [hxl]
              rcases Nat.lt_or_ge i fs.size with h | h
              · exact h
              · rw [Array.getElem?_eq_none h] at hi'; cases hi'
            exact ⟨_, (hg i fl hi').trans (List.getElem?_eq_getElem hlt)⟩) (by omega)
          rw [List.drop_zero, List.take_of_length_le (by omega)] at this
          exact this
      case array n e =>
        cases hs : shape P f e with
        | none => rw [hs] at h; cases h
        | some es =>
          rw [hs] at h
          simp only at h
          cases hb : Nat.beq (P.cellsOf e) es.length with
          | false => rw [hb] at h; cases h
          | true =>
            rw [hb] at h
            simp only [cond_true, Option.some.injEq] at h
            subst h
            have hce := Nat.eq_of_beq_eq_true hb
            obtain ⟨xs, m, rfl, _, hl, hxl, hg⟩ := DataW.trod_array hu hx
            refine LKs_rep hce.symm n cs (by rw [hl, hc, rep_length, hce]) fun i hi => ?_
            have hlt : i < xs.length := by omega
            exact trod_flat f e es hs hce m _ _ ((hg i hi).trans (List.getElem?_eq_getElem hlt))
theorem trod_flatF : ∀ (f off : Nat) (fs : List Field) (ls : List LK), shapeF P f off fs = some ls → ∀ (n : Nat) (cs : List Value), (∀ (i : Nat) (fl : Field), fs[i]? = some fl → ∃ y, DataW.trod enc P w base spare held n fl.type ((cs.drop fl.offset).take (P.cellsOf fl.type)) = some y) → off + ls.length ≤ cs.length → LKs ls ((cs.drop off).take ls.length)
  | f, off, [], ls, h, n, cs, _, _ => by
    unfold shapeF at h
    simp only [Option.some.injEq] at h
    subst h
    simp [LKs]
  | 0, off, _ :: _, ls, h, _, _, _, _ => by simp [shapeF] at h
  | f + 1, off, x :: r, ls, h, n, cs, hg, hl => by
    unfold shapeF at h
    cases hc : (x.name == "_" || !(Nat.beq x.offset off)) with
    | true => rw [hc] at h; cases h
    | false =>
      rw [hc] at h
      simp only [cond_false] at h
      simp only [Bool.or_eq_false_iff, Bool.not_eq_false'] at hc
      have hoff := Nat.eq_of_beq_eq_true hc.2
      cases hs : shape P f x.type with
      | none => rw [hs] at h; cases h
      | some es =>
        rw [hs] at h
        simp only at h
        cases hb : Nat.beq (P.cellsOf x.type) es.length with
        | false => rw [hb] at h; cases h
        | true =>
          rw [hb] at h
          simp only [cond_true] at h
          have hce := Nat.eq_of_beq_eq_true hb
          cases hr : shapeF P f (off + es.length) r with
          | none => rw [hr] at h; cases h
          | some rs =>
            rw [hr] at h
            simp only [Option.some.injEq] at h
            subst h
            rw [List.length_append] at hl
            obtain ⟨y, hy⟩ := hg 0 x rfl
            have h1 := trod_flat f x.type es hs hce n _ _ hy
            rw [hoff, hce] at h1
            have h2 := trod_flatF f (off + es.length) r rs hr n cs (fun i fl hi => hg (i + 1) fl (by simpa using hi)) (by omega)
            have := h1.app h2
            rw [← List.drop_drop, ← List.take_add, ← List.length_append] at this
            exact this
end
/-- A struct of plain cells by value, opened. -/
theorem open_agg {r : Reach} {b0 f : Nat} {t : TypeId} {ls : List LK} {v : Value} {d : DataW H} {p : List MemPlace} (ht : ∃ fs, P.underlying t = some (.struct fs)) (hsh : shape P f t = some ls) (hc : P.cellsOf t = ls.length)
    (hv : Value.okWide P w r b0 t v) (h : DataW.Trod enc P w base spare held t v d p) : ∃ cs : List Value, v = .agg cs.toArray ∧ LKs ls cs := by
  obtain ⟨fs, hs⟩ := ht
  obtain ⟨cs, rfl, hsz⟩ := okWide_struct hs hv
  obtain ⟨fuel, hf⟩ := h
  have := trod_flat f t ls hsh hc fuel _ _ hf
  exact ⟨cs.toList, by simp, this⟩
end
end SX
end Go.Proofs.YtlgjjklikbpcoaaGreatDoor

/- SX: rows: the form's own reach bounds a slice that came in. -/
set_option linter.unusedVariables false
namespace Go.Proofs.YtlgjjklikbpcoaaGreatDoor
namespace SX
open Go Go.ChangeShapes Go.WideShapes Go.ChangeAt
section
variable {H : Type} {enc : TypeId × Value → H} {P : Program} {w : World} {base : Nat} {spare : Nat → Bool} {held : Bool}
end
end SX
end Go.Proofs.YtlgjjklikbpcoaaGreatDoor

/- SX: rows: the tables that a row lists lie in the world. -/
set_option linter.unusedVariables false
namespace Go.Proofs.YtlgjjklikbpcoaaGreatDoor
namespace SX
open Go
theorem laidVars_mem {P : Program} {w : World} {n : String} {d : DataW Unit} : ∀ {l : List (String × DataW Unit)} {ps : List MemPlace}, DataW.LaidVars P w l ps → (n, d) ∈ l →
    ∃ g t cs fuel p, P.globalNamed n = some g ∧ (P.globals[g]?).map (·.type) = some t ∧ w.var? P n = some cs ∧ DataW.trod (fun _ => ()) P w 0 (fun _ => true) false fuel t cs.toList = some (d, p)
  | [], _, _, h => by cases h
  | (n', d') :: r, ps, hl, h => by
    obtain ⟨g, t, cs, fuel, p, q, h1, h2, h3, h4, h5, _⟩ := hl
    rcases List.mem_cons.1 h with h | h
    · cases h; exact ⟨g, t, cs, fuel, p, h1, h2, h3, h4⟩
    · exact laidVars_mem h5 h
theorem laidMetH_plain {P : Program} {l : List (String × DataW Unit)} {w : World} (hf : (l.filter fun x => x.2.handleName?.isSome) = []) (h : laidMetH P l w) : laidMet P l w := by
  unfold laidMetH at h
  rw [hf] at h
  exact h
theorem trod_ifc {H : Type} {enc : TypeId × Value → H} {P : Program} {w : World} {base : Nat} {sp : Nat → Bool} {held : Bool} {fuel : Nat} {t : TypeId} {ms} {cs : List Value} {tn : String} {d : DataW H} {p : List MemPlace}
    (ht : P.underlying t = some (.interface ms)) (h : DataW.trod enc P w base sp held fuel t cs = some (.iface tn d, p)) : ∃ u v, cs = [.iface u v] := by
  cases fuel with
  | zero => simp [DataW.trod] at h
  | succ fuel =>
    unfold DataW.trod at h
    rw [ht] at h
    match cs, h with
    | [.iface u v], _ => exact ⟨u, v, rfl⟩
    | [.nilIface], h => simp at h
    | [], h => simp at h
    | _ :: _ :: _, h => simp at h
    | [.int _ _], h | [.bool _], h | [.float _ _], h | [.string _], h | [.pointer _], h | [.slice _ _ _], h | [.agg _], h | [.map _], h | [.func _ _ _], h | [.nilFunc], h | [.tuple _], h | [.chan _], h => simp at h
/-- How a row lists a table. -/
def TbRow (P : Program) (laid : List (String × DataW Unit)) (g : Nat) : TbV → Prop
  | .ints k zs => ∃ n t N e, (n, Lib.tabData k zs) ∈ laid ∧ P.globalNamed n = some g ∧ (P.globals[g]?).map (·.type) = some t ∧ P.underlying t = some (.array N e) ∧ P.underlying e = some (.int k) ∧ P.cellsOf e = 1 ∧ P.cellsOf t = N
  | .ifc => ∃ n t ms tn d, (n, .iface tn d) ∈ laid ∧ P.globalNamed n = some g ∧ (P.globals[g]?).map (·.type) = some t ∧ P.underlying t = some (.interface ms)
  | .anyI _ => False
theorem var_at {P : Program} {w : World} {n : String} {g : Nat} {cs : Array Value} (hg : P.globalNamed n = some g) (h : w.var? P n = some cs) : ∃ t fr, w.heap[g]? = some (.cells cs t fr) := by
  unfold World.var? at h
  rw [hg] at h
  simp only [Option.bind_some] at h
  split at h
  · rename_i c t fr hh; cases h; exact ⟨t, fr, hh⟩
  · cases h
theorem tabsIn_of {P : Program} {laid : List (String × DataW Unit)} {w : World} (hf : (laid.filter fun x => x.2.handleName?.isSome) = []) (h : laidMetH P laid w) (hr : ∀ g v, tabs g = some v → TbRow P laid g v ∨ TbAt (fun b => w.heap[b]?) g v) : TabsIn w := by
  obtain ⟨ps, hl, _⟩ := laidMetH_plain hf h
  intro g v hg
  rcases hr g v hg with hv | hv
  rotate_left
  · exact hv
  cases v with
  | ints k zs =>
    obtain ⟨n, t, N, e, hm, h1, h2, h3, h4, h5, h6⟩ := hv
    obtain ⟨g', t', cs, fuel, p, g1, g2, g3, g4⟩ := laidVars_mem hl hm
    obtain rfl := Option.some.inj (h1.symm.trans g1)
    obtain rfl := Option.some.inj (h2.symm.trans g2)
    have := Lib.cells_of_tab h3 h4 h5 h6 g4
    obtain ⟨t2, fr, hh⟩ := var_at h1 g3
    refine ⟨t2, fr, ?_⟩
    show w.heap[g]? = _
    rw [hh, ← this]
  | anyI k => exact hv.elim
  | ifc =>
    obtain ⟨n, t, ms, tn, d, hm, h1, h2, h3⟩ := hv
    obtain ⟨g', t', cs, fuel, p, g1, g2, g3, g4⟩ := laidVars_mem hl hm
    obtain rfl := Option.some.inj (h1.symm.trans g1)
    obtain rfl := Option.some.inj (h2.symm.trans g2)
    obtain ⟨u, v, hc⟩ := trod_ifc h3 g4
    obtain ⟨t2, fr, hh⟩ := var_at h1 g3
    refine ⟨u, v, t2, fr, ?_⟩
    show w.heap[g]? = _
    rw [hh]
    congr 2
    exact Array.toList_inj.1 (by simpa using hc)
theorem anyI_at {w : World} {g : Nat} {k : IntKind} (h : ∃ m, w.cell? ⟨g, 0, none⟩ = some (.int k m)) : TbAt (fun b => w.heap[b]?) g (.anyI k) := by
  obtain ⟨m, hm⟩ := h
  unfold World.cell? at hm
  simp only at hm
  split at hm
  · rename_i arr t fr hh
    exact ⟨m, arr, t, fr, hh, by simpa using hm⟩
  · cases hm
end SX
end Go.Proofs.YtlgjjklikbpcoaaGreatDoor

/- SX: rows: the world at the call is of the program's shape. -/
set_option linter.unusedVariables false
namespace Go.Proofs.YtlgjjklikbpcoaaGreatDoor
namespace SX
open Go Go.ChangeShapes Go.WideShapes Go.ChangeAt Go.RowKit
variable {H : Type} {enc : TypeId × Value → H}
theorem returns_shaped {a : Assume} {C : Checked} {os : Os} {f : FuncId} {fn : Func} {s : ChangeSpec} {conds : List PathCond} {apart fresh handsOn again : Bool} {X : World → Array Value → Prop}
    (hX : ∀ (w w' : World) (args : Array Value), w.heap = w'.heap → X w args → X w' args)
    (own : ownKnob C.prog.godebug = none) (started : os.Started) (noInit : C.prog.inits.idxOf? f = none) (hfn : C.prog.funcs[f]? = some fn)
    (witness : ∃ (w : World) (tape : Tape) (i : Input), w.os = os ∧ (w.forCall tape i).Shaped C.prog ∧ i.vars = [] ∧ Input.okWide C.prog (w.forCall tape i) .any w.heap.size f i ∧
      ((s.pre enc C.prog fn conds apart (w.forCall tape i).memory i.args ∧ X (w.forCall tape i).memory i.args) ∧ sizedMet enc C.prog fn (OpenSpec.ofChange s) apart (w.forCall tape i).memory i.args) ∧ a.holds C.prog (lone (Frame.enter C.prog f i.args .normal) [] (w.forCall tape i)))
    (contract : ∀ (W : World) (base : Nat) (args : Array Value) (ds gs : List (DataW H)) (before : List MemPlace),
      (∀ (j : Nat) t v, fn.params[j]? = some t → args[j]? = some v → Value.okWide C.prog W .any base t v) →
      DataW.Whole enc C.prog fn.params.toList s.vars apart W args.toList ds gs before →
      (DataW.weightsEach C.prog (fn.params.toList ++ s.plain.varTypes C.prog) (ds ++ gs)).all (· ≤ reachBytes) = true → X W args → W.ShapedOpen C.prog →
      Calls C.prog f args W fun e W' => ∃ v, e = .returned v ∧ s.post enc C.prog fn apart fresh handsOn again W args v W') :
    ReturnsInHanded a C os f .any (fun w args => (s.pre enc C.prog fn conds apart w args ∧ X w args) ∧ sizedMet enc C.prog fn (OpenSpec.ofChange s) apart w args) (s.post enc C.prog fn apart fresh handsOn again) := by
  refine returnsInHanded_of_calls own started noInit witness ?_
  intro w tape i _ hsh _ hok hpre hholds
  obtain ⟨_, _, _, fn', hfn', _, _, _, _, hval⟩ := hok
  have e : fn' = fn := Option.some.inj (hfn'.symm.trans hfn)
  subst e
  obtain ⟨⟨⟨ds, gs, before, hw, hc⟩, hx⟩, hz⟩ := hpre
  have hw' := DataW.Whole.of_heap (w' := w.forCall tape i) (by rfl) hw
  refine (contract (w.forCall tape i) w.heap.size i.args ds gs before hval hw' (hz.weights hw) (hX _ _ _ (by rfl) hx) hsh).mono fun e W' ⟨v, he, hp⟩ => ?_
  subst he
  exact ChangeSpec.post_blind hp
end SX
end Go.Proofs.YtlgjjklikbpcoaaGreatDoor
