/- A part of SX: symbolic and concrete runs of the program, with contracts of functions; lemmas without further conditions. -/
import Derived.Shelf.Strconv.Itoa3
import Derived.Lib.ItoaLen
import Derived.Test.YtlgjjklikbpcoaaGreatDoorXP
set_option linter.unusedVariables false
set_option linter.unusedSimpArgs false
set_option linter.unusedSectionVars false
/- strconv.Itoa: its contract, and the reference's Digits. -/
set_option linter.unusedVariables false
set_option maxRecDepth 100000
namespace Go.Proofs.YtlgjjklikbpcoaaGreatDoor
namespace SX
open Go Go.Proofs
theorem pow10_tab : tabs 5 = some (.ints .u64 Lib.pow10Tab) := by kernel_rfl
theorem itoa_ok (n : Int) (h0 : -9223372036854775808 ≤ n) (h1 : n ≤ 9223372036854775807) : CtrV Tryz.prog 93 [.i .i64 n] (.s (Lib.itoa n)) :=
  CtrV.of_grow (fn := Tryz.f93) Tryz.func93 rfl rfl (fun m => trivial) rfl fun w hT E m _ =>
    Any.strconv_Itoa Tryz.Itoa n h0 h1 w (tabIs_of hT (by kernel_rfl) pow10_tab)
theorem DI.len {n k : Nat} {s : List UInt8} (h : DI n k s) (hn : n ≤ 9223372036854775808) : s.length ≤ 20 := by
  rcases h with ⟨rfl, _⟩ | ⟨_, h2⟩
  · simp
  · have h3 := congrArg List.length h2
    rw [List.length_append] at h3
    have h4 := Lib.itoa_length_le (-(n : Int)) (by omega) (by omega)
    by_cases h0 : n = 0
    · subst h0
      have : (Lib.decDigits 0).length = 1 := by unfold Lib.decDigits; rfl
      omega
    · have h5 : Lib.itoa (-(n : Int)) = 45 :: Lib.decDigits n := by
        unfold Lib.itoa
        rw [if_pos (by omega), Int.natAbs_neg, Int.natAbs_natCast]
      rw [h5, List.length_cons] at h4
      omega
def sg (n : Int) (k : Nat) : Int := if n < 0 then -(k : Int) else k
theorem sg_rem {n : Int} {k : Nat} (hk : k ≤ 9223372036854775808) : (sg n k).tmod 10 = sg n (k % 10) := by
  unfold sg
  split
  · rw [Int.neg_tmod]; rfl
  · rfl
theorem sg_quo {n : Int} {k : Nat} : (sg n k).tdiv 10 = sg n (k / 10) := by
  unfold sg
  split
  · rw [Int.neg_tdiv]; rfl
  · rfl
theorem dig_byte {x : Int} {d : Nat} (h : x = d) (hd : d < 10) : toBytes [IntKind.u8.wrap (IntKind.i64.wrap (48 + x))] = [UInt8.ofNat (48 + d)] := by
  subst h
  rcases (by omega : d = 0 ∨ d = 1 ∨ d = 2 ∨ d = 3 ∨ d = 4 ∨ d = 5 ∨ d = 6 ∨ d = 7 ∨ d = 8 ∨ d = 9) with rfl | rfl | rfl | rfl | rfl | rfl | rfl | rfl | rfl | rfl <;> rfl
theorem digits_ok (n : Int) (h0 : -9223372036854775808 ≤ n) (h1 : n ≤ 9223372036854775807) : CtrV Tryz.prog 105 [.i .i64 n] (.s (Lib.itoa n)) := by
  refine Ctr.enterV tabOkF (fn := Tryz.f105) rfl rfl rfl rfl rfl rfl ?_
  refine WpC.loop tabOkF (β := Nat × List UInt8) (fun b => DI n.natAbs b.1 b.2 ∧ b.1 ≤ n.natAbs) (fun b => [(4, .i .i64 (sg n b.1)), (3, .s b.2)]) (fun _ => []) (fun b => 2 * b.1 + (if b.2 = [] then 1 else 0)) (n.natAbs, []) 268435384 ⟨.inl ⟨rfl, rfl⟩, Nat.le_refl _⟩ ?_ ?_
  · refine ⟨rfl, ⟨⟨?_, rfl, rfl⟩, ⟨rfl, rfl, rfl⟩, trivial⟩, ⟨[], rfl⟩, trivial, rfl⟩
    show SV.i .i64 n = SV.i .i64 (sg n n.natAbs)
    unfold sg; congr 1; split <;> omega
  · rintro ⟨k, s⟩ ⟨hD, hk⟩
    simp only at hD hk
    have hkm : k ≤ 9223372036854775808 := by omega
    have hl := hD.len (by omega)
    refine ⟨fun h2 => ?_, fun h2 => ?_⟩
    · have hc : s = [] ∨ k ≠ 0 := by
        have h2 : (decide (s = []) || !decide (sg n k = 0)) = true := h2
        simp only [Bool.or_eq_true, decide_eq_true_eq, Bool.not_eq_true', decide_eq_false_iff_not] at h2
        rcases h2 with h2 | h2
        · exact .inl h2
        · refine .inr fun e => h2 ?_
          subst e; unfold sg; split <;> rfl
      have hr := sg_rem (n := n) hkm
      have hq := sg_quo (n := n) (k := k)
      have hd : k % 10 < 10 := Nat.mod_lt _ (by decide)
      have hdiv : k / 10 ≤ k := Nat.div_le_self _ _
      have hmu : 2 * (k / 10) + 0 < 2 * k + (if s = [] then 1 else 0) := by
        rcases hc with rfl | hc
        · simp only [if_true]; omega
        · have := Nat.div_lt_self (Nat.pos_of_ne_zero hc) (by decide : 1 < 10); omega
      have hq2 : SV.i .i64 (IntKind.i64.wrap ((sg n k).tdiv 10)) = SV.i .i64 (sg n (k / 10)) := by
        rw [hq, wrap64]
        · unfold sg; split <;> omega
        · unfold sg; split <;> omega
      refine ⟨fun _ => by decide, ⟨fun h3 => ?_, fun h3 => ?_⟩⟩
      · have h3 : (sg n k).tmod 10 < 0 := of_decide_eq_true h3
        have hx : IntKind.i64.wrap (0 - (sg n k).tmod 10) = ((k % 10 : Nat) : Int) := by
          rw [hr] at h3 ⊢
          unfold sg at h3 ⊢
          split at h3
          · rename_i h4; rw [if_pos h4, wrap64 (by omega) (by omega)]; omega
          · omega
        refine OpC.str tabOkF rfl rfl rfl (r := .s (toBytes [IntKind.u8.wrap (IntKind.i64.wrap (48 + IntKind.i64.wrap (0 - (sg n k).tmod 10)))])) (rb := [0]) rfl ?_
        refine ⟨fun _ => ?_, ⟨fun _ => by decide, ?_⟩⟩
        · show 1 + s.length ≤ 9223372036854775807
          omega
        refine ⟨(k / 10, UInt8.ofNat (48 + k % 10) :: s), ⟨hD.step hc, by show k / 10 ≤ n.natAbs; omega⟩, hmu, rfl, ⟨⟨hq2, rfl, rfl⟩, ⟨?_, rfl, rfl⟩, trivial⟩, ⟨_, rfl⟩, trivial, rfl⟩
        show SV.s (toBytes [_] ++ s) = SV.s (UInt8.ofNat (48 + k % 10) :: s)
        rw [dig_byte hx hd]; rfl
      · have h3 : ¬ (sg n k).tmod 10 < 0 := of_decide_eq_false h3
        have hx : (sg n k).tmod 10 = ((k % 10 : Nat) : Int) := by
          rw [hr] at h3 ⊢
          unfold sg at h3 ⊢
          split at h3
          · rename_i h4; rw [if_pos h4]; omega
          · rename_i h4; rw [if_neg h4]
        refine OpC.str tabOkF rfl rfl rfl (r := .s (toBytes [IntKind.u8.wrap (IntKind.i64.wrap (48 + (sg n k).tmod 10))])) (rb := [0]) rfl ?_
        refine ⟨fun _ => ?_, ⟨fun _ => by decide, ?_⟩⟩
        · show 1 + s.length ≤ 9223372036854775807
          omega
        refine ⟨(k / 10, UInt8.ofNat (48 + k % 10) :: s), ⟨hD.step hc, by show k / 10 ≤ n.natAbs; omega⟩, hmu, rfl, ⟨⟨hq2, rfl, rfl⟩, ⟨?_, rfl, rfl⟩, trivial⟩, ⟨_, rfl⟩, trivial, rfl⟩
        show SV.s (toBytes [_] ++ s) = SV.s (UInt8.ofNat (48 + k % 10) :: s)
        rw [dig_byte hx hd]; rfl
    · have h2 : (decide (s = []) || !decide (sg n k = 0)) = false := h2
      simp only [Bool.or_eq_false_iff, decide_eq_false_iff_not, Bool.not_eq_false', decide_eq_true_eq] at h2
      have hk0 : k = 0 := by
        have := h2.2; unfold sg at this; split at this <;> omega
      have hd := hD.done h2.1 hk0
      refine ⟨fun h3 => ⟨fun _ => ?_, ?_⟩, fun h3 => ?_⟩
      · show 1 + s.length ≤ 9223372036854775807
        omega
      · have h3 : n < 0 := of_decide_eq_true h3
        show SV.s (45 :: s) = SV.s (Lib.itoa n)
        unfold Lib.itoa
        rw [if_pos h3, hd]
      · have h3 : ¬ n < 0 := of_decide_eq_false h3
        show SV.s s = SV.s (Lib.itoa n)
        unfold Lib.itoa
        rw [if_neg h3, ← hd]
        congr 2; omega
end SX
end Go.Proofs.YtlgjjklikbpcoaaGreatDoor
