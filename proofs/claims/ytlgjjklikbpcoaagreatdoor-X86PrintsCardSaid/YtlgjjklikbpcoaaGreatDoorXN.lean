/- A part of SX: symbolic and concrete runs of the program, with contracts of functions; lemmas without further conditions. -/
import Derived.Test.YtlgjjklikbpcoaaGreatDoorChecked
import Derived.Shelf.Lays
import Derived.Shelf.Pu.Lays
import Derived.Shelf.Strings.Search3
import Derived.Shelf.Small.Strs
import Derived.Shelf.Pu.ToError
import Derived.Lib.IndexMore
import Derived.Lib.IndexBytes
import Derived.IntWalk
import Derived.Shelf.LaysM
import Derived.Test.YtlgjjklikbpcoaaGreatDoorXM
set_option linter.unusedVariables false
set_option linter.unusedSimpArgs false
set_option linter.unusedSectionVars false
/- Words of a text: a number's digits (written by tools/tkb.py). -/
set_option linter.unusedVariables false
set_option maxRecDepth 100000
namespace Go.Proofs.YtlgjjklikbpcoaaGreatDoor
namespace SX
open Go Go.Proofs
def lowI (n : Int) : Int := bits .or .u8 n 32
theorem lower_ok (n : Int) : CtrV Tryz.prog 262 [.i .u8 n] (.i .u8 (lowI n)) := by
  refine Ctr.enterV tabOkF (fn := Tryz.f262) rfl rfl rfl rfl rfl rfl ?_
  exact rfl
/-- A byte's digit, as the program reckons it. -/
def digOk (n : Nat) : Bool :=
  if decide (48 ≤ (n : Int)) && decide ((n : Int) ≤ 57) then decide (IntKind.u8.wrap ((n : Int) - 48) = (digV n : Int))
  else if numB n then (decide (97 ≤ lowI n) && decide (lowI n ≤ 122)) && decide (IntKind.u8.wrap (IntKind.u8.wrap (lowI n - 97) + 10) = (digV n : Int)) else true
theorem digOk_all : ∀ n : Fin 256, digOk n.val = true := by decide +kernel
theorem dig_num {c : UInt8} (h : (decide (48 ≤ (c.toNat : Int)) && decide ((c.toNat : Int) ≤ 57)) = true) : IntKind.u8.wrap ((c.toNat : Int) - 48) = (digV c.toNat : Int) := by
  have := digOk_all ⟨c.toNat, c.toNat_lt⟩
  unfold digOk at this
  simp only [h, if_true, decide_eq_true_eq] at this
  exact this
theorem dig_let {c : UInt8} (hn : numB (c.toNat : Int) = true) (h : (decide (48 ≤ (c.toNat : Int)) && decide ((c.toNat : Int) ≤ 57)) = false) :
    (decide (97 ≤ lowI c.toNat) && decide (lowI c.toNat ≤ 122)) = true ∧ IntKind.u8.wrap (IntKind.u8.wrap (lowI c.toNat - 97) + 10) = (digV c.toNat : Int) := by
  have := digOk_all ⟨c.toNat, c.toNat_lt⟩
  unfold digOk at this
  simp only [h, hn, if_true, Bool.false_eq_true, if_false, Bool.and_eq_true, decide_eq_true_eq] at this
  simp only [Bool.and_eq_true, decide_eq_true_eq]
  exact this
theorem valB_snoc {b : Nat} : ∀ {l : List UInt8} {c : UInt8} {a n : Nat}, valB b l a = some n → valB b (l ++ [c]) a = if digV c.toNat < b then some (n * b + digV c.toNat) else none
  | [], c, a, n, h => by simp only [valB, Option.some.injEq] at h; subst h; simp [valB]
  | x :: l, c, a, n, h => by
    simp only [valB, List.cons_append] at h ⊢
    split at h
    · rename_i hx; rw [if_pos hx]; exact valB_snoc h
    · cases h
theorem valB_none {b : Nat} : ∀ {l r : List UInt8} {a : Nat}, valB b l a = none → valB b (l ++ r) a = none
  | [], r, a, h => by simp [valB] at h
  | x :: l, r, a, h => by
    simp only [valB, List.cons_append] at h ⊢
    split at h
    · rename_i hx; rw [if_pos hx]; exact valB_none h
    · rename_i hx; rw [if_neg hx]
theorem take_snoc {s : List UInt8} {i : Nat} (hi : i < s.length) : s.take (i + 1) = s.take i ++ [s.getD i 0] := by
  rw [List.take_add_one]
  simp [List.getElem?_eq_getElem hi, List.getD_eq_getElem?_getD]
theorem valB_next {b : Nat} {s : List UInt8} {i n : Nat} (hi : i < s.length) (h : valB b (s.take i) 0 = some n) (hd : digV (s.getD i 0).toNat < b) : valB b (s.take (i + 1)) 0 = some (n * b + digV (s.getD i 0).toNat) := by
  rw [take_snoc hi, valB_snoc h, if_pos hd]
theorem valB_bad {b : Nat} {s : List UInt8} {i n : Nat} (hi : i < s.length) (h : valB b (s.take i) 0 = some n) (hd : ¬ digV (s.getD i 0).toNat < b) : valB b s 0 = none := by
  have h1 : valB b (s.take (i + 1)) 0 = none := by rw [take_snoc hi, valB_snoc h, if_neg hd]
  have := valB_none (r := s.drop (i + 1)) h1
  rwa [List.take_append_drop] at this
/-- What ParseUint makes of digits that are few enough. -/
def puF (b : Nat) (s : List UInt8) : Option Nat := if s = [] then none else valB b s 0
def puV : Option Nat → SV
  | some n => .tup [.i .u64 n, .raw .nilIface]
  | none => .tup [.i .u64 0, .iface 277 (.i .i64 2)]
theorem wu64 {x : Int} (h1 : 0 ≤ x) (h2 : x ≤ 18446744073709551615) : IntKind.u64.wrap x = x := IntWalk.u64_in x ⟨h1, h2⟩

set_option maxHeartbeats 4000000 in
theorem ipu10_ok (s : List UInt8) (hn : ∀ c ∈ s, numB (c.toNat : Int) = true) (hl : s.length ≤ 19) : CtrV Tryz.prog 201 [.s s, .i .i64 10, .i .i64 64] (puV (puF 10 s)) := by
  refine Ctr.enterV tabOkF (fn := Tryz.f201) rfl rfl rfl rfl rfl (by unfold puV; split <;> rfl) ?_
  refine ⟨fun h => ?_, fun h => ?_⟩
  · have h : s = [] := of_decide_eq_true h
    subst h; rfl
  have hne : s ≠ [] := of_decide_eq_false h
  have hpu : puF 10 s = valB 10 s 0 := by unfold puF; rw [if_neg hne]
  refine ⟨fun _ => ?_, fun h => absurd h (by decide)⟩
  refine ⟨fun h => absurd h (by decide), fun _ => ?_⟩
  refine ⟨fun h => absurd h (by decide), fun _ => ?_⟩
  refine ⟨fun _ => ?_, fun h => absurd h (by decide)⟩
  refine ⟨fun _ => by decide, ?_⟩
  refine OpC.bytes tabOkF rfl rfl rfl rfl rfl rfl rfl rfl rfl fun ad cap => ?_
  refine WpC.loop tabOkF (β := Nat × Nat) (fun x => x.1 ≤ s.length ∧ valB 10 (s.take x.1) 0 = some x.2 ∧ x.2 < 10 ^ x.1) (fun x => [(13, .i .u64 x.2), (101, .i .i64 x.1), (12, .b false)]) (fun _ => []) (fun x => s.length - x.1) (0, 0) 23384026197294446688723656123004069511501514518720 ⟨Nat.zero_le _, rfl, by decide⟩ ?_ ?_
  · exact ⟨rfl, ⟨⟨rfl, rfl, rfl⟩, ⟨rfl, rfl, rfl⟩, ⟨rfl, rfl, rfl⟩, trivial⟩, ⟨[], rfl⟩, trivial, rfl⟩
  · rintro ⟨i, n⟩ ⟨hi, hv, hlt⟩
    simp only at hi hv hlt
    refine ⟨fun h2 => ?_, fun h2 => ?_⟩
    · have h2 : i < s.length := by
        have h2 : decide ((i : Int) < s.length) = true := h2
        simpa using h2
      have hpw : 10 ^ i ≤ 1000000000000000000 := by
        have : 10 ^ i ≤ 10 ^ 18 := Nat.pow_le_pow_right (by decide) (by omega)
        exact Nat.le_trans this (by decide)
      have hmem : numB ((s.getD i 0).toNat : Int) = true := hn _ (by
        rw [List.getD_eq_getElem?_getD, List.getElem?_eq_getElem h2]; exact List.getElem_mem h2)
      refine ⟨fun _ => ⟨by omega, by omega⟩, ?_⟩
      refine ⟨fun h3 => ?_, fun _ => ?_⟩
      · exfalso
        have h3 : (decide (((s.getD i 0).toNat : Int) = 95) && decide ((10 : Int) = 0)) = true := h3
        simp at h3
      have fin : ∀ D : Int, D = (digV (s.getD i 0).toNat : Int) → digV (s.getD i 0).toNat < 10 → IntKind.u64.wrap (IntKind.u64.wrap ((n : Int) * IntKind.u64.wrap 10) + IntKind.u64.wrap D) = ((n * 10 + digV (s.getD i 0).toNat : Nat) : Int) ∧ IntKind.u64.wrap ((n : Int) * IntKind.u64.wrap 10) = ((n * 10 : Nat) : Int) := by
        intro D hD hd
        have e1 : IntKind.u64.wrap 10 = 10 := rfl
        have e2 : IntKind.u64.wrap ((n : Int) * 10) = (n : Int) * 10 := wu64 (by omega) (by omega)
        have e3 : IntKind.u64.wrap D = D := wu64 (by omega) (by omega)
        rw [e1, e2, e3, wu64 (by omega) (by omega), hD]
        exact ⟨by push_cast; rfl, by push_cast; rfl⟩
      refine ⟨fun h4 => ?_, fun h4 => ?_⟩
      · have h4 : (decide (48 ≤ ((s.getD i 0).toNat : Int)) && decide (((s.getD i 0).toNat : Int) ≤ 57)) = true := h4
        have hD := dig_num h4
        refine ⟨fun h5 => ?_, fun h5 => ?_⟩
        · have h5 : decide (IntKind.u8.wrap 10 ≤ IntKind.u8.wrap (((s.getD i 0).toNat : Int) - 48)) = true := h5
          have h5 := of_decide_eq_true h5
          have e8 : IntKind.u8.wrap 10 = 10 := rfl
          rw [e8, hD] at h5
          show _ = puV (puF 10 s)
          rw [hpu, valB_bad h2 hv (by omega)]
          rfl
        · have h5 : decide (IntKind.u8.wrap 10 ≤ IntKind.u8.wrap (((s.getD i 0).toNat : Int) - 48)) = false := h5
          have h5 := of_decide_eq_false h5
          have e8 : IntKind.u8.wrap 10 = 10 := rfl
          rw [e8, hD] at h5
          have hd : digV (s.getD i 0).toNat < 10 := by omega
          obtain ⟨f1, f2⟩ := fin _ hD hd
          refine ⟨fun h6 => ?_, fun _ => ⟨fun h7 => ?_, fun _ => ?_⟩⟩
          · have h6 : decide ((1844674407370955162 : Int) ≤ n) = true := h6
            have h6 := of_decide_eq_true h6
            omega
          · exfalso
            have h7 : (decide (IntKind.u64.wrap (IntKind.u64.wrap ((n : Int) * IntKind.u64.wrap 10) + IntKind.u64.wrap (IntKind.u8.wrap (((s.getD i 0).toNat : Int) - 48))) < IntKind.u64.wrap ((n : Int) * IntKind.u64.wrap 10)) || decide ((18446744073709551615 : Int) < IntKind.u64.wrap (IntKind.u64.wrap ((n : Int) * IntKind.u64.wrap 10) + IntKind.u64.wrap (IntKind.u8.wrap (((s.getD i 0).toNat : Int) - 48))))) = true := h7
            rw [f1, f2] at h7
            simp only [Bool.or_eq_true, decide_eq_true_eq] at h7
            omega
          · refine ⟨(i + 1, n * 10 + digV (s.getD i 0).toNat), ⟨h2, valB_next h2 hv hd, ?_⟩, by show s.length - (i + 1) < s.length - i; omega, rfl, ⟨⟨?_, rfl, rfl⟩, ⟨?_, rfl, rfl⟩, ⟨rfl, rfl, rfl⟩, trivial⟩, ⟨[], rfl⟩, trivial, rfl⟩
            · show n * 10 + digV (s.getD i 0).toNat < 10 ^ (i + 1)
              rw [Nat.pow_succ]; omega
            · exact congrArg (SV.i .u64) f1
            · show SV.i .i64 (IntKind.i64.wrap ((i : Int) + 1)) = SV.i .i64 ((i + 1 : Nat) : Int)
              rw [w64 (by omega) (by omega)]; rfl
      · have h4 : (decide (48 ≤ ((s.getD i 0).toNat : Int)) && decide (((s.getD i 0).toNat : Int) ≤ 57)) = false := h4
        obtain ⟨hD1, hD⟩ := dig_let hmem h4
        refine OpC.callV rfl rfl rfl rfl rfl rfl rfl (fun _ => lower_ok _) ?_
        refine OpC.callV rfl rfl rfl rfl rfl rfl rfl (fun _ => lower_ok _) ?_
        refine ⟨fun _ => ?_, fun h5 => absurd (hD1.symm.trans h5) (by decide)⟩
        refine OpC.callV rfl rfl rfl rfl rfl rfl rfl (fun _ => lower_ok _) ?_
        refine ⟨fun h5 => ?_, fun h5 => ?_⟩
        · have h5 : decide (IntKind.u8.wrap 10 ≤ IntKind.u8.wrap (IntKind.u8.wrap (lowI ((s.getD i 0).toNat : Int) - 97) + 10)) = true := h5
          have h5 := of_decide_eq_true h5
          have e8 : IntKind.u8.wrap 10 = 10 := rfl
          rw [e8, hD] at h5
          show _ = puV (puF 10 s)
          rw [hpu, valB_bad h2 hv (by omega)]
          rfl
        · have h5 : decide (IntKind.u8.wrap 10 ≤ IntKind.u8.wrap (IntKind.u8.wrap (lowI ((s.getD i 0).toNat : Int) - 97) + 10)) = false := h5
          have h5 := of_decide_eq_false h5
          have e8 : IntKind.u8.wrap 10 = 10 := rfl
          rw [e8, hD] at h5
          have hd : digV (s.getD i 0).toNat < 10 := by omega
          obtain ⟨f1, f2⟩ := fin _ hD hd
          refine ⟨fun h6 => ?_, fun _ => ⟨fun h7 => ?_, fun _ => ?_⟩⟩
          · have h6 : decide ((1844674407370955162 : Int) ≤ n) = true := h6
            have h6 := of_decide_eq_true h6
            omega
          · exfalso
            have h7 : (decide (IntKind.u64.wrap (IntKind.u64.wrap ((n : Int) * IntKind.u64.wrap 10) + IntKind.u64.wrap (IntKind.u8.wrap (IntKind.u8.wrap (lowI ((s.getD i 0).toNat : Int) - 97) + 10))) < IntKind.u64.wrap ((n : Int) * IntKind.u64.wrap 10)) || decide ((18446744073709551615 : Int) < IntKind.u64.wrap (IntKind.u64.wrap ((n : Int) * IntKind.u64.wrap 10) + IntKind.u64.wrap (IntKind.u8.wrap (IntKind.u8.wrap (lowI ((s.getD i 0).toNat : Int) - 97) + 10))))) = true := h7
            rw [f1, f2] at h7
            simp only [Bool.or_eq_true, decide_eq_true_eq] at h7
            omega
          · refine ⟨(i + 1, n * 10 + digV (s.getD i 0).toNat), ⟨h2, valB_next h2 hv hd, ?_⟩, by show s.length - (i + 1) < s.length - i; omega, rfl, ⟨⟨?_, rfl, rfl⟩, ⟨?_, rfl, rfl⟩, ⟨rfl, rfl, rfl⟩, trivial⟩, ⟨[], rfl⟩, trivial, rfl⟩
            · show n * 10 + digV (s.getD i 0).toNat < 10 ^ (i + 1)
              rw [Nat.pow_succ]; omega
            · exact congrArg (SV.i .u64) f1
            · show SV.i .i64 (IntKind.i64.wrap ((i : Int) + 1)) = SV.i .i64 ((i + 1 : Nat) : Int)
              rw [w64 (by omega) (by omega)]; rfl
    · have h2 : i = s.length := by
        have h2 : decide ((i : Int) < s.length) = false := h2
        simp at h2; omega
      subst h2
      rw [List.take_length] at hv
      refine OpC.callV rfl rfl rfl rfl rfl rfl rfl (r := .b true) (fun hg => (by cases hg)) ?_
      refine ⟨fun h => (by cases h), fun _ => ?_⟩
      show _ = puV (puF 10 s)
      rw [hpu, hv]
      rfl

set_option maxHeartbeats 4000000 in
theorem ipu16_ok (s : List UInt8) (hn : ∀ c ∈ s, numB (c.toNat : Int) = true) (hl : s.length ≤ 16) : CtrV Tryz.prog 201 [.s s, .i .i64 16, .i .i64 64] (puV (puF 16 s)) := by
  refine Ctr.enterV tabOkF (fn := Tryz.f201) rfl rfl rfl rfl rfl (by unfold puV; split <;> rfl) ?_
  refine ⟨fun h => ?_, fun h => ?_⟩
  · have h : s = [] := of_decide_eq_true h
    subst h; rfl
  have hne : s ≠ [] := of_decide_eq_false h
  have hpu : puF 16 s = valB 16 s 0 := by unfold puF; rw [if_neg hne]
  refine ⟨fun _ => ?_, fun h => absurd h (by decide)⟩
  refine ⟨fun h => absurd h (by decide), fun _ => ?_⟩
  refine ⟨fun h => absurd h (by decide), fun _ => ?_⟩
  refine ⟨fun h => absurd h (by decide), fun _ => ?_⟩
  refine ⟨fun _ => ?_, fun h => absurd h (by decide)⟩
  refine ⟨fun _ => by decide, ?_⟩
  refine OpC.bytes tabOkF rfl rfl rfl rfl rfl rfl rfl rfl rfl fun ad cap => ?_
  refine WpC.loop tabOkF (β := Nat × Nat) (fun x => x.1 ≤ s.length ∧ valB 16 (s.take x.1) 0 = some x.2 ∧ x.2 < 16 ^ x.1) (fun x => [(13, .i .u64 x.2), (101, .i .i64 x.1), (12, .b false)]) (fun _ => []) (fun x => s.length - x.1) (0, 0) 23384026197294446688723656123004069511501514518720 ⟨Nat.zero_le _, rfl, by decide⟩ ?_ ?_
  · exact ⟨rfl, ⟨⟨rfl, rfl, rfl⟩, ⟨rfl, rfl, rfl⟩, ⟨rfl, rfl, rfl⟩, trivial⟩, ⟨[], rfl⟩, trivial, rfl⟩
  · rintro ⟨i, n⟩ ⟨hi, hv, hlt⟩
    simp only at hi hv hlt
    refine ⟨fun h2 => ?_, fun h2 => ?_⟩
    · have h2 : i < s.length := by
        have h2 : decide ((i : Int) < s.length) = true := h2
        simpa using h2
      have hpw : 16 ^ i ≤ 1152921504606846976 := by
        have : 16 ^ i ≤ 16 ^ 15 := Nat.pow_le_pow_right (by decide) (by omega)
        exact Nat.le_trans this (by decide)
      have hmem : numB ((s.getD i 0).toNat : Int) = true := hn _ (by
        rw [List.getD_eq_getElem?_getD, List.getElem?_eq_getElem h2]; exact List.getElem_mem h2)
      refine ⟨fun _ => ⟨by omega, by omega⟩, ?_⟩
      refine ⟨fun h3 => ?_, fun _ => ?_⟩
      · exfalso
        have h3 : (decide (((s.getD i 0).toNat : Int) = 95) && decide ((16 : Int) = 0)) = true := h3
        simp at h3
      have fin : ∀ D : Int, D = (digV (s.getD i 0).toNat : Int) → digV (s.getD i 0).toNat < 16 → IntKind.u64.wrap (IntKind.u64.wrap ((n : Int) * IntKind.u64.wrap 16) + IntKind.u64.wrap D) = ((n * 16 + digV (s.getD i 0).toNat : Nat) : Int) ∧ IntKind.u64.wrap ((n : Int) * IntKind.u64.wrap 16) = ((n * 16 : Nat) : Int) := by
        intro D hD hd
        have e1 : IntKind.u64.wrap 16 = 16 := rfl
        have e2 : IntKind.u64.wrap ((n : Int) * 16) = (n : Int) * 16 := wu64 (by omega) (by omega)
        have e3 : IntKind.u64.wrap D = D := wu64 (by omega) (by omega)
        rw [e1, e2, e3, wu64 (by omega) (by omega), hD]
        exact ⟨by push_cast; rfl, by push_cast; rfl⟩
      refine ⟨fun h4 => ?_, fun h4 => ?_⟩
      · have h4 : (decide (48 ≤ ((s.getD i 0).toNat : Int)) && decide (((s.getD i 0).toNat : Int) ≤ 57)) = true := h4
        have hD := dig_num h4
        refine ⟨fun h5 => ?_, fun h5 => ?_⟩
        · have h5 : decide (IntKind.u8.wrap 16 ≤ IntKind.u8.wrap (((s.getD i 0).toNat : Int) - 48)) = true := h5
          have h5 := of_decide_eq_true h5
          have e8 : IntKind.u8.wrap 16 = 16 := rfl
          rw [e8, hD] at h5
          show _ = puV (puF 16 s)
          rw [hpu, valB_bad h2 hv (by omega)]
          rfl
        · have h5 : decide (IntKind.u8.wrap 16 ≤ IntKind.u8.wrap (((s.getD i 0).toNat : Int) - 48)) = false := h5
          have h5 := of_decide_eq_false h5
          have e8 : IntKind.u8.wrap 16 = 16 := rfl
          rw [e8, hD] at h5
          have hd : digV (s.getD i 0).toNat < 16 := by omega
          obtain ⟨f1, f2⟩ := fin _ hD hd
          refine ⟨fun h6 => ?_, fun _ => ⟨fun h7 => ?_, fun _ => ?_⟩⟩
          · have h6 : decide ((1152921504606846976 : Int) ≤ n) = true := h6
            have h6 := of_decide_eq_true h6
            omega
          · exfalso
            have h7 : (decide (IntKind.u64.wrap (IntKind.u64.wrap ((n : Int) * IntKind.u64.wrap 16) + IntKind.u64.wrap (IntKind.u8.wrap (((s.getD i 0).toNat : Int) - 48))) < IntKind.u64.wrap ((n : Int) * IntKind.u64.wrap 16)) || decide ((18446744073709551615 : Int) < IntKind.u64.wrap (IntKind.u64.wrap ((n : Int) * IntKind.u64.wrap 16) + IntKind.u64.wrap (IntKind.u8.wrap (((s.getD i 0).toNat : Int) - 48))))) = true := h7
            rw [f1, f2] at h7
            simp only [Bool.or_eq_true, decide_eq_true_eq] at h7
            omega
          · refine ⟨(i + 1, n * 16 + digV (s.getD i 0).toNat), ⟨h2, valB_next h2 hv hd, ?_⟩, by show s.length - (i + 1) < s.length - i; omega, rfl, ⟨⟨?_, rfl, rfl⟩, ⟨?_, rfl, rfl⟩, ⟨rfl, rfl, rfl⟩, trivial⟩, ⟨[], rfl⟩, trivial, rfl⟩
            · show n * 16 + digV (s.getD i 0).toNat < 16 ^ (i + 1)
              rw [Nat.pow_succ]; omega
            · exact congrArg (SV.i .u64) f1
            · show SV.i .i64 (IntKind.i64.wrap ((i : Int) + 1)) = SV.i .i64 ((i + 1 : Nat) : Int)
              rw [w64 (by omega) (by omega)]; rfl
      · have h4 : (decide (48 ≤ ((s.getD i 0).toNat : Int)) && decide (((s.getD i 0).toNat : Int) ≤ 57)) = false := h4
        obtain ⟨hD1, hD⟩ := dig_let hmem h4
        refine OpC.callV rfl rfl rfl rfl rfl rfl rfl (fun _ => lower_ok _) ?_
        refine OpC.callV rfl rfl rfl rfl rfl rfl rfl (fun _ => lower_ok _) ?_
        refine ⟨fun _ => ?_, fun h5 => absurd (hD1.symm.trans h5) (by decide)⟩
        refine OpC.callV rfl rfl rfl rfl rfl rfl rfl (fun _ => lower_ok _) ?_
        refine ⟨fun h5 => ?_, fun h5 => ?_⟩
        · have h5 : decide (IntKind.u8.wrap 16 ≤ IntKind.u8.wrap (IntKind.u8.wrap (lowI ((s.getD i 0).toNat : Int) - 97) + 10)) = true := h5
          have h5 := of_decide_eq_true h5
          have e8 : IntKind.u8.wrap 16 = 16 := rfl
          rw [e8, hD] at h5
          show _ = puV (puF 16 s)
          rw [hpu, valB_bad h2 hv (by omega)]
          rfl
        · have h5 : decide (IntKind.u8.wrap 16 ≤ IntKind.u8.wrap (IntKind.u8.wrap (lowI ((s.getD i 0).toNat : Int) - 97) + 10)) = false := h5
          have h5 := of_decide_eq_false h5
          have e8 : IntKind.u8.wrap 16 = 16 := rfl
          rw [e8, hD] at h5
          have hd : digV (s.getD i 0).toNat < 16 := by omega
          obtain ⟨f1, f2⟩ := fin _ hD hd
          refine ⟨fun h6 => ?_, fun _ => ⟨fun h7 => ?_, fun _ => ?_⟩⟩
          · have h6 : decide ((1152921504606846976 : Int) ≤ n) = true := h6
            have h6 := of_decide_eq_true h6
            omega
          · exfalso
            have h7 : (decide (IntKind.u64.wrap (IntKind.u64.wrap ((n : Int) * IntKind.u64.wrap 16) + IntKind.u64.wrap (IntKind.u8.wrap (IntKind.u8.wrap (lowI ((s.getD i 0).toNat : Int) - 97) + 10))) < IntKind.u64.wrap ((n : Int) * IntKind.u64.wrap 16)) || decide ((18446744073709551615 : Int) < IntKind.u64.wrap (IntKind.u64.wrap ((n : Int) * IntKind.u64.wrap 16) + IntKind.u64.wrap (IntKind.u8.wrap (IntKind.u8.wrap (lowI ((s.getD i 0).toNat : Int) - 97) + 10))))) = true := h7
            rw [f1, f2] at h7
            simp only [Bool.or_eq_true, decide_eq_true_eq] at h7
            omega
          · refine ⟨(i + 1, n * 16 + digV (s.getD i 0).toNat), ⟨h2, valB_next h2 hv hd, ?_⟩, by show s.length - (i + 1) < s.length - i; omega, rfl, ⟨⟨?_, rfl, rfl⟩, ⟨?_, rfl, rfl⟩, ⟨rfl, rfl, rfl⟩, trivial⟩, ⟨[], rfl⟩, trivial, rfl⟩
            · show n * 16 + digV (s.getD i 0).toNat < 16 ^ (i + 1)
              rw [Nat.pow_succ]; omega
            · exact congrArg (SV.i .u64) f1
            · show SV.i .i64 (IntKind.i64.wrap ((i : Int) + 1)) = SV.i .i64 ((i + 1 : Nat) : Int)
              rw [w64 (by omega) (by omega)]; rfl
    · have h2 : i = s.length := by
        have h2 : decide ((i : Int) < s.length) = false := h2
        simp at h2; omega
      subst h2
      rw [List.take_length] at hv
      refine OpC.callV rfl rfl rfl rfl rfl rfl rfl (r := .b true) (fun hg => (by cases hg)) ?_
      refine ⟨fun h => (by cases h), fun _ => ?_⟩
      show _ = puV (puF 16 s)
      rw [hpu, hv]
      rfl
end SX
end Go.Proofs.YtlgjjklikbpcoaaGreatDoor

/- Words of a text: the reference's Value. Printed by rkc.py. -/
set_option linter.unusedVariables false
set_option maxRecDepth 100000
namespace Go.Proofs.YtlgjjklikbpcoaaGreatDoor
namespace SX
open Go Go.Proofs
def valO (o : Option Nat) : SV := match o with | some n => .tup [.i .i64 (IntKind.i64.wrap n), .b true] | none => .tup [.i .i64 0, .b false]
theorem valO_any {p : SV → Prop} {o : Option Nat} (h : ∀ (n : Int) (b : Bool), p (.tup [.i .i64 n, .b b])) : p (valO o) := by cases o <;> exact h _ _
theorem valR_step {b : Nat} {D : List UInt8} {k n : Nat} (hk : k < D.length) : valR b (D.drop k) n = if digV (D.getD k 0).toNat < b ∧ n * b + digV (D.getD k 0).toNat ≤ 9223372036854775808 then valR b (D.drop (k + 1)) (n * b + digV (D.getD k 0).toNat) else none := by
  rw [List.drop_eq_getElem_cons hk]
  simp only [valR, List.getD_eq_getElem?_getD, List.getElem?_eq_getElem hk, Option.getD_some]
set_option maxHeartbeats 1000000 in
theorem rvalue_10 (w : List UInt8) (hw : w.length ≤ 100000) (hx : ((decide ((2 : Int) < (w.length : Int)) && decide (cd w 0 = 48)) && decide (cd w 1 = 120)) = false) (o : Option Nat) (hno : (w.length : Int) < 1 ∨ (19 : Int) < (w.length : Int) → o = none) (hyes : 1 ≤ w.length → w.length ≤ 19 → o = valR 10 w 0) : CtrV Tryz.prog 229 [.s w] (valO o) := by
  refine Ctr.enterV tabOkF (fn := Tryz.f229) rfl rfl rfl rfl rfl (valO_any (p := fun r => nm r = true) fun _ _ => rfl) ?_
  refine ⟨fun hg => ?_, ?_⟩
  · have hg : (decide ((2 : Int) < (w.length : Int)) == true) = true := hg
    have hg : 2 < w.length := by simp at hg; omega
    show (0 : Int) ≤ 0 ∧ (0 : Int) < (w.length : Int)
    omega
  refine ⟨fun hg => ?_, ?_⟩
  · have hg : ((decide ((2 : Int) < (w.length : Int)) && decide (cd w 0 = 48)) == true) = true := hg
    have hg : 2 < w.length := by simp at hg; omega
    show (0 : Int) ≤ 1 ∧ (1 : Int) < (w.length : Int)
    omega
  refine ⟨fun h => ?_, fun _ => ?_⟩
  · have h : ((decide ((2 : Int) < (w.length : Int)) && decide (cd w 0 = 48)) && decide (cd w 1 = 120)) = true := h
    rw [hx] at h; cases h
  refine ⟨fun h3 => ?_, fun h3 => ?_⟩
  · have h3 : (decide ((w.length : Int) < 1) || decide ((19 : Int) < (w.length : Int))) = true := h3
    rw [hno (by simpa only [Bool.or_eq_true, decide_eq_true_eq] using h3)]
    exact rfl
  have h3 : (decide ((w.length : Int) < 1) || decide ((19 : Int) < (w.length : Int))) = false := h3
  simp only [Bool.or_eq_false_iff, decide_eq_false_iff_not] at h3
  rw [hyes (by omega) (by omega)]
  refine WpC.loop tabOkF (β := Nat × Nat) (fun x => x.1 ≤ w.length ∧ x.2 ≤ 9223372036854775808 ∧ valR 10 w 0 = valR 10 (w.drop x.1) x.2) (fun x => [(7, .i .i64 x.1), (6, .i .u64 x.2)]) (fun _ => []) (fun x => w.length - x.1) (0, 0) 147573952581086478796 ⟨Nat.zero_le _, by decide, rfl⟩ ?_ ?_
  · exact ⟨rfl, ⟨⟨rfl, rfl, rfl⟩, ⟨rfl, rfl, rfl⟩, trivial⟩, ⟨[], rfl⟩, trivial, rfl⟩
  · rintro ⟨k, n⟩ ⟨hk, hn, hv⟩
    have hk : k ≤ w.length := hk
    have hn : n ≤ 9223372036854775808 := hn
    have hv : valR 10 w 0 = valR 10 (w.drop k) n := hv
    refine ⟨fun h4 => ?_, fun h4 => ?_⟩
    · have h4 : decide ((k : Int) < (w.length : Int)) = true := h4
      have h4 : (k : Int) < (w.length : Int) := of_decide_eq_true h4
      have h4 : k < w.length := by omega
      rw [valR_step h4] at hv
      refine ⟨fun _ => ⟨by omega, by show (k : Int) < (w.length : Int); omega⟩, ?_⟩
      refine OpC.callV rfl rfl rfl rfl rfl rfl rfl (fun _ => rhex_ok (w.getD k 0)) ?_
      have hx := hexV_10 (w.getD k 0)
      have hy := hexV_dig (w.getD k 0)
      generalize hexV (w.getD k 0).toNat = X at hx hy ⊢
      generalize digV (w.getD k 0).toNat = V at hx hy hv
      refine ⟨fun _ => by show IntKind.u64.wrap 10 ≠ 0; decide, ?_⟩
      have eb : IntKind.u64.wrap 10 = 10 := rfl
      have hq : 0 ≤ X → X < 10 → IntKind.u64.wrap ((IntKind.u64.wrap (9223372036854775808 - IntKind.u64.wrap X)).tdiv (IntKind.u64.wrap 10)) = (((9223372036854775808 - V) / 10 : Nat) : Int) := by
        intro h0 h1
        have := hy h0
        have f1 : IntKind.u64.wrap X = X := wu64 h0 (by omega)
        have f2 : IntKind.u64.wrap (9223372036854775808 - X) = 9223372036854775808 - X := wu64 (by omega) (by omega)
        have f3 : (9223372036854775808 : Int) - X = ((9223372036854775808 - V : Nat) : Int) := by omega
        have f4 : ∀ m : Nat, ((m : Int)).tdiv 10 = ((m / 10 : Nat) : Int) := fun m => rfl
        have f5 := wu64 (x := (((9223372036854775808 - V) / 10 : Nat) : Int)) (by omega) (by omega)
        rw [eb, f1, f2, f3, f4, f5]
      refine ⟨fun h5 => ?_, fun h5 => ?_⟩
      · have h5 : ((decide (X < 0) || decide ((10 : Int) ≤ X)) || decide (IntKind.u64.wrap ((IntKind.u64.wrap (9223372036854775808 - IntKind.u64.wrap X)).tdiv (IntKind.u64.wrap 10)) < (n : Int))) = true := h5
        rw [hv, if_neg ?_]
        · exact rfl
        rintro ⟨c1, c2⟩
        obtain ⟨d1, d2⟩ := hx.2 c1
        obtain ⟨d3, d4⟩ := hy d1
        rw [hq d1 d2, decide_eq_false (by omega), decide_eq_false (by omega)] at h5
        simp only [Bool.false_or, decide_eq_true_eq] at h5
        have h5 : (9223372036854775808 - V) / 10 < n := by omega
        rw [Nat.div_lt_iff_lt_mul (by decide)] at h5
        omega
      · have h5 : ((decide (X < 0) || decide ((10 : Int) ≤ X)) || decide (IntKind.u64.wrap ((IntKind.u64.wrap (9223372036854775808 - IntKind.u64.wrap X)).tdiv (IntKind.u64.wrap 10)) < (n : Int))) = false := h5
        simp only [Bool.or_eq_false_iff, decide_eq_false_iff_not] at h5
        obtain ⟨⟨d1, d2⟩, d5⟩ := h5
        have d1 : 0 ≤ X := by omega
        have d2 : X < 10 := by omega
        obtain ⟨d3, d4⟩ := hy d1
        rw [hq d1 d2] at d5
        have d6 : ¬ (9223372036854775808 - V) / 10 < n := by omega
        rw [Nat.div_lt_iff_lt_mul (by decide)] at d6
        have c1 := hx.1 ⟨d1, d2⟩
        rw [if_pos ⟨c1, by omega⟩] at hv
        refine ⟨(k + 1, n * 10 + V), ⟨by show k + 1 ≤ w.length; omega, by show n * 10 + V ≤ 9223372036854775808; omega, hv⟩, by show w.length - (k + 1) < w.length - k; omega, rfl, ⟨⟨?_, rfl, rfl⟩, ⟨?_, rfl, rfl⟩, trivial⟩, ⟨[], rfl⟩, trivial, rfl⟩
        · show SV.i .i64 (IntKind.i64.wrap ((k : Int) + 1)) = SV.i .i64 ((k + 1 : Nat) : Int)
          rw [w64 (by omega) (by omega)]; rfl
        · show SV.i .u64 (IntKind.u64.wrap (IntKind.u64.wrap ((n : Int) * IntKind.u64.wrap 10) + IntKind.u64.wrap X)) = SV.i .u64 ((n * 10 + V : Nat) : Int)
          have f1 : IntKind.u64.wrap X = X := wu64 d1 (by omega)
          have f2 : IntKind.u64.wrap ((n : Int) * 10) = (n : Int) * 10 := wu64 (by omega) (by omega)
          have f3 : IntKind.u64.wrap ((n : Int) * 10 + X) = (n : Int) * 10 + X := wu64 (by omega) (by omega)
          rw [eb, f1, f2, f3]
          congr 1
          omega
    · have h4 : decide ((k : Int) < (w.length : Int)) = false := h4
      have h4 : ¬ (k : Int) < (w.length : Int) := of_decide_eq_false h4
      have h4 : ¬ k < w.length := fun h => h4 (Int.ofNat_lt.2 h)
      rw [hv, List.drop_eq_nil_of_le (Nat.not_lt.1 h4)]
      exact rfl
set_option maxHeartbeats 1000000 in
theorem rvalue_16 (w : List UInt8) (hw : w.length ≤ 100000) (hx : ((decide ((2 : Int) < (w.length : Int)) && decide (cd w 0 = 48)) && decide (cd w 1 = 120)) = true) (o : Option Nat) (hno : (((w.take w.length).drop 2).length : Int) < 1 ∨ (16 : Int) < (((w.take w.length).drop 2).length : Int) → o = none) (hyes : 1 ≤ ((w.take w.length).drop 2).length → ((w.take w.length).drop 2).length ≤ 16 → o = valR 16 ((w.take w.length).drop 2) 0) : CtrV Tryz.prog 229 [.s w] (valO o) := by
  have hlen : 2 < w.length := by
    simp only [Bool.and_eq_true, decide_eq_true_eq] at hx; omega
  have hdl : ((w.take w.length).drop 2).length ≤ 100000 := by simp; omega
  refine Ctr.enterV tabOkF (fn := Tryz.f229) rfl rfl rfl rfl rfl (valO_any (p := fun r => nm r = true) fun _ _ => rfl) ?_
  refine ⟨fun hg => ?_, ?_⟩
  · have hg : (decide ((2 : Int) < (w.length : Int)) == true) = true := hg
    have hg : 2 < w.length := by simp at hg; omega
    show (0 : Int) ≤ 0 ∧ (0 : Int) < (w.length : Int)
    omega
  refine ⟨fun hg => ?_, ?_⟩
  · have hg : ((decide ((2 : Int) < (w.length : Int)) && decide (cd w 0 = 48)) == true) = true := hg
    have hg : 2 < w.length := by simp at hg; omega
    show (0 : Int) ≤ 1 ∧ (1 : Int) < (w.length : Int)
    omega
  refine ⟨fun _ => ?_, fun h => ?_⟩
  rotate_left
  · have h : ((decide ((2 : Int) < (w.length : Int)) && decide (cd w 0 = 48)) && decide (cd w 1 = 120)) = false := h
    rw [hx] at h; cases h
  refine ⟨fun _ => by show (0 : Int) ≤ 2 ∧ (2 : Int) ≤ (w.length : Int); omega, ?_⟩
  refine ⟨fun h3 => ?_, fun h3 => ?_⟩
  · have h3 : (decide ((((w.take w.length).drop 2).length : Int) < 1) || decide ((16 : Int) < (((w.take w.length).drop 2).length : Int))) = true := h3
    rw [hno (by simpa only [Bool.or_eq_true, decide_eq_true_eq] using h3)]
    exact rfl
  have h3 : (decide ((((w.take w.length).drop 2).length : Int) < 1) || decide ((16 : Int) < (((w.take w.length).drop 2).length : Int))) = false := h3
  simp only [Bool.or_eq_false_iff, decide_eq_false_iff_not] at h3
  rw [hyes (by omega) (by omega)]
  refine WpC.loop tabOkF (β := Nat × Nat) (fun x => x.1 ≤ ((w.take w.length).drop 2).length ∧ x.2 ≤ 9223372036854775808 ∧ valR 16 ((w.take w.length).drop 2) 0 = valR 16 (((w.take w.length).drop 2).drop x.1) x.2) (fun x => [(7, .i .i64 x.1), (6, .i .u64 x.2)]) (fun _ => []) (fun x => ((w.take w.length).drop 2).length - x.1) (0, 0) 147573952581086478796 ⟨Nat.zero_le _, by decide, rfl⟩ ?_ ?_
  · exact ⟨rfl, ⟨⟨rfl, rfl, rfl⟩, ⟨rfl, rfl, rfl⟩, trivial⟩, ⟨[], rfl⟩, trivial, rfl⟩
  · rintro ⟨k, n⟩ ⟨hk, hn, hv⟩
    have hk : k ≤ ((w.take w.length).drop 2).length := hk
    have hn : n ≤ 9223372036854775808 := hn
    have hv : valR 16 ((w.take w.length).drop 2) 0 = valR 16 (((w.take w.length).drop 2).drop k) n := hv
    refine ⟨fun h4 => ?_, fun h4 => ?_⟩
    · have h4 : decide ((k : Int) < (((w.take w.length).drop 2).length : Int)) = true := h4
      have h4 : (k : Int) < (((w.take w.length).drop 2).length : Int) := of_decide_eq_true h4
      have h4 : k < ((w.take w.length).drop 2).length := by omega
      rw [valR_step h4] at hv
      refine ⟨fun _ => ⟨by omega, by show (k : Int) < (((w.take w.length).drop 2).length : Int); omega⟩, ?_⟩
      refine OpC.callV rfl rfl rfl rfl rfl rfl rfl (fun _ => rhex_ok (((w.take w.length).drop 2).getD k 0)) ?_
      have hx := hexV_16 (((w.take w.length).drop 2).getD k 0)
      have hy := hexV_dig (((w.take w.length).drop 2).getD k 0)
      generalize hexV (((w.take w.length).drop 2).getD k 0).toNat = X at hx hy ⊢
      generalize digV (((w.take w.length).drop 2).getD k 0).toNat = V at hx hy hv
      refine ⟨fun _ => by show IntKind.u64.wrap 16 ≠ 0; decide, ?_⟩
      have eb : IntKind.u64.wrap 16 = 16 := rfl
      have hq : 0 ≤ X → X < 16 → IntKind.u64.wrap ((IntKind.u64.wrap (9223372036854775808 - IntKind.u64.wrap X)).tdiv (IntKind.u64.wrap 16)) = (((9223372036854775808 - V) / 16 : Nat) : Int) := by
        intro h0 h1
        have := hy h0
        have f1 : IntKind.u64.wrap X = X := wu64 h0 (by omega)
        have f2 : IntKind.u64.wrap (9223372036854775808 - X) = 9223372036854775808 - X := wu64 (by omega) (by omega)
        have f3 : (9223372036854775808 : Int) - X = ((9223372036854775808 - V : Nat) : Int) := by omega
        have f4 : ∀ m : Nat, ((m : Int)).tdiv 16 = ((m / 16 : Nat) : Int) := fun m => rfl
        have f5 := wu64 (x := (((9223372036854775808 - V) / 16 : Nat) : Int)) (by omega) (by omega)
        rw [eb, f1, f2, f3, f4, f5]
      refine ⟨fun h5 => ?_, fun h5 => ?_⟩
      · have h5 : ((decide (X < 0) || decide ((16 : Int) ≤ X)) || decide (IntKind.u64.wrap ((IntKind.u64.wrap (9223372036854775808 - IntKind.u64.wrap X)).tdiv (IntKind.u64.wrap 16)) < (n : Int))) = true := h5
        rw [hv, if_neg ?_]
        · exact rfl
        rintro ⟨c1, c2⟩
        obtain ⟨d1, d2⟩ := hx.2 c1
        obtain ⟨d3, d4⟩ := hy d1
        rw [hq d1 d2, decide_eq_false (by omega), decide_eq_false (by omega)] at h5
        simp only [Bool.false_or, decide_eq_true_eq] at h5
        have h5 : (9223372036854775808 - V) / 16 < n := by omega
        rw [Nat.div_lt_iff_lt_mul (by decide)] at h5
        omega
      · have h5 : ((decide (X < 0) || decide ((16 : Int) ≤ X)) || decide (IntKind.u64.wrap ((IntKind.u64.wrap (9223372036854775808 - IntKind.u64.wrap X)).tdiv (IntKind.u64.wrap 16)) < (n : Int))) = false := h5
        simp only [Bool.or_eq_false_iff, decide_eq_false_iff_not] at h5
        obtain ⟨⟨d1, d2⟩, d5⟩ := h5
        have d1 : 0 ≤ X := by omega
        have d2 : X < 16 := by omega
        obtain ⟨d3, d4⟩ := hy d1
        rw [hq d1 d2] at d5
        have d6 : ¬ (9223372036854775808 - V) / 16 < n := by omega
        rw [Nat.div_lt_iff_lt_mul (by decide)] at d6
        have c1 := hx.1 ⟨d1, d2⟩
        rw [if_pos ⟨c1, by omega⟩] at hv
        refine ⟨(k + 1, n * 16 + V), ⟨by show k + 1 ≤ ((w.take w.length).drop 2).length; omega, by show n * 16 + V ≤ 9223372036854775808; omega, hv⟩, by show ((w.take w.length).drop 2).length - (k + 1) < ((w.take w.length).drop 2).length - k; omega, rfl, ⟨⟨?_, rfl, rfl⟩, ⟨?_, rfl, rfl⟩, trivial⟩, ⟨[], rfl⟩, trivial, rfl⟩
        · show SV.i .i64 (IntKind.i64.wrap ((k : Int) + 1)) = SV.i .i64 ((k + 1 : Nat) : Int)
          rw [w64 (by omega) (by omega)]; rfl
        · show SV.i .u64 (IntKind.u64.wrap (IntKind.u64.wrap ((n : Int) * IntKind.u64.wrap 16) + IntKind.u64.wrap X)) = SV.i .u64 ((n * 16 + V : Nat) : Int)
          have f1 : IntKind.u64.wrap X = X := wu64 d1 (by omega)
          have f2 : IntKind.u64.wrap ((n : Int) * 16) = (n : Int) * 16 := wu64 (by omega) (by omega)
          have f3 : IntKind.u64.wrap ((n : Int) * 16 + X) = (n : Int) * 16 + X := wu64 (by omega) (by omega)
          rw [eb, f1, f2, f3]
          congr 1
          omega
    · have h4 : decide ((k : Int) < (((w.take w.length).drop 2).length : Int)) = false := h4
      have h4 : ¬ (k : Int) < (((w.take w.length).drop 2).length : Int) := of_decide_eq_false h4
      have h4 : ¬ k < ((w.take w.length).drop 2).length := fun h => h4 (Int.ofNat_lt.2 h)
      rw [hv, List.drop_eq_nil_of_le (Nat.not_lt.1 h4)]
      exact rfl
theorem hex_pre (w : List UInt8) : ((decide ((2 : Int) < (w.length : Int)) && decide (cd w 0 = 48)) && decide (cd w 1 = 120)) = (hexB w && decide (2 < w.length)) := by
  unfold hexB pre cd
  match w with
  | [] => simp
  | [a] => simp
  | a :: b :: r =>
    have ea : ((a.toNat : Int) = 48) ↔ a = 48 := ⟨fun h => UInt8.toNat_inj.1 (by show a.toNat = 48; omega), fun h => by subst h; rfl⟩
    have eb : ((b.toNat : Int) = 120) ↔ b = 120 := ⟨fun h => UInt8.toNat_inj.1 (by show b.toNat = 120; omega), fun h => by subst h; rfl⟩
    rw [Bool.eq_iff_iff]
    simp [ea, eb]
    grind
theorem valR_num (w : List UInt8) (h1 : 1 ≤ (numDs w).length) (h2 : (numDs w).length ≤ numMost w) : numF w = valR (numBase w) (numDs w) 0 := by
  have hb : 1 ≤ numBase w := by unfold numBase; split <;> decide
  rw [valR_eq hb _ _ (by decide)]
  unfold numF
  rw [if_neg (by omega), if_neg (by intro e; rw [e] at h1; simp at h1)]
  cases valB (numBase w) (numDs w) 0 <;> rfl
theorem rvalue_ok (w : List UInt8) (hw : w.length ≤ 100000) : CtrV Tryz.prog 229 [.s w] (valO (numF w)) := by
  cases hx : ((decide ((2 : Int) < (w.length : Int)) && decide (cd w 0 = 48)) && decide (cd w 1 = 120)) with
  | true =>
    have h := hex_pre w
    rw [hx] at h
    have h : (hexB w && decide (2 < w.length)) = true := h.symm
    simp only [Bool.and_eq_true, decide_eq_true_eq] at h
    have hd : numDs w = (w.take w.length).drop 2 := by unfold numDs; rw [if_pos h.1, List.take_length]
    have hm : numMost w = 16 := by unfold numMost; rw [if_pos h.1]
    have hb : numBase w = 16 := by unfold numBase; rw [if_pos h.1]
    refine rvalue_16 w hw hx _ (fun h2 => ?_) (fun h2 h3 => ?_)
    · rw [← hd] at h2
      unfold numF
      rw [hm]
      by_cases h3 : 16 < (numDs w).length
      · rw [if_pos h3]
      · rw [if_neg h3, if_pos (List.eq_nil_of_length_eq_zero (by omega))]
    · rw [← hd] at h2 h3 ⊢
      rw [valR_num w h2 (by omega), hb]
  | false =>
    have h := hex_pre w
    rw [hx] at h
    have h : (hexB w && decide (2 < w.length)) = false := h.symm
    cases hp : hexB w with
    | false =>
      have hd : numDs w = w := by unfold numDs; rw [if_neg (by rw [hp]; decide)]
      have hm : numMost w = 19 := by unfold numMost; rw [if_neg (by rw [hp]; decide)]
      have hb : numBase w = 10 := by unfold numBase; rw [if_neg (by rw [hp]; decide)]
      refine rvalue_10 w hw hx _ (fun h2 => ?_) (fun h2 h3 => ?_)
      · unfold numF
        rw [hm, hd]
        by_cases h3 : 19 < w.length
        · rw [if_pos h3]
        · rw [if_neg h3, if_pos (List.eq_nil_of_length_eq_zero (by omega))]
      · rw [valR_num w (by rw [hd]; exact h2) (by rw [hd, hm]; exact h3), hb, hd]
    | true =>
      rw [hp] at h
      have h2 : ¬ 2 < w.length := by simpa using h
      have hl := pre_len (p := [48, 120]) hp
      have hl : 2 ≤ w.length := hl
      have hn : numF w = none := by
        unfold numF
        have hd : numDs w = [] := by unfold numDs; rw [if_pos hp]; exact List.drop_eq_nil_of_le (by omega)
        rw [hd]
        simp
      rw [hn]
      refine rvalue_10 w hw hx _ (fun _ => rfl) (fun _ _ => ?_)
      match w, hl, h2, hp with
      | [a, b], _, _, hp =>
        unfold hexB pre at hp
        simp at hp
        obtain ⟨rfl, rfl⟩ := hp
        decide
      | a :: b :: c :: r, _, h2, _ => simp at h2
end SX
end Go.Proofs.YtlgjjklikbpcoaaGreatDoor

/- Words of a text: where a comment ends, plain; the reference's blanks, plain. -/
set_option linter.unusedVariables false
set_option maxRecDepth 100000
namespace Go.Proofs.YtlgjjklikbpcoaaGreatDoor
namespace SX
open Go Go.Proofs
def endB (s : List UInt8) (j : Nat) : Bool := decide (cd s j = 42) && decide (cd s (j + 1) = 41)
theorem u8_eq {a : UInt8} {n : Nat} (hn : n < 256) : ((a.toNat : Int) = (n : Int)) ↔ UInt8.ofNat n = a := by
  constructor
  · intro h
    apply UInt8.toNat_inj.1
    rw [UInt8.toNat_ofNat_of_lt' (by simpa [UInt8.size] using hn)]
    omega
  · rintro rfl
    rw [UInt8.toNat_ofNat_of_lt' (by simpa [UInt8.size] using hn)]
theorem pre2 (l : List UInt8) : [42, 41].isPrefixOf l = endB l 0 := by
  unfold endB cd
  match l with
  | [] => rfl
  | [a] => simp [List.isPrefixOf]
  | a :: b :: r =>
    have ea := u8_eq (a := a) (n := 42) (by decide)
    have eb := u8_eq (a := b) (n := 41) (by decide)
    rw [Bool.eq_iff_iff]
    simp only [List.isPrefixOf, Bool.and_eq_true, beq_iff_eq, decide_eq_true_eq, and_true, List.getD_cons_zero, List.getD_cons_succ]
    exact ⟨fun h => ⟨ea.2 h.1, eb.2 h.2⟩, fun h => ⟨ea.1 h.1, eb.1 h.2⟩⟩
theorem endB_drop (s : List UInt8) (p j : Nat) : endB (s.drop p) j = endB s (p + j) := by unfold endB; rw [cd_drop, cd_drop, Nat.add_assoc]
theorem occ2 (s : List UInt8) (p i : Nat) : Lib.occAt ((s.drop p).drop 2) [42, 41] i = endB s (p + 2 + i) := by
  unfold Lib.occAt
  rw [pre2, List.drop_drop, List.drop_drop, endB_drop, Nat.add_zero]
  congr 1; omega
theorem endB_len {s : List UInt8} {j : Nat} (h : endB s j = true) : j + 1 < s.length := by
  unfold endB at h
  simp only [Bool.and_eq_true, decide_eq_true_eq] at h
  by_cases hl : j + 1 < s.length
  · exact hl
  · have h2 := h.2
    unfold cd at h2
    rw [List.getD_eq_getElem?_getD, List.getElem?_eq_none (by omega)] at h2
    simp at h2
theorem cmt_hit {s : List UInt8} {p m : Nat} (hp : p + 2 ≤ m) (hit : endB s m = true) (ho : ∀ j, p + 2 ≤ j → j < m → endB s j = false) : Lib.index ((s.drop p).drop 2) [42, 41] = ((m - (p + 2) : Nat) : Int) := by
  have hl := endB_len hit
  refine Lib.index_first (by simp; omega) ?_ (fun j hj => ?_)
  · rw [occ2, show p + 2 + (m - (p + 2)) = m by omega]; exact hit
  · rw [occ2]; exact ho _ (by omega) (by omega)
theorem cmt_no {s : List UInt8} {p : Nat} (ho : ∀ j, p + 2 ≤ j → endB s j = false) : Lib.index ((s.drop p).drop 2) [42, 41] = -1 :=
  Lib.index_none fun j _ => by rw [occ2]; exact ho _ (by omega)
theorem blkF_end {s : List UInt8} {g k : Nat} (h : s.length ≤ k) : blkF s g k = (k, 0) := by
  cases g with
  | zero => rfl
  | succ g => simp only [blkF, if_pos h]
theorem blkF_step {s : List UInt8} {g k : Nat} (h : k < s.length) (hg : s.length < k + g) : ∃ g', g = g' + 1 ∧ blkF s g k = (if isBlank (cd s k) then blkF s g' (k + 1)
    else if pre (s.drop k) [40, 42] then (if Lib.index ((s.drop k).drop 2) [42, 41] < 0 then (k, 24) else blkF s g' (k + ((Lib.index ((s.drop k).drop 2) [42, 41]).toNat + 4))) else (k, 0)) := by
  cases g with
  | zero => omega
  | succ g => exact ⟨g, rfl, by simp only [blkF, if_neg (Nat.not_le.2 h), cd_drop, Nat.add_zero]⟩
theorem pre_at (s : List UInt8) (k : Nat) : pre (s.drop k) [40, 42] = (decide (cd s k = 40) && decide (cd s (k + 1) = 42)) := by
  have := cd_drop s k 0
  have h1 := cd_drop s k 1
  rw [Nat.add_zero] at this
  rw [← this, ← h1]
  unfold pre cd
  match s.drop k with
  | [] => rfl
  | [a] => simp
  | a :: b :: r =>
    have ea := u8_eq (a := a) (n := 40) (by decide)
    have eb := u8_eq (a := b) (n := 42) (by decide)
    rw [Bool.eq_iff_iff]
    simp only [List.length_cons, List.length_nil, List.take_succ_cons, List.take_zero, List.drop_zero, Bool.and_eq_true, decide_eq_true_eq, List.cons.injEq, and_true, List.getD_cons_zero, List.getD_cons_succ]
    constructor
    · rintro ⟨_, h1, h2⟩
      exact ⟨ea.2 h1.symm, eb.2 h2.symm⟩
    · rintro ⟨h1, h2⟩
      exact ⟨by omega, (ea.1 h1).symm, (eb.1 h2).symm⟩
end SX
end Go.Proofs.YtlgjjklikbpcoaaGreatDoor

/- Words of a text: the reference's blanks. -/
set_option linter.unusedVariables false
set_option maxRecDepth 100000
namespace Go.Proofs.YtlgjjklikbpcoaaGreatDoor
namespace SX
open Go Go.Proofs
set_option maxHeartbeats 1000000 in
theorem rblank_ok (s : List UInt8) (p : Nat) (hs : s.length ≤ 100000) (hp : p ≤ s.length) : CtrV Tryz.prog 226 [.s s, .i .i64 p] (.tup [.i .i64 ((blkF s (s.length + 1) p).1 : Int), .i .i64 (blkF s (s.length + 1) p).2]) := by
  refine Ctr.enterV tabOkF (fn := Tryz.f226) rfl rfl rfl rfl rfl rfl ?_
  generalize hG : blkF s (s.length + 1) p = G
  refine WpC.loop tabOkF (β := Nat) (fun k => k ≤ s.length ∧ ∃ g, s.length < k + g ∧ G = blkF s g k) (fun k => [(1, .i .i64 k)]) (fun _ => []) (fun k => s.length - k) p 604462909807314587353074 ⟨hp, _, by omega, hG.symm⟩ ?_ ?_
  · exact ⟨rfl, ⟨⟨rfl, rfl, rfl⟩, trivial⟩, ⟨[], rfl⟩, trivial, rfl⟩
  · rintro k ⟨hk, g, hg, hv⟩
    refine ⟨fun h1 => ?_, fun h1 => ?_⟩
    · have h1 : (k : Int) < (s.length : Int) := of_decide_eq_true h1
      have h1 : k < s.length := by omega
      have hix : (0 : Int) ≤ (k : Int) ∧ (k : Int) < (s.length : Int) := by omega
      have e1 : IntKind.i64.wrap ((k : Int) + 1) = ((k + 1 : Nat) : Int) := w64 (by omega) (by omega)
      have e2 : IntKind.i64.wrap ((k : Int) + 2) = ((k + 2 : Nat) : Int) := w64 (by omega) (by omega)
      obtain ⟨g', rfl, hst⟩ := blkF_step h1 hg
      rw [hst] at hv
      refine ⟨fun _ => hix, ⟨fun _ => hix, ⟨fun _ => hix, ?_⟩⟩⟩
      refine ⟨fun h2 => ?_, fun h2 => ?_⟩
      · have h2 : isBlank (cd s k) = true := h2
        rw [if_pos h2] at hv
        exact ⟨k + 1, ⟨by omega, g', by omega, hv⟩, by omega, rfl, ⟨⟨by show SV.i .i64 (IntKind.i64.wrap ((k : Int) + 1)) = SV.i .i64 ((k + 1 : Nat) : Int); rw [e1], rfl, rfl⟩, trivial⟩, ⟨[], rfl⟩, trivial, rfl⟩
      · have h2 : isBlank (cd s k) = false := h2
        rw [if_neg (by rw [h2]; decide)] at hv
        refine ⟨fun _ => hix, ⟨fun hg2 => ?_, ?_⟩⟩
        · have hg2 : (((!decide (cd s k = 40)) || decide ((s.length : Int) ≤ IntKind.i64.wrap ((k : Int) + 1))) == false) = true := hg2
          show (0 : Int) ≤ IntKind.i64.wrap ((k : Int) + 1) ∧ IntKind.i64.wrap ((k : Int) + 1) < (s.length : Int)
          rw [e1] at hg2 ⊢
          simp at hg2
          omega
        refine ⟨fun h3 => ?_, fun h3 => ?_⟩
        · have h3 : (((!decide (cd s k = 40)) || decide ((s.length : Int) ≤ IntKind.i64.wrap ((k : Int) + 1))) || (!decide (cd s (IntKind.i64.wrap ((k : Int) + 1)).toNat = 42))) = true := h3
          rw [e1] at h3
          have hpf : pre (s.drop k) [40, 42] = false := by
            rw [pre_at]
            cases hq : (decide (cd s k = 40) && decide (cd s (k + 1) = 42)) with
            | false => rfl
            | true =>
              simp only [Bool.and_eq_true, decide_eq_true_eq] at hq
              simp only [Int.toNat_natCast, hq.1, hq.2, decide_true, Bool.not_true, Bool.false_or, Bool.or_false, decide_eq_true_eq] at h3
              have hq2 := hq.2
              unfold cd at hq2
              rw [List.getD_eq_getElem?_getD, List.getElem?_eq_none (by omega)] at hq2
              simp at hq2
          rw [if_neg (by rw [hpf]; decide)] at hv
          rw [hv]
          exact rfl
        · have h3 : (((!decide (cd s k = 40)) || decide ((s.length : Int) ≤ IntKind.i64.wrap ((k : Int) + 1))) || (!decide (cd s (IntKind.i64.wrap ((k : Int) + 1)).toNat = 42))) = false := h3
          rw [e1] at h3
          simp only [Int.toNat_natCast, Bool.or_eq_false_iff, Bool.not_eq_false', decide_eq_true_eq, decide_eq_false_iff_not] at h3
          obtain ⟨⟨c1, c2⟩, c3⟩ := h3
          have hpf : pre (s.drop k) [40, 42] = true := by rw [pre_at, decide_eq_true c1, decide_eq_true c3]; rfl
          rw [if_pos hpf] at hv
          have c2 : k + 1 < s.length := by omega
          refine WpC.loop tabOkF (β := Nat) (fun m => k + 2 ≤ m ∧ m ≤ s.length + 1 ∧ ∀ j, k + 2 ≤ j → j < m → endB s j = false) (fun m => [(6, .i .i64 m)]) (fun _ => []) (fun m => s.length + 2 - m) (k + 2) 1208925819614629174706172 ⟨Nat.le_refl _, by omega, fun j a b => by omega⟩ ?_ ?_
          · exact ⟨rfl, ⟨⟨by show SV.i .i64 (IntKind.i64.wrap ((k : Int) + 2)) = SV.i .i64 ((k + 2 : Nat) : Int); rw [e2], rfl, rfl⟩, trivial⟩, ⟨[], rfl⟩, trivial, rfl⟩
          · as_aux_lemma =>
              rintro m ⟨hm1, hm2, hmo⟩
              have f1 : IntKind.i64.wrap ((m : Int) + 1) = ((m + 1 : Nat) : Int) := w64 (by omega) (by omega)
              have f2 : IntKind.i64.wrap ((m : Int) + 2) = ((m + 2 : Nat) : Int) := w64 (by omega) (by omega)
              have hob : (decide (IntKind.i64.wrap ((m : Int) + 1) < (s.length : Int)) == true) = true → m + 1 < s.length := by
                intro h; rw [f1] at h; simp at h; omega
              refine ⟨fun q => by have := hob q; show (0 : Int) ≤ (m : Int) ∧ (m : Int) < (s.length : Int); omega, ⟨fun q => by have := hob (and_l q); show (0 : Int) ≤ IntKind.i64.wrap ((m : Int) + 1) ∧ IntKind.i64.wrap ((m : Int) + 1) < (s.length : Int); rw [f1]; omega, ?_⟩⟩
              refine ⟨fun h4 => ?_, fun h4 => ?_⟩
              · as_aux_lemma =>
                have h4 : (decide (IntKind.i64.wrap ((m : Int) + 1) < (s.length : Int)) && !(decide (cd s m = 42) && decide (cd s (IntKind.i64.wrap ((m : Int) + 1)).toNat = 41))) = true := h4
                rw [f1] at h4
                simp only [Int.toNat_natCast] at h4
                rw [show (decide (cd s m = 42) && decide (cd s (m + 1) = 41)) = endB s m from rfl] at h4
                simp only [Bool.and_eq_true, decide_eq_true_eq, Bool.not_eq_true'] at h4
                refine ⟨m + 1, ⟨by omega, by omega, fun j a b => ?_⟩, by omega, Eq.trans (b := SV.s s :: SV.i .i64 (k : Int) :: List.replicate 78 SV.dead) rfl rfl, ⟨⟨by show SV.i .i64 (IntKind.i64.wrap ((m : Int) + 1)) = SV.i .i64 ((m + 1 : Nat) : Int); rw [f1], rfl, rfl⟩, trivial⟩, ⟨[], rfl⟩, trivial, rfl⟩
                rcases Nat.lt_succ_iff_lt_or_eq.1 b with b | rfl
                · exact hmo j a b
                · exact h4.2
              · have h4 : (decide (IntKind.i64.wrap ((m : Int) + 1) < (s.length : Int)) && !(decide (cd s m = 42) && decide (cd s (IntKind.i64.wrap ((m : Int) + 1)).toNat = 41))) = false := h4
                rw [f1] at h4
                simp only [Int.toNat_natCast] at h4
                rw [show (decide (cd s m = 42) && decide (cd s (m + 1) = 41)) = endB s m from rfl] at h4
                refine ⟨fun h5 => ?_, fun h5 => ?_⟩
                · as_aux_lemma =>
                  have h5 : (s.length : Int) ≤ IntKind.i64.wrap ((m : Int) + 1) := of_decide_eq_true h5
                  rw [f1] at h5
                  have hno : Lib.index ((s.drop k).drop 2) [42, 41] = -1 := cmt_no fun j hj => by
                    by_cases hjm : j < m
                    · exact hmo j hj hjm
                    · cases hq : endB s j with
                      | false => rfl
                      | true => have := endB_len hq; omega
                  rw [if_pos (by rw [hno]; decide)] at hv
                  rw [hv]
                  exact rfl
                · as_aux_lemma =>
                  have h5 : ¬ (s.length : Int) ≤ IntKind.i64.wrap ((m : Int) + 1) := of_decide_eq_false h5
                  rw [f1] at h5
                  have h6 : endB s m = true := by
                    rw [decide_eq_true (by omega)] at h4
                    simpa using h4
                  have hi := cmt_hit (s := s) (p := k) (m := m) hm1 h6 hmo
                  rw [if_neg (by rw [hi]; omega), hi] at hv
                  refine ⟨m + 2, ⟨by omega, g', by omega, ?_⟩, by omega, rfl, ⟨⟨by show SV.i .i64 (IntKind.i64.wrap ((m : Int) + 2)) = SV.i .i64 ((m + 2 : Nat) : Int); rw [f2], rfl, rfl⟩, trivial⟩, ⟨[], rfl⟩, trivial, rfl⟩
                  rw [hv]
                  congr 1
                  simp; omega
    · have h1 : ¬ (k : Int) < (s.length : Int) := of_decide_eq_false h1
      rw [hv, blkF_end (by omega)]
      exact rfl
end SX
end Go.Proofs.YtlgjjklikbpcoaaGreatDoor

/- The laying of a contract of the shelf at this program. -/
set_option maxRecDepth 100000
namespace Go.Proofs
open Go.Shelf
def Tryz.TIdx_ren : Go.Shelf.Ren := ⟨fun | 143 => 55 | 219 => 123 | 217 => 127 | 225 => 197 | 224 => 198 | 267 => 199 | 266 => 203 | 314 => 261 | n => n, fun | 9 => 9 | 3 => 3 | 4 => 4 | 5 => 5 | 46 => 233 | 146 => 275 | 51 => 274 | n => n, fun | 1 => 0 | n => n⟩
theorem Tryz.TIdx : Go.Proofs.Lays.n143 Tryz.prog Tryz.TIdx_ren := {
  mixed := by kernel_rfl
  f143 := Tryz.func55.trans (congrArg some (by kernel_rfl))
  f217 := Tryz.func127.trans (congrArg some (by kernel_rfl))
  f219 := Tryz.func123.trans (congrArg some (by kernel_rfl))
  f224 := Tryz.func198.trans (congrArg some (by kernel_rfl))
  f225 := Tryz.func197.trans (congrArg some (by kernel_rfl))
  f266 := Tryz.func203.trans (congrArg some (by kernel_rfl))
  f267 := Tryz.func199.trans (congrArg some (by kernel_rfl))
  f314 := Tryz.func261.trans (congrArg some (by kernel_rfl))
  t3 := Tryz.underlying3
  a3 := Tryz.isAgg3
  z3 := Tryz.sizeOf3
  v3 := Tryz.zeroValue3
  t4 := Tryz.underlying4
  a4 := Tryz.isAgg4
  z4 := Tryz.sizeOf4
  v4 := Tryz.zeroValue4
  t5 := Tryz.underlying5
  a5 := Tryz.isAgg5
  z5 := Tryz.sizeOf5
  v5 := Tryz.zeroValue5
  t9 := Tryz.underlying9
  a9 := Tryz.isAgg9
  z9 := Tryz.sizeOf9
  v9 := Tryz.zeroValue9
  t46 := Tryz.underlying233
  a46 := Tryz.isAgg233
  z46 := Tryz.sizeOf233
  v46 := Tryz.zeroValue233
  t51 := Tryz.underlying274
  a51 := Tryz.isAgg274
  z51 := Tryz.sizeOf274
  v51 := Tryz.zeroValue274
  t146 := Tryz.underlying275
  a146 := Tryz.isAgg275
  z146 := Tryz.sizeOf275
  v146 := Tryz.zeroValue275
  g1 := by kernel_rfl }
end Go.Proofs

/- The laying of a contract of the shelf at this program. -/
set_option maxRecDepth 100000
namespace Go.Proofs
open Go.Shelf
def Tryz.TCon_ren : Go.Shelf.Ren := ⟨fun | 144 => 125 | 143 => 55 | 219 => 123 | 217 => 127 | 225 => 197 | 224 => 198 | 267 => 199 | 266 => 203 | 314 => 261 | n => n, fun | 9 => 9 | 4 => 4 | 3 => 3 | 5 => 5 | 46 => 233 | 146 => 275 | 51 => 274 | n => n, fun | 1 => 0 | n => n⟩
theorem Tryz.TCon : Go.Proofs.Lays.n144 Tryz.prog Tryz.TCon_ren := {
  mixed := by kernel_rfl
  f143 := Tryz.func55.trans (congrArg some (by kernel_rfl))
  f144 := Tryz.func125.trans (congrArg some (by kernel_rfl))
  f217 := Tryz.func127.trans (congrArg some (by kernel_rfl))
  f219 := Tryz.func123.trans (congrArg some (by kernel_rfl))
  f224 := Tryz.func198.trans (congrArg some (by kernel_rfl))
  f225 := Tryz.func197.trans (congrArg some (by kernel_rfl))
  f266 := Tryz.func203.trans (congrArg some (by kernel_rfl))
  f267 := Tryz.func199.trans (congrArg some (by kernel_rfl))
  f314 := Tryz.func261.trans (congrArg some (by kernel_rfl))
  t3 := Tryz.underlying3
  a3 := Tryz.isAgg3
  z3 := Tryz.sizeOf3
  v3 := Tryz.zeroValue3
  t4 := Tryz.underlying4
  a4 := Tryz.isAgg4
  z4 := Tryz.sizeOf4
  v4 := Tryz.zeroValue4
  t5 := Tryz.underlying5
  a5 := Tryz.isAgg5
  z5 := Tryz.sizeOf5
  v5 := Tryz.zeroValue5
  t9 := Tryz.underlying9
  a9 := Tryz.isAgg9
  z9 := Tryz.sizeOf9
  v9 := Tryz.zeroValue9
  t46 := Tryz.underlying233
  a46 := Tryz.isAgg233
  z46 := Tryz.sizeOf233
  v46 := Tryz.zeroValue233
  t51 := Tryz.underlying274
  a51 := Tryz.isAgg274
  z51 := Tryz.sizeOf274
  v51 := Tryz.zeroValue274
  t146 := Tryz.underlying275
  a146 := Tryz.isAgg275
  z146 := Tryz.sizeOf275
  v146 := Tryz.zeroValue275
  g1 := by kernel_rfl }
end Go.Proofs

/- The laying of a contract of the shelf at this program. -/
set_option maxRecDepth 100000
namespace Go.Proofs
open Go.Shelf
def Tryz.TIxb_ren : Go.Shelf.Ren := ⟨fun | 137 => 62 | 217 => 127 | 266 => 203 | n => n, fun | 9 => 9 | 5 => 5 | 3 => 3 | n => n, fun | n => n⟩
theorem Tryz.TIxb : Go.Proofs.Lays.n137 Tryz.prog Tryz.TIxb_ren := {
  mixed := by kernel_rfl
  f137 := Tryz.func62.trans (congrArg some (by kernel_rfl))
  f217 := Tryz.func127.trans (congrArg some (by kernel_rfl))
  f266 := Tryz.func203.trans (congrArg some (by kernel_rfl))
  t3 := Tryz.underlying3
  a3 := Tryz.isAgg3
  z3 := Tryz.sizeOf3
  v3 := Tryz.zeroValue3
  t5 := Tryz.underlying5
  a5 := Tryz.isAgg5
  z5 := Tryz.sizeOf5
  v5 := Tryz.zeroValue5
  t9 := Tryz.underlying9
  a9 := Tryz.isAgg9
  z9 := Tryz.sizeOf9
  v9 := Tryz.zeroValue9 }
end Go.Proofs

/- The laying of a contract of the shelf at this program. -/
set_option maxRecDepth 100000
namespace Go.Proofs
open Go.Shelf
def Tryz.TErr_ren : Go.Shelf.Ren := ⟨fun | 17 => 202 | 21 => 264 | 22 => 265 | 23 => 266 | 24 => 267 | 25 => 289 | 27 => 93 | 26 => 290 | 28 => 171 | 29 => 251 | 30 => 283 | 31 => 284 | 32 => 285 | 33 => 286 | 35 => 305 | 34 => 307 | 36 => 308 | 37 => 309 | 38 => 310 | 39 => 318 | 40 => 319 | n => n, fun | 9 => 9 | 3 => 3 | 24 => 144 | 34 => 277 | 4 => 4 | 39 => 279 | 44 => 301 | 37 => 140 | 0 => 0 | 47 => 215 | 50 => 327 | 48 => 325 | 2 => 2 | 52 => 293 | 22 => 175 | 5 => 5 | 55 => 296 | 59 => 323 | 60 => 274 | 20 => 20 | 61 => 324 | 36 => 233 | 65 => 337 | 66 => 338 | 67 => 152 | n => n, fun | 0 => 3 | 1 => 4 | 2 => 5 | 3 => 6 | 4 => 7 | n => n⟩
theorem Tryz.TErr : Go.Proofs.LaysPu.n17 Tryz.prog Tryz.TErr_ren := {
  mixed := by kernel_rfl
  f17 := Tryz.func202.trans (congrArg some (by kernel_rfl))
  f21 := Tryz.func264.trans (congrArg some (by kernel_rfl))
  f22 := Tryz.func265.trans (congrArg some (by kernel_rfl))
  f23 := Tryz.func266.trans (congrArg some (by kernel_rfl))
  f24 := Tryz.func267.trans (congrArg some (by kernel_rfl))
  f25 := Tryz.func289.trans (congrArg some (by kernel_rfl))
  f26 := Tryz.func290.trans (congrArg some (by kernel_rfl))
  f27 := Tryz.func93.trans (congrArg some (by kernel_rfl))
  f28 := Tryz.func171.trans (congrArg some (by kernel_rfl))
  f29 := Tryz.func251.trans (congrArg some (by kernel_rfl))
  f30 := Tryz.func283.trans (congrArg some (by kernel_rfl))
  f31 := Tryz.func284.trans (congrArg some (by kernel_rfl))
  f32 := Tryz.func285.trans (congrArg some (by kernel_rfl))
  f33 := Tryz.func286.trans (congrArg some (by kernel_rfl))
  f34 := Tryz.func307.trans (congrArg some (by kernel_rfl))
  f35 := Tryz.func305.trans (congrArg some (by kernel_rfl))
  f36 := Tryz.func308.trans (congrArg some (by kernel_rfl))
  f37 := Tryz.func309.trans (congrArg some (by kernel_rfl))
  f38 := Tryz.func310.trans (congrArg some (by kernel_rfl))
  f39 := Tryz.func318.trans (congrArg some (by kernel_rfl))
  f40 := Tryz.func319.trans (congrArg some (by kernel_rfl))
  t0 := Tryz.underlying0
  a0 := Tryz.isAgg0
  z0 := Tryz.sizeOf0
  v0 := Tryz.zeroValue0
  i0 := by kernel_rfl
  t2 := Tryz.underlying2
  a2 := Tryz.isAgg2
  z2 := Tryz.sizeOf2
  v2 := Tryz.zeroValue2
  i2 := by kernel_rfl
  t3 := Tryz.underlying3
  a3 := Tryz.isAgg3
  z3 := Tryz.sizeOf3
  v3 := Tryz.zeroValue3
  i3 := by kernel_rfl
  t4 := Tryz.underlying4
  a4 := Tryz.isAgg4
  z4 := Tryz.sizeOf4
  v4 := Tryz.zeroValue4
  i4 := by kernel_rfl
  t5 := Tryz.underlying5
  a5 := Tryz.isAgg5
  z5 := Tryz.sizeOf5
  v5 := Tryz.zeroValue5
  i5 := by kernel_rfl
  t9 := Tryz.underlying9
  a9 := Tryz.isAgg9
  z9 := Tryz.sizeOf9
  v9 := Tryz.zeroValue9
  i9 := by kernel_rfl
  t20 := Tryz.underlying20
  a20 := Tryz.isAgg20
  z20 := Tryz.sizeOf20
  v20 := Tryz.zeroValue20
  i20 := by kernel_rfl
  t22 := Tryz.underlying175
  a22 := Tryz.isAgg175
  z22 := Tryz.sizeOf175
  v22 := Tryz.zeroValue175
  i22 := by kernel_rfl
  t24 := Tryz.underlying144
  a24 := Tryz.isAgg144
  z24 := Tryz.sizeOf144
  v24 := Tryz.zeroValue144
  i24 := by kernel_rfl
  t34 := Tryz.underlying277
  a34 := Tryz.isAgg277
  z34 := Tryz.sizeOf277
  v34 := Tryz.zeroValue277
  i34 := by kernel_rfl
  c34 := by kernel_rfl
  t36 := Tryz.underlying233
  a36 := Tryz.isAgg233
  z36 := Tryz.sizeOf233
  v36 := Tryz.zeroValue233
  i36 := by kernel_rfl
  t37 := Tryz.underlying140
  a37 := Tryz.isAgg140
  z37 := Tryz.sizeOf140
  v37 := Tryz.zeroValue140
  i37 := by kernel_rfl
  t39 := Tryz.underlying279
  a39 := Tryz.isAgg279
  z39 := Tryz.sizeOf279
  v39 := Tryz.zeroValue279
  i39 := by kernel_rfl
  t44 := Tryz.underlying301
  a44 := Tryz.isAgg301
  z44 := Tryz.sizeOf301
  v44 := Tryz.zeroValue301
  i44 := by kernel_rfl
  t47 := Tryz.underlying215
  a47 := Tryz.isAgg215
  z47 := Tryz.sizeOf215
  v47 := Tryz.zeroValue215
  i47 := by kernel_rfl
  t48 := Tryz.underlying325
  a48 := Tryz.isAgg325
  z48 := Tryz.sizeOf325
  v48 := Tryz.zeroValue325
  i48 := by kernel_rfl
  t50 := Tryz.underlying327
  a50 := Tryz.isAgg327
  z50 := Tryz.sizeOf327
  v50 := Tryz.zeroValue327
  i50 := by kernel_rfl
  t52 := Tryz.underlying293
  a52 := Tryz.isAgg293
  z52 := Tryz.sizeOf293
  v52 := Tryz.zeroValue293
  i52 := by kernel_rfl
  t55 := Tryz.underlying296
  a55 := Tryz.isAgg296
  z55 := Tryz.sizeOf296
  v55 := Tryz.zeroValue296
  i55 := by kernel_rfl
  t59 := Tryz.underlying323
  a59 := Tryz.isAgg323
  z59 := Tryz.sizeOf323
  v59 := Tryz.zeroValue323
  i59 := by kernel_rfl
  t60 := Tryz.underlying274
  a60 := Tryz.isAgg274
  z60 := Tryz.sizeOf274
  v60 := Tryz.zeroValue274
  i60 := by kernel_rfl
  t61 := Tryz.underlying324
  a61 := Tryz.isAgg324
  z61 := Tryz.sizeOf324
  t65 := Tryz.underlying337
  a65 := Tryz.isAgg337
  z65 := Tryz.sizeOf337
  v65 := Tryz.zeroValue337
  i65 := by kernel_rfl
  t66 := Tryz.underlying338
  a66 := Tryz.isAgg338
  z66 := Tryz.sizeOf338
  v66 := Tryz.zeroValue338
  i66 := by kernel_rfl
  t67 := Tryz.underlying152
  a67 := Tryz.isAgg152
  z67 := Tryz.sizeOf152
  v67 := Tryz.zeroValue152
  i67 := by kernel_rfl
  g0 := by kernel_rfl
  m0 := by kernel_rfl
  g1 := by kernel_rfl
  m1 := by kernel_rfl
  g2 := by kernel_rfl
  m2 := by kernel_rfl
  g3 := by kernel_rfl
  m3 := by kernel_rfl
  g4 := by kernel_rfl
  m4 := by kernel_rfl }
end Go.Proofs

/- Words of a text: contracts of the library; a number's value. -/
set_option linter.unusedVariables false
set_option maxRecDepth 100000
namespace Go.Proofs.YtlgjjklikbpcoaaGreatDoor
namespace SX
open Go Go.Proofs
theorem grow_zero (w : World) : Sort.grow (w.drewN 0) #[] = w := by simp [Sort.grow, World.drewN]
theorem maxlen_tab : tabs 0 = some (.anyI .i64) := by kernel_rfl
theorem maxlen_cell {w : World} (hT : TabsIn w) : ∃ n, w.cell? ⟨0, 0, none⟩ = some (.int .i64 n) := by
  obtain ⟨n, arr, t, fr, h1, h2⟩ := hT _ _ maxlen_tab
  have h1 : w.heap[0]? = some (.cells arr t fr) := h1
  exact ⟨n, by unfold World.cell?; simp only [h1]; simpa using h2⟩
theorem sIndex_ok (s p : List UInt8) (hs : s.length ≤ 100000) : CtrV Tryz.prog 55 [.s s, .s p] (.i .i64 (Lib.index s p)) :=
  CtrV.of_grow (fn := Tryz.f55) Tryz.func55 rfl rfl (fun m => trivial) rfl fun w hT E m _ => by
    obtain ⟨n, hm⟩ := maxlen_cell hT
    refine (Any.strings_Index Tryz.TIdx ⟨⟨s⟩⟩ ⟨⟨p⟩⟩ n w (by show s.length < 4294967281; omega) hm).mono ?_
    rintro e w' ⟨he, rfl⟩
    exact ⟨he, 0, #[], (grow_zero _).symm⟩
theorem sContains_ok (s p : List UInt8) (hs : s.length ≤ 100000) : CtrV Tryz.prog 125 [.s s, .s p] (.b (Lib.contains s p)) :=
  CtrV.of_grow (fn := Tryz.f125) Tryz.func125 rfl rfl (fun m => trivial) rfl fun w hT E m _ => by
    obtain ⟨n, hm⟩ := maxlen_cell hT
    refine (Any.strings_Contains Tryz.TCon ⟨⟨s⟩⟩ ⟨⟨p⟩⟩ n w (by show s.length < 4294967281; omega) hm).mono ?_
    rintro e w' ⟨he, rfl⟩
    exact ⟨he, 0, #[], (grow_zero _).symm⟩
theorem sIndexByte_ok (s : List UInt8) (c : Int) : CtrV Tryz.prog 62 [.s s, .i .u8 c] (.i .i64 (Lib.indexByte s c.toNat.toUInt8)) :=
  CtrV.of_grow (fn := Tryz.f62) Tryz.func62 rfl rfl (fun m => trivial) rfl fun w hT E m _ => by
    refine (Any.strings_IndexByte Tryz.TIxb ⟨⟨s⟩⟩ c w).mono ?_
    rintro e w' ⟨he, rfl⟩
    exact ⟨he, 0, #[], (grow_zero _).symm⟩
theorem no_mark {s : List UInt8} {c : UInt8} (h : c ∉ s) : Lib.contains s [c] = false := by
  have key : ∀ s : List UInt8, c ∉ s → Lib.indexByte s c = -1 := by
    intro s
    induction s with
    | nil => intro _; rfl
    | cons b l ih =>
      intro h
      simp only [List.mem_cons, not_or] at h
      unfold Lib.indexByte
      have hb : (b == c) = false := by simp; exact fun e => h.1 e.symm
      rw [hb, ih h.2]; rfl
  unfold Lib.contains
  rw [Lib.index_one, key s h]
  rfl
theorem drKeep_no : drKeep = false := rfl
theorem syn_tab : tabs 3 = some .ifc := by kernel_rfl
/-- The error of a text that is no number. -/
theorem toErr_ok (f s : List UInt8) (hs : s.length ≤ 100000) (b k : Int) : Ctr Tryz.prog 202 [.s f, .s s, .i .i64 b, .i .i64 k, .iface 277 (.i .i64 2)] [] (fun r h => (∃ v, r = .iface 279 (.raw v) ∧ cellV v = true) ∧ h = []) := by
  refine ⟨fun C E m w hr ha => ?_⟩
  have hrun : (callFunc 202 (denL E [.s f, .s s, .i .i64 b, .i .i64 k, .iface 277 (.i .i64 2)]).toArray).run Tryz.prog w = .ok (.enter 202 (denL E [.s f, .s s, .i .i64 b, .i .i64 k, .iface 277 (.i .i64 2)]).toArray) w :=
    enters_of Tryz.func202 (by kernel_rfl) rfl _ w
  obtain ⟨tt, v, t, fr, h1⟩ := hr.tabs _ _ syn_tab
  have h1 : w.heap[3]? = some (.cells #[.iface tt v] t fr) := h1
  have hc : w.cell? ⟨3, 0, none⟩ = some (.iface tt v) := by unfold World.cell?; simp only [h1]; rfl
  unfold callX
  rw [hrun]
  refine (AnyPu.strconv_toError_syntax Tryz.TErr ⟨⟨f⟩⟩ ⟨⟨s⟩⟩ b k (.iface tt v) w (by show s.length ≤ 281474976710656; omega) hc (.inr ⟨_, _, rfl⟩)).mono ?_
  rintro e w' ⟨N, rfl, _, _, hw⟩
  refine ⟨_, rfl, .iface 279 (.raw (.pointer (some ⟨N, 0, none⟩))), [], E, m, rfl, ⟨⟨_, rfl, rfl⟩, rfl⟩, ⟨?_, rfl⟩, .refl .., hr.below drKeep_no hw⟩
  simp [Ok, live]
/-- ParseUint's answer. -/
def PuR (x : Option Nat) (r : SV) : Prop :=
  match x with
  | some n => r = .tup [.i .u64 n, .raw .nilIface]
  | none => ∃ v, r = .tup [.i .u64 0, .iface 279 (.raw v)] ∧ cellV v = true
theorem pu_of (b : Nat) (s : List UInt8) (hs : s.length ≤ 100000) (hi : CtrV Tryz.prog 201 [.s s, .i .i64 b, .i .i64 64] (puV (puF b s))) : Ctr Tryz.prog 126 [.s s, .i .i64 b, .i .i64 64] [] (fun r h => PuR (puF b s) r ∧ h = []) := by
  have key : Ctr Tryz.prog 126 [.s s, .i .i64 b, .i .i64 64] [] (fun r h => PuR (puF b s) r ∧ Bnd 0 r) := by
    refine Ctr.enter tabOkF (fn := Tryz.f126) rfl rfl rfl rfl rfl ?_
    cases hx : puF b s with
    | some n =>
      rw [hx] at hi
      refine OpC.callV rfl rfl rfl rfl rfl rfl rfl (fun _ => hi) ?_
      refine ⟨fun h => (by cases h), fun _ => ?_⟩
      exact ⟨rfl, rfl⟩
    | none =>
      rw [hx] at hi
      refine OpC.callV rfl rfl rfl rfl rfl rfl rfl (fun _ => hi) ?_
      refine ⟨fun _ => ?_, fun h => by cases h⟩
      refine OpC.callL rfl rfl rfl rfl [] 0 rfl rfl rfl (toErr_ok [80, 97, 114, 115, 101, 85, 105, 110, 116] s hs b 64) rfl rfl rfl rfl trivial rfl (fun r H' hk => ?_) ?_
      · rw [hk.2]; exact ⟨Nat.le_refl _, Nat.le_refl _⟩
      rintro r H' ⟨⟨v, rfl, hv⟩, rfl⟩
      exact ⟨⟨v, rfl, hv⟩, rfl⟩
  exact key.trim callX_m fun r H1 ⟨h1, h2⟩ => ⟨[], H1, rfl, Nat.zero_le _, trivial, h2, h1, rfl⟩
/-- number's answer. -/
def NumR (x : Option Nat) (r : SV) : Prop :=
  match x with
  | some n => r = .tup [.i .i64 (IntKind.i64.wrap n), .b true]
  | none => ∃ v, r = .tup [.i .i64 v, .b false]
theorem numDs_mem {w : List UInt8} {c : UInt8} (h : c ∈ numDs w) : c ∈ w := by
  unfold numDs at h
  split at h
  · exact List.mem_of_mem_drop h
  · exact h
theorem numDs_len (w : List UInt8) : (numDs w).length ≤ w.length := by
  unfold numDs; split
  · simp
  · exact Nat.le_refl _
theorem pu_any (w : List UInt8) (hn : ∀ c ∈ w, numB (c.toNat : Int) = true) (hl : (numDs w).length ≤ numMost w) : CtrV Tryz.prog 201 [.s (numDs w), .i .i64 (numBase w), .i .i64 64] (puV (puF (numBase w) (numDs w))) := by
  unfold numBase numMost at *
  split at hl
  · rename_i h; simp only [h, if_true]; exact ipu16_ok _ (fun c hc => hn c (numDs_mem hc)) hl
  · rename_i h; simp only [h, if_false]; exact ipu10_ok _ (fun c hc => hn c (numDs_mem hc)) hl
theorem numF_eq {w : List UInt8} (hl : (numDs w).length ≤ numMost w) : numF w = (match puF (numBase w) (numDs w) with | none => none | some n => if n ≤ 9223372036854775808 then some n else none) := by
  unfold numF puF
  rw [if_neg (by omega)]
  split
  · rfl
  · rfl
theorem number_ok (w : List UInt8) (hn : ∀ c ∈ w, numB (c.toNat : Int) = true) (hw : w.length ≤ 10000) : Ctr Tryz.prog 60 [.s w] [] (fun r h => NumR (numF w) r ∧ h = []) := by
  have hnd := numDs_len w
  have hcon : Lib.contains (numDs w) [95] = false := no_mark fun h => by
    have := hn _ (numDs_mem h)
    exact absurd this (by decide)
  have key : Ctr Tryz.prog 60 [.s w] [] (fun r h => NumR (numF w) r ∧ Bnd 0 r) := by
    refine Ctr.enter tabOkF (fn := Tryz.f60) rfl rfl rfl rfl rfl ?_
    refine OpC.callV rfl rfl rfl rfl rfl rfl rfl (fun _ => cutPrefix_ok w [48, 120]) ?_
    cases hx : hexB w with
    | true =>
      have hp : pre w [48, 120] = true := hx
      have hds : cutP w [48, 120] = numDs w := by
        unfold cutP numDs; rw [hp, hx]; simp
      have hb : numBase w = 16 := by unfold numBase; rw [hx]; rfl
      have hm : numMost w = 16 := by unfold numMost; rw [hx]; rfl
      rw [hp, hds]
      refine ⟨fun _ => ?_, fun h => by cases h⟩
      refine OpC.callV rfl rfl rfl rfl rfl rfl rfl (fun _ => sContains_ok (numDs w) [95] (by omega)) ?_
      refine ⟨fun h => ?_, fun h => ?_⟩
      · have h : (decide ((16 : Int) < ((numDs w)).length) || Lib.contains (numDs w) [95]) = true := h
        rw [hcon, Bool.or_false] at h
        have h := of_decide_eq_true h
        have h0 : numF w = none := by unfold numF; rw [if_pos (by rw [hm]; omega)]
        rw [h0]
        exact ⟨⟨0, rfl⟩, rfl⟩
      · have h : (decide ((16 : Int) < ((numDs w)).length) || Lib.contains (numDs w) [95]) = false := h
        rw [hcon, Bool.or_false] at h
        have h := of_decide_eq_false h
        have hl : (numDs w).length ≤ numMost w := by rw [hm]; omega
        have hpu := pu_any w hn hl
        rw [hb] at hpu
        rw [numF_eq hl, hb]
        refine OpC.callL rfl rfl rfl rfl [] 0 rfl rfl rfl (pu_of 16 (numDs w) (by omega) hpu) rfl rfl rfl rfl trivial rfl (fun r H' hk => ?_) ?_
        · rw [hk.2]; exact ⟨Nat.le_refl _, Nat.le_refl _⟩
        rintro r H' ⟨hr, rfl⟩
        cases hx2 : puF 16 (numDs w) with
        | some n =>
          rw [hx2] at hr
          have hr : r = .tup [.i .u64 n, .raw .nilIface] := hr
          subst hr
          refine ⟨?_, rfl⟩
          by_cases h2 : n ≤ 9223372036854775808
          · have e : decide ((n : Int) ≤ 9223372036854775808) = true := decide_eq_true (by omega)
            show NumR (if n ≤ 9223372036854775808 then some n else none) (SV.tup [.i .i64 (IntKind.i64.wrap n), .b (true && decide ((n : Int) ≤ 9223372036854775808))])
            rw [if_pos h2, e]
            rfl
          · have e : decide ((n : Int) ≤ 9223372036854775808) = false := decide_eq_false (by omega)
            show NumR (if n ≤ 9223372036854775808 then some n else none) (SV.tup [.i .i64 (IntKind.i64.wrap n), .b (true && decide ((n : Int) ≤ 9223372036854775808))])
            rw [if_neg h2, e]
            exact ⟨_, rfl⟩
        | none =>
          rw [hx2] at hr
          obtain ⟨v, hr, _⟩ := hr
          subst hr
          exact ⟨⟨_, rfl⟩, rfl⟩
    | false =>
      have hp : pre w [48, 120] = false := hx
      have hds : numDs w = w := by unfold numDs; rw [hx]; rfl
      have hb : numBase w = 10 := by unfold numBase; rw [hx]; rfl
      have hm : numMost w = 19 := by unfold numMost; rw [hx]; rfl
      rw [hp]
      rw [hds] at hcon hnd
      refine ⟨fun h => (by cases h), fun _ => ?_⟩
      refine OpC.callV rfl rfl rfl rfl rfl rfl rfl (fun _ => sContains_ok w [95] (by omega)) ?_
      refine ⟨fun h => ?_, fun h => ?_⟩
      · have h : (decide ((19 : Int) < (w).length) || Lib.contains w [95]) = true := h
        rw [hcon, Bool.or_false] at h
        have h := of_decide_eq_true h
        have h0 : numF w = none := by unfold numF; rw [if_pos (by rw [hm, hds]; omega)]
        rw [h0]
        exact ⟨⟨0, rfl⟩, rfl⟩
      · have h : (decide ((19 : Int) < (w).length) || Lib.contains w [95]) = false := h
        rw [hcon, Bool.or_false] at h
        have h := of_decide_eq_false h
        have hl : (numDs w).length ≤ numMost w := by rw [hm, hds]; omega
        have hpu := pu_any w hn hl
        rw [hb, hds] at hpu
        rw [numF_eq hl, hb, hds]
        refine OpC.callL rfl rfl rfl rfl [] 0 rfl rfl rfl (pu_of 10 w (by omega) hpu) rfl rfl rfl rfl trivial rfl (fun r H' hk => ?_) ?_
        · rw [hk.2]; exact ⟨Nat.le_refl _, Nat.le_refl _⟩
        rintro r H' ⟨hr, rfl⟩
        cases hx2 : puF 10 w with
        | some n =>
          rw [hx2] at hr
          have hr : r = .tup [.i .u64 n, .raw .nilIface] := hr
          subst hr
          refine ⟨?_, rfl⟩
          by_cases h2 : n ≤ 9223372036854775808
          · have e : decide ((n : Int) ≤ 9223372036854775808) = true := decide_eq_true (by omega)
            show NumR (if n ≤ 9223372036854775808 then some n else none) (SV.tup [.i .i64 (IntKind.i64.wrap n), .b (true && decide ((n : Int) ≤ 9223372036854775808))])
            rw [if_pos h2, e]
            rfl
          · have e : decide ((n : Int) ≤ 9223372036854775808) = false := decide_eq_false (by omega)
            show NumR (if n ≤ 9223372036854775808 then some n else none) (SV.tup [.i .i64 (IntKind.i64.wrap n), .b (true && decide ((n : Int) ≤ 9223372036854775808))])
            rw [if_neg h2, e]
            exact ⟨_, rfl⟩
        | none =>
          rw [hx2] at hr
          obtain ⟨v, hr, _⟩ := hr
          subst hr
          exact ⟨⟨_, rfl⟩, rfl⟩
  exact key.trim callX_m fun r H1 ⟨h1, h2⟩ => ⟨[], H1, rfl, Nat.zero_le _, trivial, h2, h1, rfl⟩
end SX
end Go.Proofs.YtlgjjklikbpcoaaGreatDoor

/- Words of a text: the program's Tokens (written by tools/tkd.py). -/
set_option linter.unusedVariables false
set_option maxRecDepth 100000
namespace Go.Proofs.YtlgjjklikbpcoaaGreatDoor
namespace SX
open Go Go.Proofs
theorem tkenc_w (t : Tk) : wdL (tkenc t) = 4 := rfl
def rowK (N : Nat) (ts : List Tk) (ver : Nat) : SB := .mem 28 [.arr N Tk tk0 4 tkenc ts] ver 4
theorem bndTk {M N ver : Nat} {ts : List Tk} : BndB M (rowK N ts ver) := ⟨fun _ => rfl, trivial⟩
theorem mark_all : ∀ n : Fin 256, decide ((0 : Int) ≤ Lib.indexByte marksL (UInt8.ofNat n.val)) = decide (UInt8.ofNat n.val ∈ marksL) := by decide +kernel
theorem mark_ix (c : UInt8) : decide ((0 : Int) ≤ Lib.indexByte marksL ((c.toNat : Int).toNat.toUInt8)) = decide (c ∈ marksL) := by
  have h := mark_all ⟨c.toNat, c.toNat_lt⟩
  have e : UInt8.ofNat c.toNat = c := by simp
  simp only [e] at h
  have e2 : ((c.toNat : Int).toNat.toUInt8) = c := by simp
  rw [e2]; exact h
/-- What Tokens hands back. -/
def TokK (s : List UInt8) (r : SV) (h : List SB) : Prop :=
  (∃ ts ver, tokF s = (ts, 0, 0) ∧ r = .tup [.sl 0 ver 0 ts.length none 0, .i .i64 0, .i .i64 0] ∧ h = [rowK ts.length ts ver]) ∨
  (∃ e p, tokF s = ([], e, p) ∧ e ≠ 0 ∧ r = .tup [.nils, .i .i64 e, .i .i64 p] ∧ h = [])
set_option maxHeartbeats 4000000 in
theorem tokens_ok (s : List UInt8) : Ctr Tryz.prog 20 [.s s] [] (TokK s) := by
  have key : Ctr Tryz.prog 20 [.s s] [] (fun r h => (∃ ts ver Y, tokF s = (ts, 0, 0) ∧ r = .tup [.sl 0 ver 0 ts.length none 0, .i .i64 0, .i .i64 0] ∧ h = rowK ts.length ts ver :: Y) ∨
      (∃ (e : Int) (p : Nat), tokF s = ([], e, (p : Int)) ∧ e ≠ 0 ∧ r = .tup [.nils, .i .i64 e, .i .i64 p])) := by
    refine Ctr.enter tabOkF (fn := Tryz.f20) rfl rfl rfl rfl rfl ?_
    refine ⟨fun h1 => ?_, fun h1 => ?_⟩
    · have h1 : 8192 < s.length := by
        have h1 : decide ((8192 : Int) < s.length) = true := h1
        simp at h1; omega
      exact .inr ⟨2, 0, by unfold tokF; rw [if_pos h1]; rfl, by decide, rfl⟩
    have h1 : s.length ≤ 8192 := by
      have h1 : decide ((8192 : Int) < s.length) = false := h1
      simp at h1; omega
    refine WpC.shift (Shift.row (d := 5) rfl 3 28 [.arr 0 Tk tk0 4 tkenc []] (fun E => rfl) (fun m V => ⟨⟨rfl, rfl, tkenc_w, fun j hj => by omega⟩, trivial⟩)) ?_
    refine WpC.loop tabOkF (β := Nat × Nat × List Tk × Nat × Nat) (fun x => x.1 ≤ s.length ∧ s.length < x.1 + x.2.2.2.2 ∧ tokC s x.2.2.2.2 x.1 x.2.2.1 = tokF s ∧ x.2.1 ≤ x.1 ∧ x.2.2.1.length = x.2.1) (fun x => [(6, .i .i64 x.1), (5, .sl 0 x.2.2.2.1 0 x.2.1 none 0)]) (fun x => [rowK x.2.1 x.2.2.1 x.2.2.2.1]) (fun x => s.length - x.1) (0, 0, [], 0, s.length + 1) 41538374868278621028243970633703420 ⟨Nat.zero_le _, by show s.length < 0 + (s.length + 1); omega, by unfold tokF; rw [if_neg (by omega)], Nat.le_refl _, rfl⟩ ?_ ?_
    · exact ⟨rfl, ⟨⟨rfl, rfl, rfl⟩, ⟨rfl, rfl, rfl⟩, trivial⟩, ⟨[], rfl⟩, ⟨bndTk, trivial⟩, rfl⟩
    · rintro ⟨p, N, ts, ver, f⟩ ⟨hi, hf, hc, hlt, hNt⟩
      simp only at hi hf hc hlt hNt
      refine ⟨fun h2 => ?_, fun h2 => ?_⟩
      · have h2 : p < s.length := by
          have h2 : decide ((p : Int) < s.length) = true := h2
          simpa using h2
        obtain ⟨f', rfl, hstep⟩ := tokC_step (out := ts) h2 hf
        rw [hc] at hstep
        have hX : ((s.take s.length).drop (p : Int).toNat) = s.drop p := by rw [List.take_length]; rfl
        have hXl : ((s.take s.length).drop (p : Int).toNat).length = s.length - p := by rw [hX, List.length_drop]
        have hXne : ((s.take s.length).drop (p : Int).toNat) ≠ [] := fun e => by rw [e] at hXl; simp at hXl; omega
        have hob1 : (0 : Int) ≤ p ∧ (p : Int) ≤ s.length := by omega
        refine ⟨fun _ => hob1, ?_⟩
        have hob2 : (0 : Int) ≤ 0 ∧ (0 : Int) < ((s.take s.length).drop (p : Int).toNat).length := by omega
        refine ⟨fun _ => hob2, ?_⟩
        refine ⟨fun h3 => ?_, fun h3 => ?_⟩
        · have h3 : (decide (cd ((s.take s.length).drop (p : Int).toNat) 0 = 32) || decide (cd ((s.take s.length).drop (p : Int).toNat) 0 = 9) || decide (cd ((s.take s.length).drop (p : Int).toNat) 0 = 10)) = true := h3
          have hst : stepF (s.drop p) p = .skip 1 := by
            unfold stepF
            rw [if_pos (by rw [← hX]; exact h3)]
          rw [hst] at hstep
          have k1 : p + 1 ≤ s.length := by omega
          have k2 : s.length < p + 1 + f' := by omega
          have k3 : N ≤ p + 1 := by omega
          have k4 : s.length - (p + 1) < s.length - p := by omega
          refine ⟨(p + 1, N, ts, ver, f'), ⟨k1, k2, hstep.symm, k3, hNt⟩, k4, rfl, ⟨⟨?_, rfl, rfl⟩, ⟨rfl, rfl, rfl⟩, trivial⟩, ⟨_, rfl⟩, ⟨bndTk, trivial⟩, rfl⟩
          show SV.i .i64 (IntKind.i64.wrap ((p : Int) + 1)) = SV.i .i64 ((p + 1 : Nat) : Int)
          rw [w64 (by omega) (by omega)]; rfl
        have h3 : (decide (cd ((s.take s.length).drop (p : Int).toNat) 0 = 32) || decide (cd ((s.take s.length).drop (p : Int).toNat) 0 = 9) || decide (cd ((s.take s.length).drop (p : Int).toNat) 0 = 10)) = false := h3
        refine OpC.callV rfl rfl rfl rfl rfl rfl rfl (fun _ => hasPrefix_ok ((s.take s.length).drop (p : Int).toNat) [40, 42]) ?_
        refine ⟨fun h4 => ?_, fun h4 => ?_⟩
        · have h4 : pre ((s.take s.length).drop (p : Int).toNat) [40, 42] = true := h4
          have hl2 : 2 ≤ ((s.take s.length).drop (p : Int).toNat).length := pre_len h4
          have hob : (0 : Int) ≤ 2 ∧ (2 : Int) ≤ ((s.take s.length).drop (p : Int).toNat).length := by omega
          refine ⟨fun _ => hob, ?_⟩
          have hY : (((s.take s.length).drop (p : Int).toNat).take ((s.take s.length).drop (p : Int).toNat).length).drop (2 : Int).toNat = (s.drop p).drop 2 := by rw [List.take_length, hX]; rfl
          refine OpC.callV rfl rfl rfl rfl rfl rfl rfl (fun _ => sIndex_ok ((((s.take s.length).drop (p : Int).toNat).take ((s.take s.length).drop (p : Int).toNat).length).drop (2 : Int).toNat) [42, 41] (by rw [hY]; simp; omega)) ?_
          refine ⟨fun h5 => ?_, fun h5 => ?_⟩
          · have h5 : decide (Lib.index ((((s.take s.length).drop (p : Int).toNat).take ((s.take s.length).drop (p : Int).toNat).length).drop (2 : Int).toNat) [42, 41] < 0) = true := h5
            have h5 := of_decide_eq_true h5
            rw [hY] at h5
            have hst : stepF (s.drop p) p = .err 24 := by
              unfold stepF
              rw [if_neg (by rw [← hX, h3]; decide)]
              rw [if_pos (by rw [← hX]; exact h4)]
              rw [if_pos h5]
            rw [hst] at hstep
            exact .inr ⟨24, p, hstep, by decide, rfl⟩
          · have h5 : decide (Lib.index ((((s.take s.length).drop (p : Int).toNat).take ((s.take s.length).drop (p : Int).toNat).length).drop (2 : Int).toNat) [42, 41] < 0) = false := h5
            have h5 := of_decide_eq_false h5
            have hle := Lib.index_le ((((s.take s.length).drop (p : Int).toNat).take ((s.take s.length).drop (p : Int).toNat).length).drop (2 : Int).toNat) [42, 41]
            have hroom := Lib.index_room ((((s.take s.length).drop (p : Int).toNat).take ((s.take s.length).drop (p : Int).toNat).length).drop (2 : Int).toNat) [42, 41] (by omega)
            rw [hY] at h5 hle hroom
            simp only [List.length_drop, List.length_cons, List.length_nil] at hle hroom
            have hst : stepF (s.drop p) p = .skip ((Lib.index ((s.drop p).drop 2) [42, 41]).toNat + 4) := by
              unfold stepF
              rw [if_neg (by rw [← hX, h3]; decide), if_pos (by rw [← hX]; exact h4), if_neg h5]
            rw [hst] at hstep
            have k1 : p + ((Lib.index ((s.drop p).drop 2) [42, 41]).toNat + 4) ≤ s.length := by omega
            have k2 : s.length < p + ((Lib.index ((s.drop p).drop 2) [42, 41]).toNat + 4) + f' := by omega
            have k3 : N ≤ p + ((Lib.index ((s.drop p).drop 2) [42, 41]).toNat + 4) := by omega
            have k4 : s.length - (p + ((Lib.index ((s.drop p).drop 2) [42, 41]).toNat + 4)) < s.length - p := by omega
            refine ⟨(p + ((Lib.index ((s.drop p).drop 2) [42, 41]).toNat + 4), N, ts, ver, f'), ⟨k1, k2, hstep.symm, k3, hNt⟩, k4, rfl, ⟨⟨?_, rfl, rfl⟩, ⟨rfl, rfl, rfl⟩, trivial⟩, ⟨_, rfl⟩, ⟨bndTk, trivial⟩, rfl⟩
            show SV.i .i64 (IntKind.i64.wrap ((p : Int) + IntKind.i64.wrap (Lib.index ((((s.take s.length).drop (p : Int).toNat).take ((s.take s.length).drop (p : Int).toNat).length).drop (2 : Int).toNat) [42, 41] + 4))) = SV.i .i64 ((p + ((Lib.index ((s.drop p).drop 2) [42, 41]).toNat + 4) : Nat) : Int)
            rw [hY, w64 (x := Lib.index ((s.drop p).drop 2) [42, 41] + 4) (by omega) (by omega), w64 (by omega) (by omega)]
            exact i_cg (by omega)
        have h4 : pre ((s.take s.length).drop (p : Int).toNat) [40, 42] = false := h4
        refine OpC.callV rfl rfl rfl rfl rfl rfl rfl (fun _ => digit_ok (cd ((s.take s.length).drop (p : Int).toNat) 0)) ?_
        refine ⟨fun h6 => ?_, fun h6 => ?_⟩
        · have h6 : digB (cd ((s.take s.length).drop (p : Int).toNat) 0) = true := h6
          have hr1 := rowF_le numB ((s.take s.length).drop (p : Int).toNat)
          have hr0 : 0 < rowF numB ((s.take s.length).drop (p : Int).toNat) := rowF_pos hXne (by unfold numB; rw [h6]; simp)
          refine OpC.callV rfl rfl rfl rfl rfl rfl rfl (fun _ => row_ok 58 numB isnum_ok ((s.take s.length).drop (p : Int).toNat) (by omega)) ?_
          have hob : (0 : Int) ≤ (rowF numB ((s.take s.length).drop (p : Int).toNat) : Nat) ∧ ((rowF numB ((s.take s.length).drop (p : Int).toNat) : Nat) : Int) ≤ ((s.take s.length).drop (p : Int).toNat).length := by omega
          refine ⟨fun _ => hob, ?_⟩
          refine OpC.callL rfl rfl rfl rfl [] 0 rfl rfl rfl (number_ok (((s.take s.length).drop (p : Int).toNat).take (rowF numB ((s.take s.length).drop (p : Int).toNat))) (rowF_all numB ((s.take s.length).drop (p : Int).toNat)) (by rw [List.length_take]; omega)) rfl rfl rfl rfl trivial rfl (fun r H' hk => ?_) ?_
          · rw [hk.2]; exact ⟨Nat.le_refl _, Nat.le_refl _⟩
          rintro r H' ⟨hr, rfl⟩
          cases hx : numF (((s.take s.length).drop (p : Int).toNat).take (rowF numB ((s.take s.length).drop (p : Int).toNat))) with
          | none =>
            rw [hx] at hr
            obtain ⟨v, rfl⟩ := hr
            refine ⟨fun _ => ?_, fun h => by cases h⟩
            have hst : stepF (s.drop p) p = .err 23 := by
              unfold stepF
              rw [if_neg (by rw [← hX, h3]; decide)]
              rw [if_neg (by rw [← hX, h4]; decide)]
              rw [if_pos (by rw [← hX]; exact h6)]
              rw [← hX, hx]
            rw [hst] at hstep
            exact .inr ⟨23, p, hstep, by decide, rfl⟩
          | some n =>
            rw [hx] at hr
            have hr : r = .tup [.i .i64 (IntKind.i64.wrap n), .b true] := hr
            subst hr
            refine ⟨fun h => (by cases h), fun _ => ?_⟩
            refine OpC.yld 0 rfl (yld_app_row tabOkF rfl rfl rfl rfl rfl rfl rfl rfl rfl (SrcA.sl rfl rfl rfl rfl (by decide) rfl) (Joins.arrN (y := ⟨2, ((s.take s.length).drop (p : Int).toNat).take (rowF numB ((s.take s.length).drop (p : Int).toNat)), IntKind.i64.wrap n, p⟩) hNt rfl tkenc_w) (by decide) ?_ ?_) (fun d hd => by cases hd; rfl) ?_
            · exact Nat.le_trans (show N + 1 ≤ 10000 by omega) (by decide)
            · show (N + 1) * 40 ≤ 140737488355328
              omega
            have hlen : (⟨2, ((s.take s.length).drop (p : Int).toNat).take (rowF numB ((s.take s.length).drop (p : Int).toNat)), IntKind.i64.wrap n, p⟩ : Tk).s.length ≤ s.length - p := by
              show (List.take _ _).length ≤ _
              rw [List.length_take, hXl]; omega
            have hpos : 0 < (⟨2, ((s.take s.length).drop (p : Int).toNat).take (rowF numB ((s.take s.length).drop (p : Int).toNat)), IntKind.i64.wrap n, p⟩ : Tk).s.length := by
              show 0 < (List.take _ _).length
              rw [List.length_take, hXl]
              omega
            have hst : stepF (s.drop p) p = .tok ⟨2, ((s.take s.length).drop (p : Int).toNat).take (rowF numB ((s.take s.length).drop (p : Int).toNat)), IntKind.i64.wrap n, p⟩ := by
              unfold stepF
              rw [if_neg (by rw [← hX, h3]; decide)]
              rw [if_neg (by rw [← hX, h4]; decide)]
              rw [if_pos (by rw [← hX]; exact h6)]
              rw [← hX, hx]
            rw [hst] at hstep
            have k1 : p + (⟨2, ((s.take s.length).drop (p : Int).toNat).take (rowF numB ((s.take s.length).drop (p : Int).toNat)), IntKind.i64.wrap n, p⟩ : Tk).s.length ≤ s.length := by omega
            have k2 : s.length < p + (⟨2, ((s.take s.length).drop (p : Int).toNat).take (rowF numB ((s.take s.length).drop (p : Int).toNat)), IntKind.i64.wrap n, p⟩ : Tk).s.length + f' := by omega
            have k3 : N + 1 ≤ p + (⟨2, ((s.take s.length).drop (p : Int).toNat).take (rowF numB ((s.take s.length).drop (p : Int).toNat)), IntKind.i64.wrap n, p⟩ : Tk).s.length := by omega
            have k5 : (ts ++ [(⟨2, ((s.take s.length).drop (p : Int).toNat).take (rowF numB ((s.take s.length).drop (p : Int).toNat)), IntKind.i64.wrap n, p⟩ : Tk)]).length = N + 1 := by rw [List.length_append, List.length_singleton]; omega
            have k4 : s.length - (p + (⟨2, ((s.take s.length).drop (p : Int).toNat).take (rowF numB ((s.take s.length).drop (p : Int).toNat)), IntKind.i64.wrap n, p⟩ : Tk).s.length) < s.length - p := by omega
            refine ⟨(p + (⟨2, ((s.take s.length).drop (p : Int).toNat).take (rowF numB ((s.take s.length).drop (p : Int).toNat)), IntKind.i64.wrap n, p⟩ : Tk).s.length, N + 1, ts ++ [⟨2, ((s.take s.length).drop (p : Int).toNat).take (rowF numB ((s.take s.length).drop (p : Int).toNat)), IntKind.i64.wrap n, p⟩], ver + 1, f'), ⟨k1, k2, hstep.symm, k3, k5⟩, k4, rfl, ⟨⟨?_, rfl, rfl⟩, ⟨rfl, rfl, rfl⟩, trivial⟩, ⟨_, rfl⟩, ⟨bndTk, trivial⟩, rfl⟩
            · show SV.i .i64 (IntKind.i64.wrap ((p : Int) + ((⟨2, ((s.take s.length).drop (p : Int).toNat).take (rowF numB ((s.take s.length).drop (p : Int).toNat)), IntKind.i64.wrap n, p⟩ : Tk).s.length : Int))) = SV.i .i64 ((p + (⟨2, ((s.take s.length).drop (p : Int).toNat).take (rowF numB ((s.take s.length).drop (p : Int).toNat)), IntKind.i64.wrap n, p⟩ : Tk).s.length : Nat) : Int)
              rw [w64 (by omega) (by omega)]; rfl
        have h6 : digB (cd ((s.take s.length).drop (p : Int).toNat) 0) = false := h6
        refine OpC.callV rfl rfl rfl rfl rfl rfl rfl (fun _ => letter_ok (cd ((s.take s.length).drop (p : Int).toNat) 0)) ?_
        refine ⟨fun h8 => ?_, fun h8 => ?_⟩
        · have h8 : (letB (cd ((s.take s.length).drop (p : Int).toNat) 0) || decide (cd ((s.take s.length).drop (p : Int).toNat) 0 = 95)) = true := h8
          have hr1 := rowF_le namB ((s.take s.length).drop (p : Int).toNat)
          have hr0 : 0 < rowF namB ((s.take s.length).drop (p : Int).toNat) := rowF_pos hXne (by
            simp only [Bool.or_eq_true] at h8
            unfold namB
            rcases h8 with h8 | h8 <;> rw [h8] <;> simp)
          refine OpC.callV rfl rfl rfl rfl rfl rfl rfl (fun _ => row_ok 61 namB isnam_ok ((s.take s.length).drop (p : Int).toNat) (by omega)) ?_
          have hob : (0 : Int) ≤ (rowF namB ((s.take s.length).drop (p : Int).toNat) : Nat) ∧ ((rowF namB ((s.take s.length).drop (p : Int).toNat) : Nat) : Int) ≤ ((s.take s.length).drop (p : Int).toNat).length := by omega
          refine ⟨fun _ => hob, ?_⟩
          refine OpC.yld 0 rfl (yld_app_row tabOkF rfl rfl rfl rfl rfl rfl rfl rfl rfl (SrcA.sl rfl rfl rfl rfl (by decide) rfl) (Joins.arrN (y := ⟨1, ((s.take s.length).drop (p : Int).toNat).take (rowF namB ((s.take s.length).drop (p : Int).toNat)), 0, p⟩) hNt rfl tkenc_w) (by decide) ?_ ?_) (fun d hd => by cases hd; rfl) ?_
          · exact Nat.le_trans (show N + 1 ≤ 10000 by omega) (by decide)
          · show (N + 1) * 40 ≤ 140737488355328
            omega
          have hlen : (⟨1, ((s.take s.length).drop (p : Int).toNat).take (rowF namB ((s.take s.length).drop (p : Int).toNat)), 0, p⟩ : Tk).s.length ≤ s.length - p := by
            show (List.take _ _).length ≤ _
            rw [List.length_take, hXl]; omega
          have hpos : 0 < (⟨1, ((s.take s.length).drop (p : Int).toNat).take (rowF namB ((s.take s.length).drop (p : Int).toNat)), 0, p⟩ : Tk).s.length := by
            show 0 < (List.take _ _).length
            rw [List.length_take, hXl]
            omega
          have hst : stepF (s.drop p) p = .tok ⟨1, ((s.take s.length).drop (p : Int).toNat).take (rowF namB ((s.take s.length).drop (p : Int).toNat)), 0, p⟩ := by
            unfold stepF
            rw [if_neg (by rw [← hX, h3]; decide)]
            rw [if_neg (by rw [← hX, h4]; decide)]
            rw [if_neg (by rw [← hX, h6]; decide)]
            rw [if_pos (by rw [← hX]; exact h8)]
            rw [← hX]
          rw [hst] at hstep
          have k1 : p + (⟨1, ((s.take s.length).drop (p : Int).toNat).take (rowF namB ((s.take s.length).drop (p : Int).toNat)), 0, p⟩ : Tk).s.length ≤ s.length := by omega
          have k2 : s.length < p + (⟨1, ((s.take s.length).drop (p : Int).toNat).take (rowF namB ((s.take s.length).drop (p : Int).toNat)), 0, p⟩ : Tk).s.length + f' := by omega
          have k3 : N + 1 ≤ p + (⟨1, ((s.take s.length).drop (p : Int).toNat).take (rowF namB ((s.take s.length).drop (p : Int).toNat)), 0, p⟩ : Tk).s.length := by omega
          have k5 : (ts ++ [(⟨1, ((s.take s.length).drop (p : Int).toNat).take (rowF namB ((s.take s.length).drop (p : Int).toNat)), 0, p⟩ : Tk)]).length = N + 1 := by rw [List.length_append, List.length_singleton]; omega
          have k4 : s.length - (p + (⟨1, ((s.take s.length).drop (p : Int).toNat).take (rowF namB ((s.take s.length).drop (p : Int).toNat)), 0, p⟩ : Tk).s.length) < s.length - p := by omega
          refine ⟨(p + (⟨1, ((s.take s.length).drop (p : Int).toNat).take (rowF namB ((s.take s.length).drop (p : Int).toNat)), 0, p⟩ : Tk).s.length, N + 1, ts ++ [⟨1, ((s.take s.length).drop (p : Int).toNat).take (rowF namB ((s.take s.length).drop (p : Int).toNat)), 0, p⟩], ver + 1, f'), ⟨k1, k2, hstep.symm, k3, k5⟩, k4, rfl, ⟨⟨?_, rfl, rfl⟩, ⟨rfl, rfl, rfl⟩, trivial⟩, ⟨_, rfl⟩, ⟨bndTk, trivial⟩, rfl⟩
          · show SV.i .i64 (IntKind.i64.wrap ((p : Int) + ((⟨1, ((s.take s.length).drop (p : Int).toNat).take (rowF namB ((s.take s.length).drop (p : Int).toNat)), 0, p⟩ : Tk).s.length : Int))) = SV.i .i64 ((p + (⟨1, ((s.take s.length).drop (p : Int).toNat).take (rowF namB ((s.take s.length).drop (p : Int).toNat)), 0, p⟩ : Tk).s.length : Nat) : Int)
            rw [w64 (by omega) (by omega)]; rfl
        have h8 : (letB (cd ((s.take s.length).drop (p : Int).toNat) 0) || decide (cd ((s.take s.length).drop (p : Int).toNat) 0 = 95)) = false := h8
        refine OpC.callV rfl rfl rfl rfl rfl rfl rfl (fun _ => hasPrefix_ok ((s.take s.length).drop (p : Int).toNat) [47, 92]) ?_
        refine OpC.callV rfl rfl rfl rfl rfl rfl rfl (fun _ => hasPrefix_ok ((s.take s.length).drop (p : Int).toNat) [92, 47]) ?_
        refine ⟨fun h9 => ?_, fun h9 => ?_⟩
        · have h9 : (pre ((s.take s.length).drop (p : Int).toNat) [47, 92] || pre ((s.take s.length).drop (p : Int).toNat) [92, 47]) = true := h9
          have hl2 : 2 ≤ ((s.take s.length).drop (p : Int).toNat).length := by
            simp only [Bool.or_eq_true] at h9
            rcases h9 with h9 | h9 <;> exact pre_len h9
          have hob : (0 : Int) ≤ 2 ∧ (2 : Int) ≤ ((s.take s.length).drop (p : Int).toNat).length := by omega
          refine WpC.dr tabOkF mixed 0 ?_
          refine ⟨fun _ => hob, ?_⟩
          refine ⟨by kernel_rfl, ?_⟩
          refine OpC.yld 0 rfl (yld_app_row tabOkF rfl rfl rfl rfl rfl rfl rfl rfl rfl (SrcA.sl rfl rfl rfl rfl (by decide) rfl) (Joins.arrN (y := ⟨3, ((s.take s.length).drop (p : Int).toNat).take 2, 0, p⟩) hNt rfl tkenc_w) (by decide) ?_ ?_) (fun d hd => by cases hd; rfl) ?_
          · exact Nat.le_trans (show N + 1 ≤ 10000 by omega) (by decide)
          · show (N + 1) * 40 ≤ 140737488355328
            omega
          have hlen : (⟨3, ((s.take s.length).drop (p : Int).toNat).take 2, 0, p⟩ : Tk).s.length ≤ s.length - p := by
            show (List.take _ _).length ≤ _
            rw [List.length_take, hXl]; omega
          have hpos : 0 < (⟨3, ((s.take s.length).drop (p : Int).toNat).take 2, 0, p⟩ : Tk).s.length := by
            show 0 < (List.take _ _).length
            rw [List.length_take, hXl]
            omega
          have hst : stepF (s.drop p) p = .tok ⟨3, ((s.take s.length).drop (p : Int).toNat).take 2, 0, p⟩ := by
            unfold stepF
            rw [if_neg (by rw [← hX, h3]; decide)]
            rw [if_neg (by rw [← hX, h4]; decide)]
            rw [if_neg (by rw [← hX, h6]; decide)]
            rw [if_neg (by rw [← hX, h8]; decide)]
            rw [if_pos (by rw [← hX]; exact h9)]
            rw [← hX]
          rw [hst] at hstep
          have k1 : p + (⟨3, ((s.take s.length).drop (p : Int).toNat).take 2, 0, p⟩ : Tk).s.length ≤ s.length := by omega
          have k2 : s.length < p + (⟨3, ((s.take s.length).drop (p : Int).toNat).take 2, 0, p⟩ : Tk).s.length + f' := by omega
          have k3 : N + 1 ≤ p + (⟨3, ((s.take s.length).drop (p : Int).toNat).take 2, 0, p⟩ : Tk).s.length := by omega
          have k5 : (ts ++ [(⟨3, ((s.take s.length).drop (p : Int).toNat).take 2, 0, p⟩ : Tk)]).length = N + 1 := by rw [List.length_append, List.length_singleton]; omega
          have k4 : s.length - (p + (⟨3, ((s.take s.length).drop (p : Int).toNat).take 2, 0, p⟩ : Tk).s.length) < s.length - p := by omega
          refine ⟨(p + (⟨3, ((s.take s.length).drop (p : Int).toNat).take 2, 0, p⟩ : Tk).s.length, N + 1, ts ++ [⟨3, ((s.take s.length).drop (p : Int).toNat).take 2, 0, p⟩], ver + 1, f'), ⟨k1, k2, hstep.symm, k3, k5⟩, k4, rfl, ⟨⟨?_, rfl, rfl⟩, ⟨rfl, rfl, rfl⟩, trivial⟩, ⟨_, rfl⟩, ⟨bndTk, trivial⟩, rfl⟩
          · show SV.i .i64 (IntKind.i64.wrap ((p : Int) + ((⟨3, ((s.take s.length).drop (p : Int).toNat).take 2, 0, p⟩ : Tk).s.length : Int))) = SV.i .i64 ((p + (⟨3, ((s.take s.length).drop (p : Int).toNat).take 2, 0, p⟩ : Tk).s.length : Nat) : Int)
            rw [w64 (by omega) (by omega)]; rfl
        have h9 : (pre ((s.take s.length).drop (p : Int).toNat) [47, 92] || pre ((s.take s.length).drop (p : Int).toNat) [92, 47]) = false := h9
        refine OpC.callV rfl rfl rfl rfl rfl rfl rfl (fun _ => sIndexByte_ok marksL (cd ((s.take s.length).drop (p : Int).toNat) 0)) ?_
        have hmk := mark_ix (((s.take s.length).drop (p : Int).toNat).getD 0 0)
        refine ⟨fun h10 => ?_, fun h10 => ?_⟩
        · have h10 : decide ((0 : Int) ≤ Lib.indexByte marksL (cd ((s.take s.length).drop (p : Int).toNat) 0).toNat.toUInt8) = true := h10
          have hk : (s.drop p).getD 0 0 ∈ marksL := by rw [← hX]; exact of_decide_eq_true (hmk.symm.trans h10)
          have hob : (0 : Int) ≤ 1 ∧ (1 : Int) ≤ ((s.take s.length).drop (p : Int).toNat).length := by omega
          refine WpC.dr tabOkF mixed 0 ?_
          refine ⟨fun _ => hob, ?_⟩
          refine ⟨by kernel_rfl, ?_⟩
          refine OpC.yld 0 rfl (yld_app_row tabOkF rfl rfl rfl rfl rfl rfl rfl rfl rfl (SrcA.sl rfl rfl rfl rfl (by decide) rfl) (Joins.arrN (y := ⟨3, ((s.take s.length).drop (p : Int).toNat).take 1, 0, p⟩) hNt rfl tkenc_w) (by decide) ?_ ?_) (fun d hd => by cases hd; rfl) ?_
          · exact Nat.le_trans (show N + 1 ≤ 10000 by omega) (by decide)
          · show (N + 1) * 40 ≤ 140737488355328
            omega
          have hlen : (⟨3, ((s.take s.length).drop (p : Int).toNat).take 1, 0, p⟩ : Tk).s.length ≤ s.length - p := by
            show (List.take _ _).length ≤ _
            rw [List.length_take, hXl]; omega
          have hpos : 0 < (⟨3, ((s.take s.length).drop (p : Int).toNat).take 1, 0, p⟩ : Tk).s.length := by
            show 0 < (List.take _ _).length
            rw [List.length_take, hXl]
            omega
          have hst : stepF (s.drop p) p = .tok ⟨3, ((s.take s.length).drop (p : Int).toNat).take 1, 0, p⟩ := by
            unfold stepF
            rw [if_neg (by rw [← hX, h3]; decide)]
            rw [if_neg (by rw [← hX, h4]; decide)]
            rw [if_neg (by rw [← hX, h6]; decide)]
            rw [if_neg (by rw [← hX, h8]; decide)]
            rw [if_neg (by rw [← hX, h9]; decide)]
            rw [if_pos hk]
            rw [← hX]
          rw [hst] at hstep
          have k1 : p + (⟨3, ((s.take s.length).drop (p : Int).toNat).take 1, 0, p⟩ : Tk).s.length ≤ s.length := by omega
          have k2 : s.length < p + (⟨3, ((s.take s.length).drop (p : Int).toNat).take 1, 0, p⟩ : Tk).s.length + f' := by omega
          have k3 : N + 1 ≤ p + (⟨3, ((s.take s.length).drop (p : Int).toNat).take 1, 0, p⟩ : Tk).s.length := by omega
          have k5 : (ts ++ [(⟨3, ((s.take s.length).drop (p : Int).toNat).take 1, 0, p⟩ : Tk)]).length = N + 1 := by rw [List.length_append, List.length_singleton]; omega
          have k4 : s.length - (p + (⟨3, ((s.take s.length).drop (p : Int).toNat).take 1, 0, p⟩ : Tk).s.length) < s.length - p := by omega
          refine ⟨(p + (⟨3, ((s.take s.length).drop (p : Int).toNat).take 1, 0, p⟩ : Tk).s.length, N + 1, ts ++ [⟨3, ((s.take s.length).drop (p : Int).toNat).take 1, 0, p⟩], ver + 1, f'), ⟨k1, k2, hstep.symm, k3, k5⟩, k4, rfl, ⟨⟨?_, rfl, rfl⟩, ⟨rfl, rfl, rfl⟩, trivial⟩, ⟨_, rfl⟩, ⟨bndTk, trivial⟩, rfl⟩
          · show SV.i .i64 (IntKind.i64.wrap ((p : Int) + ((⟨3, ((s.take s.length).drop (p : Int).toNat).take 1, 0, p⟩ : Tk).s.length : Int))) = SV.i .i64 ((p + (⟨3, ((s.take s.length).drop (p : Int).toNat).take 1, 0, p⟩ : Tk).s.length : Nat) : Int)
            rw [w64 (by omega) (by omega)]; rfl
        · have h10 : decide ((0 : Int) ≤ Lib.indexByte marksL (cd ((s.take s.length).drop (p : Int).toNat) 0).toNat.toUInt8) = false := h10
          have hk : ¬ (s.drop p).getD 0 0 ∈ marksL := by rw [← hX]; exact of_decide_eq_false (hmk.symm.trans h10)
          have hst : stepF (s.drop p) p = .err 20 := by
            unfold stepF
            rw [if_neg (by rw [← hX, h3]; decide)]
            rw [if_neg (by rw [← hX, h4]; decide)]
            rw [if_neg (by rw [← hX, h6]; decide)]
            rw [if_neg (by rw [← hX, h8]; decide)]
            rw [if_neg (by rw [← hX, h9]; decide)]
            rw [if_neg hk]

          rw [hst] at hstep
          exact .inr ⟨20, p, hstep, by decide, rfl⟩
      · have h2 : p = s.length := by
          have h2 : decide ((p : Int) < s.length) = false := h2
          simp at h2; omega
        rw [tokC_end (by omega)] at hc
        subst hNt
        exact .inl ⟨ts, ver, _, hc.symm, rfl, rfl⟩
  exact key.trim callX_m fun r H1 hk => by
    rcases hk with ⟨ts, ver, Y, h1, h2, h3⟩ | ⟨e, p, h1, h2, h3⟩
    · exact ⟨[rowK ts.length ts ver], Y, h3, Nat.zero_le _, ⟨bndTk, trivial⟩, by rw [h2]; rfl, .inl ⟨ts, ver, h1, h2, rfl⟩⟩
    · exact ⟨[], H1, rfl, Nat.zero_le _, trivial, by rw [h3]; rfl, .inr ⟨e, p, h1, h2, h3, rfl⟩⟩
end SX
end Go.Proofs.YtlgjjklikbpcoaaGreatDoor

/- Which instructions are well formed: the program's answer. Printed by uib.py. -/
set_option linter.unusedVariables false
set_option maxRecDepth 100000
namespace Go.Proofs.YtlgjjklikbpcoaaGreatDoor
namespace SX
open Go Go.Proofs
def eqI (x y : In) : Bool := (decide (x.op = y.op) && (decide (x.dst = y.dst) && (decide (x.a = y.a) && (decide (x.b = y.b) && (decide (x.imm = y.imm) && (decide (x.loc = y.loc) && (decide (x.off = y.off) && (decide (x.ix = y.ix) && (decide (x.sz = y.sz) && (decide (x.fn = y.fn) && ((x.acq == y.acq) && ((x.wk == y.wk) && ((x.rel == y.rel) && (decide (x.pr = y.pr) && (decide (x.su = y.su) && (decide (x.to = y.to) && (x.ze == y.ze)))))))))))))))))
theorem no_tf {P : Prop} (h : true = false) : P := nomatch h
theorem no_ft {P : Prop} (h : false = true) : P := nomatch h
theorem ufence_ok (n : Int) : CtrV Tryz.prog 272 [.i .i64 n] (.b (fnB n)) := by
  refine Ctr.enterV tabOkF (fn := Tryz.f272) rfl rfl rfl rfl rfl rfl ?_
  exact rfl
theorem formed_1 (dst a b imm loc off ix sz fn pr su to : Int) (acq wk rel ze : Bool)  : CtrV Tryz.prog 217 [.agg (ienc ⟨1, dst, a, b, imm, loc, off, ix, sz, fn, acq, wk, rel, pr, su, to, ze⟩)] (.b (rgB dst && eqI ⟨1, dst, (-1), (-1), imm, 0, 0, (-1), 0, 0, false, false, false, 0, 0, 0, false⟩ ⟨1, dst, a, b, imm, loc, off, ix, sz, fn, acq, wk, rel, pr, su, to, ze⟩)) := by
  refine Ctr.enterV tabOkF (fn := Tryz.f217) rfl rfl rfl rfl rfl rfl ?_
  refine ⟨fun _ => ?_, fun h => no_tf h⟩
  refine WpC.dr tabOkF mixed 0 ⟨by kernel_rfl, ?_⟩
  refine OpC.callV rfl rfl rfl rfl rfl rfl rfl (fun _ => register_ok dst) ?_
  refine OpC.callV rfl rfl rfl rfl rfl rfl rfl (fun _ => reads_ok ⟨1, dst, a, b, imm, loc, off, ix, sz, fn, acq, wk, rel, pr, su, to, ze⟩) ?_
  refine OpC.callV rfl rfl rfl rfl rfl rfl rfl (fun _ => writes_ok ⟨1, dst, a, b, imm, loc, off, ix, sz, fn, acq, wk, rel, pr, su, to, ze⟩) ?_
  refine ⟨fun h => no_ft h, fun _ => ?_⟩
  exact rfl
theorem formed_2 (dst a b imm loc off ix sz fn pr su to : Int) (acq wk rel ze : Bool)  : CtrV Tryz.prog 217 [.agg (ienc ⟨2, dst, a, b, imm, loc, off, ix, sz, fn, acq, wk, rel, pr, su, to, ze⟩)] (.b ((rgB dst && rgB a) && eqI ⟨2, dst, a, (-1), 0, 0, 0, (-1), 0, 0, false, false, false, 0, 0, 0, false⟩ ⟨2, dst, a, b, imm, loc, off, ix, sz, fn, acq, wk, rel, pr, su, to, ze⟩)) := by
  refine Ctr.enterV tabOkF (fn := Tryz.f217) rfl rfl rfl rfl rfl rfl ?_
  refine ⟨fun h => no_ft h, fun _ => ?_⟩
  refine ⟨fun _ => ?_, fun h => no_tf h⟩
  refine WpC.dr tabOkF mixed 0 ⟨by kernel_rfl, ?_⟩
  refine OpC.callV rfl rfl rfl rfl rfl rfl rfl (fun _ => register_ok dst) ?_
  refine OpC.callV rfl rfl rfl rfl rfl rfl rfl (fun _ => register_ok a) ?_
  refine OpC.callV rfl rfl rfl rfl rfl rfl rfl (fun _ => reads_ok ⟨2, dst, a, b, imm, loc, off, ix, sz, fn, acq, wk, rel, pr, su, to, ze⟩) ?_
  refine OpC.callV rfl rfl rfl rfl rfl rfl rfl (fun _ => writes_ok ⟨2, dst, a, b, imm, loc, off, ix, sz, fn, acq, wk, rel, pr, su, to, ze⟩) ?_
  refine ⟨fun h => no_ft h, fun _ => ?_⟩
  exact rfl
theorem formed_3i (dst a b imm loc off ix sz fn pr su to : Int) (acq wk rel ze : Bool) (hb : b = -1) : CtrV Tryz.prog 217 [.agg (ienc ⟨3, dst, a, b, imm, loc, off, ix, sz, fn, acq, wk, rel, pr, su, to, ze⟩)] (.b ((((rgB dst && rgB a) && decide (1 ≤ fn)) && decide (fn ≤ 5)) && eqI ⟨3, dst, a, b, imm, 0, 0, (-1), 0, fn, false, false, false, 0, 0, 0, false⟩ ⟨3, dst, a, b, imm, loc, off, ix, sz, fn, acq, wk, rel, pr, su, to, ze⟩)) := by
  refine Ctr.enterV tabOkF (fn := Tryz.f217) rfl rfl rfl rfl rfl rfl ?_
  refine ⟨fun h => no_ft h, fun _ => ?_⟩
  refine ⟨fun h => no_ft h, fun _ => ?_⟩
  refine ⟨fun _ => ?_, fun h => no_tf h⟩
  refine WpC.dr tabOkF mixed 0 ⟨by kernel_rfl, ?_⟩
  refine OpC.callV rfl rfl rfl rfl rfl rfl rfl (fun _ => register_ok dst) ?_
  refine OpC.callV rfl rfl rfl rfl rfl rfl rfl (fun _ => register_ok a) ?_
  refine ⟨fun _ => ?_, fun h => absurd hb (of_decide_eq_false h)⟩
  refine OpC.callV rfl rfl rfl rfl rfl rfl rfl (fun _ => reads_ok ⟨3, dst, a, b, imm, loc, off, ix, sz, fn, acq, wk, rel, pr, su, to, ze⟩) ?_
  refine OpC.callV rfl rfl rfl rfl rfl rfl rfl (fun _ => writes_ok ⟨3, dst, a, b, imm, loc, off, ix, sz, fn, acq, wk, rel, pr, su, to, ze⟩) ?_
  refine ⟨fun h => no_ft h, fun _ => ?_⟩
  exact rfl
theorem formed_3r (dst a b imm loc off ix sz fn pr su to : Int) (acq wk rel ze : Bool) (hb : ¬ b = -1) : CtrV Tryz.prog 217 [.agg (ienc ⟨3, dst, a, b, imm, loc, off, ix, sz, fn, acq, wk, rel, pr, su, to, ze⟩)] (.b (((((rgB dst && rgB a) && decide (1 ≤ fn)) && decide (fn ≤ 5)) && rgB b) && eqI ⟨3, dst, a, b, 0, 0, 0, (-1), 0, fn, false, false, false, 0, 0, 0, false⟩ ⟨3, dst, a, b, imm, loc, off, ix, sz, fn, acq, wk, rel, pr, su, to, ze⟩)) := by
  refine Ctr.enterV tabOkF (fn := Tryz.f217) rfl rfl rfl rfl rfl rfl ?_
  refine ⟨fun h => no_ft h, fun _ => ?_⟩
  refine ⟨fun h => no_ft h, fun _ => ?_⟩
  refine ⟨fun _ => ?_, fun h => no_tf h⟩
  refine WpC.dr tabOkF mixed 0 ⟨by kernel_rfl, ?_⟩
  refine OpC.callV rfl rfl rfl rfl rfl rfl rfl (fun _ => register_ok dst) ?_
  refine OpC.callV rfl rfl rfl rfl rfl rfl rfl (fun _ => register_ok a) ?_
  refine ⟨fun h => absurd (of_decide_eq_true h) hb, fun _ => ?_⟩
  refine OpC.callV rfl rfl rfl rfl rfl rfl rfl (fun _ => register_ok b) ?_
  refine OpC.callV rfl rfl rfl rfl rfl rfl rfl (fun _ => reads_ok ⟨3, dst, a, b, imm, loc, off, ix, sz, fn, acq, wk, rel, pr, su, to, ze⟩) ?_
  refine OpC.callV rfl rfl rfl rfl rfl rfl rfl (fun _ => writes_ok ⟨3, dst, a, b, imm, loc, off, ix, sz, fn, acq, wk, rel, pr, su, to, ze⟩) ?_
  refine ⟨fun h => no_ft h, fun _ => ?_⟩
  exact rfl
theorem formed_4 (dst a b imm loc off ix sz fn pr su to : Int) (acq wk rel ze : Bool)  : CtrV Tryz.prog 217 [.agg (ienc ⟨4, dst, a, b, imm, loc, off, ix, sz, fn, acq, wk, rel, pr, su, to, ze⟩)] (.b (((rgB dst && accB ⟨4, dst, a, b, imm, loc, off, ix, sz, fn, acq, wk, rel, pr, su, to, ze⟩) && !(acq && wk)) && eqI ⟨4, dst, (-1), (-1), 0, loc, off, ix, sz, 0, acq, wk, false, 0, 0, 0, false⟩ ⟨4, dst, a, b, imm, loc, off, ix, sz, fn, acq, wk, rel, pr, su, to, ze⟩)) := by
  refine Ctr.enterV tabOkF (fn := Tryz.f217) rfl rfl rfl rfl rfl rfl ?_
  refine ⟨fun h => no_ft h, fun _ => ?_⟩
  refine ⟨fun h => no_ft h, fun _ => ?_⟩
  refine ⟨fun h => no_ft h, fun _ => ?_⟩
  refine ⟨fun _ => ?_, fun h => no_tf h⟩
  refine WpC.dr tabOkF mixed 0 ⟨by kernel_rfl, ?_⟩
  refine OpC.callV rfl rfl rfl rfl rfl rfl rfl (fun _ => register_ok dst) ?_
  refine OpC.callV rfl rfl rfl rfl rfl rfl rfl (fun _ => access_ok ⟨4, dst, a, b, imm, loc, off, ix, sz, fn, acq, wk, rel, pr, su, to, ze⟩) ?_
  refine OpC.callV rfl rfl rfl rfl rfl rfl rfl (fun _ => reads_ok ⟨4, dst, a, b, imm, loc, off, ix, sz, fn, acq, wk, rel, pr, su, to, ze⟩) ?_
  refine OpC.callV rfl rfl rfl rfl rfl rfl rfl (fun _ => writes_ok ⟨4, dst, a, b, imm, loc, off, ix, sz, fn, acq, wk, rel, pr, su, to, ze⟩) ?_
  refine ⟨fun _ => ?_, fun h => no_tf h⟩
  refine WpC.dr tabOkF mixed 0 ⟨by kernel_rfl, ?_⟩
  exact rfl
theorem formed_5i (dst a b imm loc off ix sz fn pr su to : Int) (acq wk rel ze : Bool) (hb : a = -1) : CtrV Tryz.prog 217 [.agg (ienc ⟨5, dst, a, b, imm, loc, off, ix, sz, fn, acq, wk, rel, pr, su, to, ze⟩)] (.b (accB ⟨5, dst, a, b, imm, loc, off, ix, sz, fn, acq, wk, rel, pr, su, to, ze⟩ && eqI ⟨5, (-1), a, (-1), imm, loc, off, ix, sz, 0, false, false, rel, 0, 0, 0, false⟩ ⟨5, dst, a, b, imm, loc, off, ix, sz, fn, acq, wk, rel, pr, su, to, ze⟩)) := by
  refine Ctr.enterV tabOkF (fn := Tryz.f217) rfl rfl rfl rfl rfl rfl ?_
  refine ⟨fun h => no_ft h, fun _ => ?_⟩
  refine ⟨fun h => no_ft h, fun _ => ?_⟩
  refine ⟨fun h => no_ft h, fun _ => ?_⟩
  refine ⟨fun h => no_ft h, fun _ => ?_⟩
  refine ⟨fun _ => ?_, fun h => no_tf h⟩
  refine WpC.dr tabOkF mixed 0 ⟨by kernel_rfl, ?_⟩
  refine OpC.callV rfl rfl rfl rfl rfl rfl rfl (fun _ => access_ok ⟨5, dst, a, b, imm, loc, off, ix, sz, fn, acq, wk, rel, pr, su, to, ze⟩) ?_
  refine ⟨fun _ => ?_, fun h => absurd hb (of_decide_eq_false h)⟩
  refine OpC.callV rfl rfl rfl rfl rfl rfl rfl (fun _ => reads_ok ⟨5, dst, a, b, imm, loc, off, ix, sz, fn, acq, wk, rel, pr, su, to, ze⟩) ?_
  refine OpC.callV rfl rfl rfl rfl rfl rfl rfl (fun _ => writes_ok ⟨5, dst, a, b, imm, loc, off, ix, sz, fn, acq, wk, rel, pr, su, to, ze⟩) ?_
  refine ⟨fun _ => ?_, fun h => no_tf h⟩
  refine WpC.dr tabOkF mixed 0 ⟨by kernel_rfl, ?_⟩
  exact rfl
theorem formed_5r (dst a b imm loc off ix sz fn pr su to : Int) (acq wk rel ze : Bool) (hb : ¬ a = -1) : CtrV Tryz.prog 217 [.agg (ienc ⟨5, dst, a, b, imm, loc, off, ix, sz, fn, acq, wk, rel, pr, su, to, ze⟩)] (.b ((accB ⟨5, dst, a, b, imm, loc, off, ix, sz, fn, acq, wk, rel, pr, su, to, ze⟩ && rgB a) && eqI ⟨5, (-1), a, (-1), 0, loc, off, ix, sz, 0, false, false, rel, 0, 0, 0, false⟩ ⟨5, dst, a, b, imm, loc, off, ix, sz, fn, acq, wk, rel, pr, su, to, ze⟩)) := by
  refine Ctr.enterV tabOkF (fn := Tryz.f217) rfl rfl rfl rfl rfl rfl ?_
  refine ⟨fun h => no_ft h, fun _ => ?_⟩
  refine ⟨fun h => no_ft h, fun _ => ?_⟩
  refine ⟨fun h => no_ft h, fun _ => ?_⟩
  refine ⟨fun h => no_ft h, fun _ => ?_⟩
  refine ⟨fun _ => ?_, fun h => no_tf h⟩
  refine WpC.dr tabOkF mixed 0 ⟨by kernel_rfl, ?_⟩
  refine OpC.callV rfl rfl rfl rfl rfl rfl rfl (fun _ => access_ok ⟨5, dst, a, b, imm, loc, off, ix, sz, fn, acq, wk, rel, pr, su, to, ze⟩) ?_
  refine ⟨fun h => absurd (of_decide_eq_true h) hb, fun _ => ?_⟩
  refine OpC.callV rfl rfl rfl rfl rfl rfl rfl (fun _ => register_ok a) ?_
  refine OpC.callV rfl rfl rfl rfl rfl rfl rfl (fun _ => reads_ok ⟨5, dst, a, b, imm, loc, off, ix, sz, fn, acq, wk, rel, pr, su, to, ze⟩) ?_
  refine OpC.callV rfl rfl rfl rfl rfl rfl rfl (fun _ => writes_ok ⟨5, dst, a, b, imm, loc, off, ix, sz, fn, acq, wk, rel, pr, su, to, ze⟩) ?_
  refine ⟨fun _ => ?_, fun h => no_tf h⟩
  refine WpC.dr tabOkF mixed 0 ⟨by kernel_rfl, ?_⟩
  exact rfl
set_option maxHeartbeats 2000000 in
theorem formed_6 (dst a b imm loc off ix sz fn pr su to : Int) (acq wk rel ze : Bool)  : CtrV Tryz.prog 217 [.agg (ienc ⟨6, dst, a, b, imm, loc, off, ix, sz, fn, acq, wk, rel, pr, su, to, ze⟩)] (.b ((((rgB dst && rgB a) && accB ⟨6, dst, a, b, imm, loc, off, ix, sz, fn, acq, wk, rel, pr, su, to, ze⟩) && (decide (fn = 6) || decide (fn = 1))) && eqI ⟨6, dst, a, (-1), 0, loc, off, ix, sz, fn, acq, false, rel, 0, 0, 0, false⟩ ⟨6, dst, a, b, imm, loc, off, ix, sz, fn, acq, wk, rel, pr, su, to, ze⟩)) := by
  refine Ctr.enterV tabOkF (fn := Tryz.f217) rfl rfl rfl rfl rfl rfl ?_
  refine ⟨fun h => no_ft h, fun _ => ?_⟩
  refine ⟨fun h => no_ft h, fun _ => ?_⟩
  refine ⟨fun h => no_ft h, fun _ => ?_⟩
  refine ⟨fun h => no_ft h, fun _ => ?_⟩
  refine ⟨fun h => no_ft h, fun _ => ?_⟩
  refine ⟨fun _ => ?_, fun h => no_tf h⟩
  refine WpC.dr tabOkF mixed 0 ⟨by kernel_rfl, ?_⟩
  refine OpC.callV rfl rfl rfl rfl rfl rfl rfl (fun _ => register_ok dst) ?_
  refine OpC.callV rfl rfl rfl rfl rfl rfl rfl (fun _ => register_ok a) ?_
  refine OpC.callV rfl rfl rfl rfl rfl rfl rfl (fun _ => access_ok ⟨6, dst, a, b, imm, loc, off, ix, sz, fn, acq, wk, rel, pr, su, to, ze⟩) ?_
  refine OpC.callV rfl rfl rfl rfl rfl rfl rfl (fun _ => reads_ok ⟨6, dst, a, b, imm, loc, off, ix, sz, fn, acq, wk, rel, pr, su, to, ze⟩) ?_
  refine OpC.callV rfl rfl rfl rfl rfl rfl rfl (fun _ => writes_ok ⟨6, dst, a, b, imm, loc, off, ix, sz, fn, acq, wk, rel, pr, su, to, ze⟩) ?_
  refine ⟨fun _ => ?_, fun h => no_tf h⟩
  refine WpC.dr tabOkF mixed 0 ⟨by kernel_rfl, ?_⟩
  exact rfl
theorem formed_7 (dst a b imm loc off ix sz fn pr su to : Int) (acq wk rel ze : Bool)  : CtrV Tryz.prog 217 [.agg (ienc ⟨7, dst, a, b, imm, loc, off, ix, sz, fn, acq, wk, rel, pr, su, to, ze⟩)] (.b ((fnB pr && fnB su) && eqI ⟨7, (-1), (-1), (-1), 0, 0, 0, (-1), 0, 0, false, false, false, pr, su, 0, false⟩ ⟨7, dst, a, b, imm, loc, off, ix, sz, fn, acq, wk, rel, pr, su, to, ze⟩)) := by
  refine Ctr.enterV tabOkF (fn := Tryz.f217) rfl rfl rfl rfl rfl rfl ?_
  refine ⟨fun h => no_ft h, fun _ => ?_⟩
  refine ⟨fun h => no_ft h, fun _ => ?_⟩
  refine ⟨fun h => no_ft h, fun _ => ?_⟩
  refine ⟨fun h => no_ft h, fun _ => ?_⟩
  refine ⟨fun h => no_ft h, fun _ => ?_⟩
  refine ⟨fun h => no_ft h, fun _ => ?_⟩
  refine ⟨fun _ => ?_, fun h => no_tf h⟩
  refine WpC.dr tabOkF mixed 0 ⟨by kernel_rfl, ?_⟩
  refine OpC.callV rfl rfl rfl rfl rfl rfl rfl (fun _ => ufence_ok pr) ?_
  refine OpC.callV rfl rfl rfl rfl rfl rfl rfl (fun _ => ufence_ok su) ?_
  refine OpC.callV rfl rfl rfl rfl rfl rfl rfl (fun _ => reads_ok ⟨7, dst, a, b, imm, loc, off, ix, sz, fn, acq, wk, rel, pr, su, to, ze⟩) ?_
  refine OpC.callV rfl rfl rfl rfl rfl rfl rfl (fun _ => writes_ok ⟨7, dst, a, b, imm, loc, off, ix, sz, fn, acq, wk, rel, pr, su, to, ze⟩) ?_
  refine ⟨fun h => no_ft h, fun _ => ?_⟩
  exact rfl
theorem formed_8 (dst a b imm loc off ix sz fn pr su to : Int) (acq wk rel ze : Bool)  : CtrV Tryz.prog 217 [.agg (ienc ⟨8, dst, a, b, imm, loc, off, ix, sz, fn, acq, wk, rel, pr, su, to, ze⟩)] (.b (true && eqI ⟨8, (-1), (-1), (-1), 0, 0, 0, (-1), 0, 0, false, false, false, 0, 0, 0, false⟩ ⟨8, dst, a, b, imm, loc, off, ix, sz, fn, acq, wk, rel, pr, su, to, ze⟩)) := by
  refine Ctr.enterV tabOkF (fn := Tryz.f217) rfl rfl rfl rfl rfl rfl ?_
  refine ⟨fun h => no_ft h, fun _ => ?_⟩
  refine ⟨fun h => no_ft h, fun _ => ?_⟩
  refine ⟨fun h => no_ft h, fun _ => ?_⟩
  refine ⟨fun h => no_ft h, fun _ => ?_⟩
  refine ⟨fun h => no_ft h, fun _ => ?_⟩
  refine ⟨fun h => no_ft h, fun _ => ?_⟩
  refine ⟨fun h => no_ft h, fun _ => ?_⟩
  refine ⟨fun _ => ?_, fun h => no_tf h⟩
  refine OpC.callV rfl rfl rfl rfl rfl rfl rfl (fun _ => reads_ok ⟨8, dst, a, b, imm, loc, off, ix, sz, fn, acq, wk, rel, pr, su, to, ze⟩) ?_
  refine OpC.callV rfl rfl rfl rfl rfl rfl rfl (fun _ => writes_ok ⟨8, dst, a, b, imm, loc, off, ix, sz, fn, acq, wk, rel, pr, su, to, ze⟩) ?_
  refine ⟨fun h => no_ft h, fun _ => ?_⟩
  exact rfl
theorem formed_9 (dst a b imm loc off ix sz fn pr su to : Int) (acq wk rel ze : Bool)  : CtrV Tryz.prog 217 [.agg (ienc ⟨9, dst, a, b, imm, loc, off, ix, sz, fn, acq, wk, rel, pr, su, to, ze⟩)] (.b (rgB a && eqI ⟨9, (-1), a, (-1), 0, 0, 0, (-1), 0, 0, false, false, false, 0, 0, to, ze⟩ ⟨9, dst, a, b, imm, loc, off, ix, sz, fn, acq, wk, rel, pr, su, to, ze⟩)) := by
  refine Ctr.enterV tabOkF (fn := Tryz.f217) rfl rfl rfl rfl rfl rfl ?_
  refine ⟨fun h => no_ft h, fun _ => ?_⟩
  refine ⟨fun h => no_ft h, fun _ => ?_⟩
  refine ⟨fun h => no_ft h, fun _ => ?_⟩
  refine ⟨fun h => no_ft h, fun _ => ?_⟩
  refine ⟨fun h => no_ft h, fun _ => ?_⟩
  refine ⟨fun h => no_ft h, fun _ => ?_⟩
  refine ⟨fun h => no_ft h, fun _ => ?_⟩
  refine ⟨fun h => no_ft h, fun _ => ?_⟩
  refine ⟨fun _ => ?_, fun h => no_tf h⟩
  refine WpC.dr tabOkF mixed 0 ⟨by kernel_rfl, ?_⟩
  refine OpC.callV rfl rfl rfl rfl rfl rfl rfl (fun _ => register_ok a) ?_
  refine OpC.callV rfl rfl rfl rfl rfl rfl rfl (fun _ => reads_ok ⟨9, dst, a, b, imm, loc, off, ix, sz, fn, acq, wk, rel, pr, su, to, ze⟩) ?_
  refine OpC.callV rfl rfl rfl rfl rfl rfl rfl (fun _ => writes_ok ⟨9, dst, a, b, imm, loc, off, ix, sz, fn, acq, wk, rel, pr, su, to, ze⟩) ?_
  refine ⟨fun h => no_ft h, fun _ => ?_⟩
  exact rfl
end SX
end Go.Proofs.YtlgjjklikbpcoaaGreatDoor

/- Words of a text: the reference's Tokens (written by tools/rkf.py). -/
set_option linter.unusedVariables false
set_option maxRecDepth 100000
namespace Go.Proofs.YtlgjjklikbpcoaaGreatDoor
namespace SX
open Go Go.Proofs
theorem gB_1 {a b : Bool} (h : ((a == true) && b) = true) : a = true := by cases a <;> simp_all
theorem gB_2 {a b c : Bool} (h : (((a == true) && b) && c) = true) : a = true := by cases a <;> simp_all
theorem pre2_at (s : List UInt8) (k : Nat) (a b : UInt8) (ha : (a.toNat : Int) ≠ 0) (hb : (b.toNat : Int) ≠ 0) : pre (s.drop k) [a, b] = (decide (cd s k = (a.toNat : Int)) && decide (cd s (k + 1) = (b.toNat : Int))) := by
  have := cd_drop s k 0
  have h1 := cd_drop s k 1
  rw [Nat.add_zero] at this
  rw [← this, ← h1]
  unfold pre cd
  have e : ∀ x y : UInt8, ((x.toNat : Int) = (y.toNat : Int)) ↔ x = y := fun x y => ⟨fun h => UInt8.toNat_inj.1 (by omega), fun h => by rw [h]⟩
  match s.drop k with
  | [] => simp; intro h; exact absurd h.symm ha
  | [x] => simp; intro _ h; exact absurd h.symm hb
  | x :: y :: r =>
    rw [Bool.eq_iff_iff]
    simp only [List.length_cons, List.length_nil, List.take_succ_cons, List.take_zero, List.drop_zero, Bool.and_eq_true, decide_eq_true_eq, List.cons.injEq, and_true, List.getD_cons_zero, List.getD_cons_succ, e]
    constructor
    · rintro ⟨_, h⟩; exact h
    · intro h; exact ⟨by omega, h⟩
theorem pre_two {s : List UInt8} {k : Nat} (hk : k < s.length) (e1 : IntKind.i64.wrap ((k : Int) + 1) = ((k + 1 : Nat) : Int)) :
    (decide (IntKind.i64.wrap ((k : Int) + 1) < (s.length : Int)) && ((decide (cd s k = 47) && decide (cd s (IntKind.i64.wrap ((k : Int) + 1)).toNat = 92)) || (decide (cd s k = 92) && decide (cd s (IntKind.i64.wrap ((k : Int) + 1)).toNat = 47)))) = (pre (s.drop k) [47, 92] || pre (s.drop k) [92, 47]) := by
  rw [e1, pre2_at s k 47 92 (by decide) (by decide), pre2_at s k 92 47 (by decide) (by decide), Int.toNat_natCast]
  show _ = ((decide (cd s k = 47) && decide (cd s (k + 1) = 92)) || (decide (cd s k = 92) && decide (cd s (k + 1) = 47)))
  by_cases h : ((k + 1 : Nat) : Int) < (s.length : Int)
  · rw [decide_eq_true h, Bool.true_and]
  · rw [decide_eq_false h, Bool.false_and]
    have z : cd s (k + 1) = 0 := by unfold cd; rw [List.getD_eq_getElem?_getD, List.getElem?_eq_none (by omega)]; rfl
    rw [z]; simp
theorem pre_nomark {l : List UInt8} (h : ¬ l.getD 0 0 ∈ marksL) : (pre l [47, 92] || pre l [92, 47]) = false := by
  rw [Bool.eq_false_iff]
  intro hh
  simp only [Bool.or_eq_true] at hh
  have key : ∀ a b : UInt8, pre l [a, b] = true → l.getD 0 0 = a := fun a b hp => by
    unfold pre at hp
    simp only [List.drop_zero, Bool.and_eq_true, decide_eq_true_eq] at hp
    match l, hp with
    | [], hp => simp at hp
    | [x], hp => simp at hp
    | x :: y :: r, hp => simp at hp; exact hp.2.1
  rcases hh with hh | hh
  · rw [key _ _ hh] at h; exact h (by decide)
  · rw [key _ _ hh] at h; exact h (by decide)
set_option maxHeartbeats 4000000 in
theorem rtokens_ok (s : List UInt8) : Ctr Tryz.prog 154 [.s s] [] (TokK s) := by
  have key : Ctr Tryz.prog 154 [.s s] [] (fun r h => (∃ ts ver Y, tokF s = (ts, 0, 0) ∧ r = .tup [.sl 0 ver 0 ts.length none 0, .i .i64 0, .i .i64 0] ∧ h = rowK ts.length ts ver :: Y) ∨
      (∃ (e : Int) (p : Nat), tokF s = ([], e, (p : Int)) ∧ e ≠ 0 ∧ r = .tup [.nils, .i .i64 e, .i .i64 p])) := by
    refine Ctr.enter tabOkF (fn := Tryz.f154) rfl rfl rfl rfl rfl ?_
    refine ⟨fun h1 => ?_, fun h1 => ?_⟩
    · have h1 : 8192 < s.length := by
        have h1 : decide ((8192 : Int) < s.length) = true := h1
        simp at h1; omega
      exact .inr ⟨2, 0, by unfold tokF; rw [if_pos h1]; rfl, by decide, rfl⟩
    have h1 : s.length ≤ 8192 := by
      have h1 : decide ((8192 : Int) < s.length) = false := h1
      simp at h1; omega
    refine WpC.shift (Shift.row (d := 5) rfl 3 28 [.arr 0 Tk tk0 4 tkenc []] (fun E => rfl) (fun m V => ⟨⟨rfl, rfl, tkenc_w, fun j hj => by omega⟩, trivial⟩)) ?_
    refine WpC.loop tabOkF (β := Nat × Nat × List Tk × Nat × Nat) (fun x => x.1 ≤ s.length ∧ s.length < x.1 + x.2.2.2.2 ∧ tokC s x.2.2.2.2 x.1 x.2.2.1 = tokF s ∧ x.2.1 ≤ x.1 ∧ x.2.2.1.length = x.2.1) (fun x => [(6, .i .i64 x.1), (5, .sl 0 x.2.2.2.1 0 x.2.1 none 0)]) (fun x => [rowK x.2.1 x.2.2.1 x.2.2.2.1]) (fun x => s.length - x.1) (0, 0, [], 0, s.length + 1) 5192296858534827628530496329220094 ⟨Nat.zero_le _, by show s.length < 0 + (s.length + 1); omega, by unfold tokF; rw [if_neg (by omega)], Nat.le_refl _, rfl⟩ ?_ ?_
    · exact ⟨rfl, ⟨⟨rfl, rfl, rfl⟩, ⟨rfl, rfl, rfl⟩, trivial⟩, ⟨[], rfl⟩, ⟨bndTk, trivial⟩, rfl⟩
    · rintro ⟨p, N, ts, ver, f⟩ ⟨hi, hf, hc, hlt, hNt⟩
      simp only at hi hf hc hlt hNt
      have hbk := blkF_tok (s := s) (out := ts) (g := s.length + 1) (p := p) (f := f) (by omega) hf
      have hb := rblank_ok s p (by omega) hi
      obtain ⟨G, hG⟩ : ∃ G, G = blkF s (s.length + 1) p := ⟨_, rfl⟩
      rw [← hG] at hb hbk
      obtain ⟨k, e⟩ := G
      dsimp only at hb hbk
      refine OpC.callV rfl rfl rfl rfl rfl rfl rfl (fun _ => hb) ?_
      rcases hbk with ⟨he, ht⟩ | ⟨he, hpk, ⟨f1, hf1, ht⟩, hnx⟩
      · subst he
        refine ⟨fun _ => ?_, fun h => no_tf h⟩
        rw [hc] at ht
        exact .inr ⟨24, k, ht, by decide, rfl⟩
      subst he
      refine ⟨fun h => no_ft h, fun _ => ?_⟩
      refine ⟨fun h2 => ?_, fun h2 => ?_⟩
      · have h2 : (s.length : Int) ≤ (k : Int) := of_decide_eq_true h2
        rw [tokC_end (s := s) (f := f1) (at' := k) (out := ts) (by omega), hc] at ht
        subst hNt
        exact .inl ⟨ts, ver, _, ht, rfl, rfl⟩
      have h2 : ¬ (s.length : Int) ≤ (k : Int) := of_decide_eq_false h2
      have hkl : k < s.length := by omega
      have hix : (0 : Int) ≤ (k : Int) ∧ (k : Int) < (s.length : Int) := by omega
      obtain ⟨hbl, hpr⟩ := hnx hkl
      have c0 : cd (s.drop k) 0 = cd s k := by rw [cd_drop, Nat.add_zero]
      rw [c0] at hbl
      have hbl : (decide (cd s k = 32) || decide (cd s k = 9) || decide (cd s k = 10)) = false := hbl
      obtain ⟨f', rfl, hstep⟩ := tokC_step (out := ts) hkl hf1
      have e1 : IntKind.i64.wrap ((k : Int) + 1) = ((k + 1 : Nat) : Int) := w64 (by omega) (by omega)
      have e2 : IntKind.i64.wrap (IntKind.i64.wrap ((k : Int) + 1) + 1) = ((k + 2 : Nat) : Int) := by rw [e1]; exact w64 (by omega) (by omega)
      have hne : s.drop k ≠ [] := fun hh => by have := congrArg List.length hh; simp at this; omega
      have htd : ∀ m, (s.take (k + m)).drop k = (s.drop k).take m := fun m => by rw [List.drop_take]; congr 1; omega
      refine ⟨fun _ => hix, ?_⟩
      refine OpC.callV rfl rfl rfl rfl rfl rfl rfl (fun _ => rdigit_ok (cd s k)) ?_
      refine ⟨fun h6 => ?_, fun h6 => ?_⟩
      · have h6 : digB (cd s k) = true := h6
        have hr1 := rowF_le numB (s.drop k)
        have hr0 : 0 < rowF numB (s.drop k) := rowF_pos hne (by rw [c0]; unfold numB; rw [h6]; simp)
        have hrq : rowF (runQ false) (s.drop k) = rowF numB (s.drop k) := rfl
        rw [List.length_drop] at hr1
        refine OpC.callV rfl rfl rfl rfl rfl rfl rfl (fun _ => rrun_ok s k false (by omega) (by omega)) ?_
        have hob : (0 : Int) ≤ (k : Int) ∧ (k : Int) ≤ ((k + rowF (runQ false) (s.drop k) : Nat) : Int) ∧ ((k + rowF (runQ false) (s.drop k) : Nat) : Int) ≤ (s.length : Int) := by rw [hrq]; omega
        have hE : SV.i .i64 ((k + rowF (runQ false) (s.drop k) : Nat) : Int) = SV.i .i64 ((k + rowF numB (s.drop k) : Nat) : Int) := rfl
        have hW : ((s.take ((((k + rowF (runQ false) (s.drop k) : Nat) : Int)) : Int).toNat).drop ((k : Nat) : Int).toNat) = (s.drop k).take (rowF numB (s.drop k)) := by rw [hrq]; exact htd _
        refine ⟨fun _ => hob, ?_⟩
        have hv := rvalue_ok ((s.take ((((k + rowF (runQ false) (s.drop k) : Nat) : Int)) : Int).toNat).drop ((k : Nat) : Int).toNat) (by rw [hW, List.length_take, List.length_drop]; omega)
        cases hx : numF ((s.take ((((k + rowF (runQ false) (s.drop k) : Nat) : Int)) : Int).toNat).drop ((k : Nat) : Int).toNat) with
        | none =>
          rw [hx] at hv
          refine OpC.callV rfl rfl rfl rfl rfl rfl rfl (fun _ => hv) ?_
          refine ⟨fun _ => ?_, fun h => no_tf h⟩
          have hst : stepF (s.drop k) k = .err 23 := by
            unfold stepF
            rw [if_neg (by rw [c0, hbl]; decide)]
            rw [if_neg (by rw [hpr]; decide)]
            rw [if_pos (by rw [c0]; exact h6)]
            rw [← hW, hx]
          rw [hst] at hstep
          have hstep : tokC s (f' + 1) k ts = ([], 23, (k : Int)) := hstep
          rw [hstep] at ht
          rw [hc] at ht
          exact .inr ⟨23, k, ht, by decide, rfl⟩
        | some n =>
          rw [hx] at hv
          refine OpC.callV rfl rfl rfl rfl rfl rfl rfl (fun _ => hv) ?_
          refine ⟨fun h => no_ft h, fun _ => ?_⟩
          refine ⟨fun _ => hob, ?_⟩
          refine OpC.yld 0 rfl (yld_app_row tabOkF rfl rfl rfl rfl rfl rfl rfl rfl rfl (SrcA.sl rfl rfl rfl rfl (by decide) rfl) (Joins.arrN (y := ⟨2, ((s.take ((((k + rowF (runQ false) (s.drop k) : Nat) : Int)) : Int).toNat).drop ((k : Nat) : Int).toNat), IntKind.i64.wrap n, k⟩) hNt rfl tkenc_w) (by decide) ?_ ?_) (fun d hd => by cases hd; rfl) ?_
          · exact Nat.le_trans (show N + 1 ≤ 10000 by omega) (by decide)
          · show (N + 1) * 40 ≤ 140737488355328
            omega
          have hst : stepF (s.drop k) k = .tok ⟨2, ((s.take ((((k + rowF (runQ false) (s.drop k) : Nat) : Int)) : Int).toNat).drop ((k : Nat) : Int).toNat), IntKind.i64.wrap n, k⟩ := by
            unfold stepF
            rw [if_neg (by rw [c0, hbl]; decide)]
            rw [if_neg (by rw [hpr]; decide)]
            rw [if_pos (by rw [c0]; exact h6)]
            rw [← hW, hx]
          have hlen : (⟨2, ((s.take ((((k + rowF (runQ false) (s.drop k) : Nat) : Int)) : Int).toNat).drop ((k : Nat) : Int).toNat), IntKind.i64.wrap n, k⟩ : Tk).s.length = (k + rowF numB (s.drop k)) - k := by
            show (List.drop _ (List.take _ _)).length = _
            rw [hW]
            simp
            omega
          rw [hst] at hstep
          have hstep : tokC s (f' + 1) k ts = tokC s f' (k + (⟨2, ((s.take ((((k + rowF (runQ false) (s.drop k) : Nat) : Int)) : Int).toNat).drop ((k : Nat) : Int).toNat), IntKind.i64.wrap n, k⟩ : Tk).s.length) (ts ++ [⟨2, ((s.take ((((k + rowF (runQ false) (s.drop k) : Nat) : Int)) : Int).toNat).drop ((k : Nat) : Int).toNat), IntKind.i64.wrap n, k⟩]) := hstep
          have k0 : k + (⟨2, ((s.take ((((k + rowF (runQ false) (s.drop k) : Nat) : Int)) : Int).toNat).drop ((k : Nat) : Int).toNat), IntKind.i64.wrap n, k⟩ : Tk).s.length = (k + rowF numB (s.drop k)) := by omega
          rw [k0] at hstep
          rw [hstep] at ht
          rw [hc] at ht
          have k1 : (k + rowF numB (s.drop k)) ≤ s.length := by omega
          have k2 : s.length < (k + rowF numB (s.drop k)) + f' := by omega
          have k3 : N + 1 ≤ (k + rowF numB (s.drop k)) := by omega
          have k4 : s.length - (k + rowF numB (s.drop k)) < s.length - p := by omega
          have k5 : (ts ++ [(⟨2, ((s.take ((((k + rowF (runQ false) (s.drop k) : Nat) : Int)) : Int).toNat).drop ((k : Nat) : Int).toNat), IntKind.i64.wrap n, k⟩ : Tk)]).length = N + 1 := by rw [List.length_append, List.length_singleton]; omega
          refine ⟨((k + rowF numB (s.drop k)), N + 1, ts ++ [⟨2, ((s.take ((((k + rowF (runQ false) (s.drop k) : Nat) : Int)) : Int).toNat).drop ((k : Nat) : Int).toNat), IntKind.i64.wrap n, k⟩], ver + 1, f'), ⟨k1, k2, ht.symm, k3, k5⟩, k4, Eq.trans (b := SV.s s :: List.replicate 111 SV.dead) rfl rfl, ⟨⟨?_, rfl, rfl⟩, ⟨rfl, rfl, rfl⟩, trivial⟩, ⟨_, rfl⟩, ⟨bndTk, trivial⟩, rfl⟩
          exact hE
      have h6 : digB (cd s k) = false := h6
      refine OpC.callV rfl rfl rfl rfl rfl rfl rfl (fun _ => rletter_ok (cd s k)) ?_
      refine ⟨fun h8 => ?_, fun h8 => ?_⟩
      · have h8 : (letB (cd s k) || decide (cd s k = 95)) = true := h8
        have hr1 := rowF_le namB (s.drop k)
        have hr0 : 0 < rowF namB (s.drop k) := rowF_pos hne (by
          rw [c0]
          simp only [Bool.or_eq_true] at h8
          unfold namB
          rcases h8 with h8 | h8 <;> rw [h8] <;> simp)
        have hrq : rowF (runQ true) (s.drop k) = rowF namB (s.drop k) := rfl
        rw [List.length_drop] at hr1
        refine OpC.callV rfl rfl rfl rfl rfl rfl rfl (fun _ => rrun_ok s k true (by omega) (by omega)) ?_
        have hob : (0 : Int) ≤ (k : Int) ∧ (k : Int) ≤ ((k + rowF (runQ true) (s.drop k) : Nat) : Int) ∧ ((k + rowF (runQ true) (s.drop k) : Nat) : Int) ≤ (s.length : Int) := by rw [hrq]; omega
        have hE : SV.i .i64 ((k + rowF (runQ true) (s.drop k) : Nat) : Int) = SV.i .i64 ((k + rowF namB (s.drop k) : Nat) : Int) := rfl
        have hW : ((s.take ((((k + rowF (runQ true) (s.drop k) : Nat) : Int)) : Int).toNat).drop ((k : Nat) : Int).toNat) = (s.drop k).take (rowF namB (s.drop k)) := by rw [hrq]; exact htd _
        refine ⟨fun _ => hob, ?_⟩
        refine OpC.yld 0 rfl (yld_app_row tabOkF rfl rfl rfl rfl rfl rfl rfl rfl rfl (SrcA.sl rfl rfl rfl rfl (by decide) rfl) (Joins.arrN (y := ⟨1, ((s.take ((((k + rowF (runQ true) (s.drop k) : Nat) : Int)) : Int).toNat).drop ((k : Nat) : Int).toNat), 0, k⟩) hNt rfl tkenc_w) (by decide) ?_ ?_) (fun d hd => by cases hd; rfl) ?_
        · exact Nat.le_trans (show N + 1 ≤ 10000 by omega) (by decide)
        · show (N + 1) * 40 ≤ 140737488355328
          omega
        have hst : stepF (s.drop k) k = .tok ⟨1, ((s.take ((((k + rowF (runQ true) (s.drop k) : Nat) : Int)) : Int).toNat).drop ((k : Nat) : Int).toNat), 0, k⟩ := by
          unfold stepF
          rw [if_neg (by rw [c0, hbl]; decide)]
          rw [if_neg (by rw [hpr]; decide)]
          rw [if_neg (by rw [c0, h6]; decide)]
          rw [if_pos (by rw [c0]; exact h8)]
          rw [hW]
        have hlen : (⟨1, ((s.take ((((k + rowF (runQ true) (s.drop k) : Nat) : Int)) : Int).toNat).drop ((k : Nat) : Int).toNat), 0, k⟩ : Tk).s.length = (k + rowF namB (s.drop k)) - k := by
          show (List.drop _ (List.take _ _)).length = _
          rw [hW]
          simp
          omega
        rw [hst] at hstep
        have hstep : tokC s (f' + 1) k ts = tokC s f' (k + (⟨1, ((s.take ((((k + rowF (runQ true) (s.drop k) : Nat) : Int)) : Int).toNat).drop ((k : Nat) : Int).toNat), 0, k⟩ : Tk).s.length) (ts ++ [⟨1, ((s.take ((((k + rowF (runQ true) (s.drop k) : Nat) : Int)) : Int).toNat).drop ((k : Nat) : Int).toNat), 0, k⟩]) := hstep
        have k0 : k + (⟨1, ((s.take ((((k + rowF (runQ true) (s.drop k) : Nat) : Int)) : Int).toNat).drop ((k : Nat) : Int).toNat), 0, k⟩ : Tk).s.length = (k + rowF namB (s.drop k)) := by omega
        rw [k0] at hstep
        rw [hstep] at ht
        rw [hc] at ht
        have k1 : (k + rowF namB (s.drop k)) ≤ s.length := by omega
        have k2 : s.length < (k + rowF namB (s.drop k)) + f' := by omega
        have k3 : N + 1 ≤ (k + rowF namB (s.drop k)) := by omega
        have k4 : s.length - (k + rowF namB (s.drop k)) < s.length - p := by omega
        have k5 : (ts ++ [(⟨1, ((s.take ((((k + rowF (runQ true) (s.drop k) : Nat) : Int)) : Int).toNat).drop ((k : Nat) : Int).toNat), 0, k⟩ : Tk)]).length = N + 1 := by rw [List.length_append, List.length_singleton]; omega
        refine ⟨((k + rowF namB (s.drop k)), N + 1, ts ++ [⟨1, ((s.take ((((k + rowF (runQ true) (s.drop k) : Nat) : Int)) : Int).toNat).drop ((k : Nat) : Int).toNat), 0, k⟩], ver + 1, f'), ⟨k1, k2, ht.symm, k3, k5⟩, k4, Eq.trans (b := SV.s s :: List.replicate 111 SV.dead) rfl rfl, ⟨⟨?_, rfl, rfl⟩, ⟨rfl, rfl, rfl⟩, trivial⟩, ⟨_, rfl⟩, ⟨bndTk, trivial⟩, rfl⟩
        exact hE
      have h8 : (letB (cd s k) || decide (cd s k = 95)) = false := h8
      refine OpC.callV rfl rfl rfl rfl rfl rfl rfl (fun _ => rmark_ok (s.getD k 0)) ?_
      have hk0 : (s.drop k).getD 0 0 = s.getD k 0 := by simp [List.getD_eq_getElem?_getD]
      refine ⟨fun h10 => ?_, fun h10 => ?_⟩
      · have h10 : decide (s.getD k 0 ∈ marksL) = true := h10
        have hk : (s.drop k).getD 0 0 ∈ marksL := by rw [hk0]; exact of_decide_eq_true h10
        have hob2 : decide (IntKind.i64.wrap ((k : Int) + 1) < (s.length : Int)) = true → (0 : Int) ≤ IntKind.i64.wrap ((k : Int) + 1) ∧ IntKind.i64.wrap ((k : Int) + 1) < (s.length : Int) := fun h => by
          have h := of_decide_eq_true h
          rw [e1] at h ⊢
          omega
        refine ⟨fun hg => hob2 (gB_1 hg), ?_⟩
        refine ⟨fun hg => hob2 (gB_2 hg), ?_⟩
        have hp2 := pre_two (s := s) (k := k) hkl e1
        refine ⟨fun h9 => ?_, fun h9 => ?_⟩
        · have h9 := hp2.symm.trans h9
          have hl2 : k + 2 ≤ s.length := by
            simp only [Bool.or_eq_true] at h9
            rcases h9 with h9 | h9
            all_goals
              have := pre_len h9
              rw [List.length_drop] at this
              simp at this
              omega
          have hob : (0 : Int) ≤ (k : Int) ∧ (k : Int) ≤ IntKind.i64.wrap (IntKind.i64.wrap ((k : Int) + 1) + 1) ∧ IntKind.i64.wrap (IntKind.i64.wrap ((k : Int) + 1) + 1) ≤ (s.length : Int) := by rw [e2]; omega
          have hE : SV.i .i64 (IntKind.i64.wrap (IntKind.i64.wrap ((k : Int) + 1) + 1)) = SV.i .i64 ((k + 2 : Nat) : Int) := by rw [e2]
          have hW : ((s.take ((IntKind.i64.wrap (IntKind.i64.wrap ((k : Int) + 1) + 1)) : Int).toNat).drop ((k : Nat) : Int).toNat) = (s.drop k).take 2 := by rw [e2]; exact htd 2
          refine ⟨fun _ => hob, ?_⟩
          refine OpC.yld 0 rfl (yld_app_row tabOkF rfl rfl rfl rfl rfl rfl rfl rfl rfl (SrcA.sl rfl rfl rfl rfl (by decide) rfl) (Joins.arrN (y := ⟨3, ((s.take ((IntKind.i64.wrap (IntKind.i64.wrap ((k : Int) + 1) + 1)) : Int).toNat).drop ((k : Nat) : Int).toNat), 0, k⟩) hNt rfl tkenc_w) (by decide) ?_ ?_) (fun d hd => by cases hd; rfl) ?_
          · exact Nat.le_trans (show N + 1 ≤ 10000 by omega) (by decide)
          · show (N + 1) * 40 ≤ 140737488355328
            omega
          have hst : stepF (s.drop k) k = .tok ⟨3, ((s.take ((IntKind.i64.wrap (IntKind.i64.wrap ((k : Int) + 1) + 1)) : Int).toNat).drop ((k : Nat) : Int).toNat), 0, k⟩ := by
            unfold stepF
            rw [if_neg (by rw [c0, hbl]; decide)]
            rw [if_neg (by rw [hpr]; decide)]
            rw [if_neg (by rw [c0, h6]; decide)]
            rw [if_neg (by rw [c0, h8]; decide)]
            rw [if_pos h9]
            rw [hW]
          have hlen : (⟨3, ((s.take ((IntKind.i64.wrap (IntKind.i64.wrap ((k : Int) + 1) + 1)) : Int).toNat).drop ((k : Nat) : Int).toNat), 0, k⟩ : Tk).s.length = (k + 2) - k := by
            show (List.drop _ (List.take _ _)).length = _
            rw [hW]
            simp
            omega
          rw [hst] at hstep
          have hstep : tokC s (f' + 1) k ts = tokC s f' (k + (⟨3, ((s.take ((IntKind.i64.wrap (IntKind.i64.wrap ((k : Int) + 1) + 1)) : Int).toNat).drop ((k : Nat) : Int).toNat), 0, k⟩ : Tk).s.length) (ts ++ [⟨3, ((s.take ((IntKind.i64.wrap (IntKind.i64.wrap ((k : Int) + 1) + 1)) : Int).toNat).drop ((k : Nat) : Int).toNat), 0, k⟩]) := hstep
          have k0 : k + (⟨3, ((s.take ((IntKind.i64.wrap (IntKind.i64.wrap ((k : Int) + 1) + 1)) : Int).toNat).drop ((k : Nat) : Int).toNat), 0, k⟩ : Tk).s.length = (k + 2) := by omega
          rw [k0] at hstep
          rw [hstep] at ht
          rw [hc] at ht
          have k1 : (k + 2) ≤ s.length := by omega
          have k2 : s.length < (k + 2) + f' := by omega
          have k3 : N + 1 ≤ (k + 2) := by omega
          have k4 : s.length - (k + 2) < s.length - p := by omega
          have k5 : (ts ++ [(⟨3, ((s.take ((IntKind.i64.wrap (IntKind.i64.wrap ((k : Int) + 1) + 1)) : Int).toNat).drop ((k : Nat) : Int).toNat), 0, k⟩ : Tk)]).length = N + 1 := by rw [List.length_append, List.length_singleton]; omega
          refine ⟨((k + 2), N + 1, ts ++ [⟨3, ((s.take ((IntKind.i64.wrap (IntKind.i64.wrap ((k : Int) + 1) + 1)) : Int).toNat).drop ((k : Nat) : Int).toNat), 0, k⟩], ver + 1, f'), ⟨k1, k2, ht.symm, k3, k5⟩, k4, Eq.trans (b := SV.s s :: List.replicate 111 SV.dead) rfl rfl, ⟨⟨?_, rfl, rfl⟩, ⟨rfl, rfl, rfl⟩, trivial⟩, ⟨_, rfl⟩, ⟨bndTk, trivial⟩, rfl⟩
          exact hE
        · have h9 := hp2.symm.trans h9
          have hob : (0 : Int) ≤ (k : Int) ∧ (k : Int) ≤ IntKind.i64.wrap ((k : Int) + 1) ∧ IntKind.i64.wrap ((k : Int) + 1) ≤ (s.length : Int) := by rw [e1]; omega
          have hE : SV.i .i64 (IntKind.i64.wrap ((k : Int) + 1)) = SV.i .i64 ((k + 1 : Nat) : Int) := by rw [e1]
          have hW : ((s.take ((IntKind.i64.wrap ((k : Int) + 1)) : Int).toNat).drop ((k : Nat) : Int).toNat) = (s.drop k).take 1 := by rw [e1]; exact htd 1
          refine ⟨fun _ => hob, ?_⟩
          refine OpC.yld 0 rfl (yld_app_row tabOkF rfl rfl rfl rfl rfl rfl rfl rfl rfl (SrcA.sl rfl rfl rfl rfl (by decide) rfl) (Joins.arrN (y := ⟨3, ((s.take ((IntKind.i64.wrap ((k : Int) + 1)) : Int).toNat).drop ((k : Nat) : Int).toNat), 0, k⟩) hNt rfl tkenc_w) (by decide) ?_ ?_) (fun d hd => by cases hd; rfl) ?_
          · exact Nat.le_trans (show N + 1 ≤ 10000 by omega) (by decide)
          · show (N + 1) * 40 ≤ 140737488355328
            omega
          have hst : stepF (s.drop k) k = .tok ⟨3, ((s.take ((IntKind.i64.wrap ((k : Int) + 1)) : Int).toNat).drop ((k : Nat) : Int).toNat), 0, k⟩ := by
            unfold stepF
            rw [if_neg (by rw [c0, hbl]; decide)]
            rw [if_neg (by rw [hpr]; decide)]
            rw [if_neg (by rw [c0, h6]; decide)]
            rw [if_neg (by rw [c0, h8]; decide)]
            rw [if_neg (by rw [h9]; decide)]
            rw [if_pos hk]
            rw [hW]
          have hlen : (⟨3, ((s.take ((IntKind.i64.wrap ((k : Int) + 1)) : Int).toNat).drop ((k : Nat) : Int).toNat), 0, k⟩ : Tk).s.length = (k + 1) - k := by
            show (List.drop _ (List.take _ _)).length = _
            rw [hW]
            simp
            omega
          rw [hst] at hstep
          have hstep : tokC s (f' + 1) k ts = tokC s f' (k + (⟨3, ((s.take ((IntKind.i64.wrap ((k : Int) + 1)) : Int).toNat).drop ((k : Nat) : Int).toNat), 0, k⟩ : Tk).s.length) (ts ++ [⟨3, ((s.take ((IntKind.i64.wrap ((k : Int) + 1)) : Int).toNat).drop ((k : Nat) : Int).toNat), 0, k⟩]) := hstep
          have k0 : k + (⟨3, ((s.take ((IntKind.i64.wrap ((k : Int) + 1)) : Int).toNat).drop ((k : Nat) : Int).toNat), 0, k⟩ : Tk).s.length = (k + 1) := by omega
          rw [k0] at hstep
          rw [hstep] at ht
          rw [hc] at ht
          have k1 : (k + 1) ≤ s.length := by omega
          have k2 : s.length < (k + 1) + f' := by omega
          have k3 : N + 1 ≤ (k + 1) := by omega
          have k4 : s.length - (k + 1) < s.length - p := by omega
          have k5 : (ts ++ [(⟨3, ((s.take ((IntKind.i64.wrap ((k : Int) + 1)) : Int).toNat).drop ((k : Nat) : Int).toNat), 0, k⟩ : Tk)]).length = N + 1 := by rw [List.length_append, List.length_singleton]; omega
          refine ⟨((k + 1), N + 1, ts ++ [⟨3, ((s.take ((IntKind.i64.wrap ((k : Int) + 1)) : Int).toNat).drop ((k : Nat) : Int).toNat), 0, k⟩], ver + 1, f'), ⟨k1, k2, ht.symm, k3, k5⟩, k4, Eq.trans (b := SV.s s :: List.replicate 111 SV.dead) rfl rfl, ⟨⟨?_, rfl, rfl⟩, ⟨rfl, rfl, rfl⟩, trivial⟩, ⟨_, rfl⟩, ⟨bndTk, trivial⟩, rfl⟩
          exact hE
      · have h10 : decide (s.getD k 0 ∈ marksL) = false := h10
        have hk : ¬ (s.drop k).getD 0 0 ∈ marksL := by rw [hk0]; exact of_decide_eq_false h10
        have h9 : (pre (s.drop k) [47, 92] || pre (s.drop k) [92, 47]) = false := pre_nomark hk
        have hst : stepF (s.drop k) k = .err 20 := by
          unfold stepF
          rw [if_neg (by rw [c0, hbl]; decide)]
          rw [if_neg (by rw [hpr]; decide)]
          rw [if_neg (by rw [c0, h6]; decide)]
          rw [if_neg (by rw [c0, h8]; decide)]
          rw [if_neg (by rw [h9]; decide)]
          rw [if_neg hk]

        rw [hst] at hstep
        have hstep : tokC s (f' + 1) k ts = ([], 20, (k : Int)) := hstep
        rw [hstep] at ht
        rw [hc] at ht
        exact .inr ⟨20, k, ht, by decide, rfl⟩
  exact key.trim callX_m fun r H1 hk => by
    rcases hk with ⟨ts, ver, Y, h1, h2, h3⟩ | ⟨e, p, h1, h2, h3⟩
    · exact ⟨[rowK ts.length ts ver], Y, h3, Nat.zero_le _, ⟨bndTk, trivial⟩, by rw [h2]; rfl, .inl ⟨ts, ver, h1, h2, rfl⟩⟩
    · exact ⟨[], H1, rfl, Nat.zero_le _, trivial, by rw [h3]; rfl, .inr ⟨e, p, h1, h2, h3, rfl⟩⟩
end SX
end Go.Proofs.YtlgjjklikbpcoaaGreatDoor

/- The program's scan.Tokens: its words lie in memory that stays. -/
set_option linter.unusedVariables false
set_option maxRecDepth 100000
namespace Go.Proofs.YtlgjjklikbpcoaaGreatDoor
namespace SX
open Go Go.Proofs
theorem tkw (x : Tk) : wdL (tkenc x) = 4 := rfl
theorem tkok (x : Tk) (m : Mem) : OkL m [] (tkenc x) := by simp [tkenc, OkL, isUnit, Ok]
theorem Rel.gone {E : Env} {C : Fr} {m : Mem} {h : List SB} {w : World} (hr : Rel E C m h w) {k ver : Nat} {B : SB} (hk : h[k]? = some B) (hl : (SB.gone ver).lim = B.lim) : Rel E C m (h.set k (.gone ver)) w := by
  have hvs : vers (h.set k (.gone ver)) = vers h := vers_set (B' := .gone ver) hk hl
  have hkl : k < h.length := (List.getElem?_eq_some_iff.1 hk).1
  have hgk : (h.set k (.gone ver))[k]? = some (.gone ver) := by simp [List.getElem?_set, hkl]
  have hge : ∀ j, j ≠ k → (h.set k (.gone ver))[j]? = h[j]? := fun j hj => List.getElem?_set_ne (Ne.symm hj)
  have hblk : ∀ j b, BlkAt E (h.set k (.gone ver)) j b → j ≠ k ∧ BlkAt E h j b := by
    rintro j b ⟨B', hB', hb⟩
    by_cases hj : j = k
    · subst hj; rw [hgk] at hB'; cases hB'; exact hb.elim
    · rw [hge j hj] at hB'; exact ⟨hj, B', hB', hb⟩
  refine ⟨hr.os, hr.tape, hr.output, hr.im, hr.fr, hr.mf, ?_, ?_, ?_, ?_⟩
  · intro j B' hB'
    by_cases hj : j = k
    · subst hj; rw [hgk] at hB'; cases hB'; trivial
    · rw [hge j hj] at hB'; rw [hvs]; exact hr.bl j B' hB'
  · rw [hvs]; exact hr.nn
  · intro j b hb; exact hr.sp j b (hblk j b hb).2
  · intro i j b h1 h2; exact hr.inj i j b (hblk i b h1).2 (hblk j b h2).2
/-- A row that is handed back, ahead of two numbers, stays. -/
theorem Cp.row3 {α : Type} {d : α} {n : Nat} {enc : α → List SV} {X : List Value → World → (Value → World → Prop) → Prop} (hX : XMono X) {args : List SV} {H : List SB} {ty : TypeId} {g : Nat} (hn : n = g + 1) (hw : ∀ x, wdL (enc x) = n) (hok : ∀ x m, OkL m [] (enc x)) {K : SV → List SB → Prop}
    (h : Cp X args H (fun r h => (∃ (xs : List α) (ver : Nat) (y z : SV), r = .tup [.sl 0 ver 0 xs.length none 0, y, z] ∧ h = [.mem ty [.arr xs.length α d n enc xs] ver n] ∧ ∀ ad cap, K (.tup [.imm α d n enc xs ad cap, y, z]) [.gone ver]) ∨ K r h)) : Cp X args H K := by
  subst hn
  refine ⟨fun C E m w hr ha => hX _ _ _ _ (h.out C E m w hr ha) fun v w' ⟨r, H', E', m', h1, h2, h3, h4, h5⟩ => ?_⟩
  rcases h2 with ⟨xs, ver, y, z, rfl, rfl, hk⟩ | h2
  · have h3 := h3
    simp only [Ok, OkA] at h3
    obtain ⟨⟨⟨_, o1⟩, ⟨ly, o2⟩, ⟨lz, o3⟩, _⟩, _⟩ := h3
    have ht : ∀ vs, den E' (.tup vs) = .tuple (denL E' vs).toArray := fun vs => by simp [den, wrapV, cells]
    by_cases hv : ver = 0
    · subst hv
      simp only [Ok] at o1
      have hl0 : xs = [] := List.eq_nil_of_length_eq_zero (by simpa using o1.2)
      subst hl0
      have e7 : ∃ ad cap, den E' (.sl 0 0 0 ([] : List α).length none 0) = den E' (.imm α d (g + 1) enc ([] : List α) ad cap) := by
        cases he : E' 0 0 with
        | none => exact ⟨none, 0, by simp [den, wrapV, cells, he]⟩
        | some bc => obtain ⟨b, c⟩ := bc; exact ⟨some ⟨b, 0, none⟩, c, by simp [den, wrapV, cells, he]⟩
      obtain ⟨ad, cap, e7⟩ := e7
      refine ⟨_, _, E', m', ?_, hk ad cap, ?_, h4, Rel.gone (k := 0) (ver := 0) h5 rfl rfl⟩
      · rw [h1, ht, ht]
        show Value.tuple (den E' (.sl 0 0 0 ([] : List α).length none 0) :: denL E' [y, z]).toArray = Value.tuple (den E' (.imm α d (g + 1) enc ([] : List α) ad cap) :: denL E' [y, z]).toArray
        rw [e7]
      · refine ⟨?_, rfl⟩
        simp only [Ok, OkA]
        exact ⟨⟨rfl, Nat.zero_le _, fun h => absurd rfl h, hw, fun j hj => absurd hj (Nat.not_lt_zero _)⟩, ⟨ly, o2⟩, ⟨lz, o3⟩, trivial⟩
    · have hrep : Rep E' C m' ⟨[.sl 0 ver 0 xs.length none 0], [.mem ty [.arr xs.length α d (g + 1) enc xs] ver (g + 1)]⟩ ⟨#[den E' (.sl 0 ver 0 xs.length none 0)], []⟩ w' :=
        ⟨rfl, fun q x u hx hu => by
          rcases q with _ | q
          · simp at hx hu; subst hx; subst hu
            exact ⟨by simpa only [Ok] using o1, rfl⟩
          · simp at hx, rfl, h5⟩
      obtain ⟨m2, b, c, e1, e2, e3⟩ := still_base (k := 0) hrep rfl rfl hv hw hok
      obtain ⟨ad, cap, e4⟩ := still_slot (j := 0) (i := 0) (len := xs.length) e2 e3 rfl hw hok (by simp) (by omega)
      have e5 := e4.sl 0 _ _ rfl rfl
      simp only [List.drop_zero, List.take_length] at e5
      have e6 : Ok m2 (vers [SB.gone ver]) (.imm α d (g + 1) enc xs (some ad) cap) ∧ den E' (.sl 0 ver 0 xs.length none 0) = den E' (.imm α d (g + 1) enc xs (some ad) cap) := e5
      refine ⟨_, _, E', m2, ?_, hk (some ad) cap, ?_, h4.trans e1, e4.rel⟩
      · rw [h1, ht, ht]
        show Value.tuple (den E' (.sl 0 ver 0 xs.length none 0) :: denL E' [y, z]).toArray = Value.tuple (den E' (.imm α d (g + 1) enc xs (some ad) cap) :: denL E' [y, z]).toArray
        rw [e6.2]
      · refine ⟨?_, rfl⟩
        simp only [Ok, OkA]
        have k1 := e6.1
        simp only [Ok] at k1
        exact ⟨⟨rfl, k1⟩, ⟨ly, Ok.mono e1.mm y _ _ e1.vv o2⟩, ⟨lz, Ok.mono e1.mm z _ _ e1.vv o3⟩, trivial⟩
  · exact ⟨r, H', E', m', h1, h2, h3, h4, h5⟩
/-- What the words' reader hands back, in memory that stays. -/
def TokI (s : List UInt8) (r : SV) (h : List SB) : Prop :=
  (∃ ts ad cap ver, tokF s = (ts, 0, 0) ∧ r = .tup [.imm Tk tk0 4 tkenc ts ad cap, .i .i64 0, .i .i64 0] ∧ h = [.gone ver]) ∨
  (∃ e p, tokF s = ([], e, p) ∧ e ≠ 0 ∧ r = .tup [.nils, .i .i64 e, .i .i64 p] ∧ h = [])
theorem tokensI_ok (s : List UInt8) : Ctr Tryz.prog 20 [.s s] [] (TokI s) := by
  refine Cp.row3 (α := Tk) (d := tk0) (enc := tkenc) (n := 4) (g := 3) (ty := 28) callX_m rfl tkw tkok ((tokens_ok s).mono callX_m ?_)
  rintro r h (⟨ts, ver, h1, rfl, rfl⟩ | ⟨e, p, h1, he, rfl, rfl⟩)
  · exact .inl ⟨ts, ver, _, _, rfl, rfl, fun ad cap => .inl ⟨ts, ad, cap, ver, h1, rfl, rfl⟩⟩
  · exact .inr (.inr ⟨e, p, h1, he, rfl, rfl⟩)
end SX
end Go.Proofs.YtlgjjklikbpcoaaGreatDoor

/- Is a text one name? -/
set_option linter.unusedVariables false
set_option maxRecDepth 100000
namespace Go.Proofs.YtlgjjklikbpcoaaGreatDoor
namespace SX
open Go Go.Proofs
def namedF (s : List UInt8) : Bool := match tokF s with
  | ([t], e, _) => decide (e = 0) && (decide (t.k = 1) && decide (t.s = s))
  | _ => false
set_option maxHeartbeats 1000000 in
theorem named_ok (s : List UInt8) : CtrV Tryz.prog 109 [.s s] (.b (namedF s)) := by
  refine Ctr.enterV tabOkF (fn := Tryz.f109) rfl rfl rfl rfl rfl rfl ?_
  refine OpC.callL rfl rfl rfl rfl [] 1 rfl rfl rfl (tokensI_ok s) rfl rfl rfl rfl trivial rfl (fun r H' hk => ?_) ?_
  · rcases hk with ⟨ts, ad, cap, B, h1, rfl, rfl⟩ | ⟨e, p, h1, he, rfl, rfl⟩
    · exact ⟨Nat.zero_le _, Nat.le_refl _⟩
    · exact ⟨Nat.zero_le _, Nat.zero_le _⟩
  rintro r H' (⟨ts, ad, cap, B, h1, rfl, rfl⟩ | ⟨e, p, h1, he, rfl, rfl⟩)
  · have hob : ((decide ((0 : Int) = 0) && decide ((ts.length : Int) = 1)) == true) = true → (0 : Int) ≤ 0 ∧ (0 : Int) < (ts.length : Int) := by
      intro hg
      simp at hg
      omega
    refine ⟨hob, ?_⟩
    refine ⟨fun hg => ?_, ?_⟩
    · have hg : ((((decide ((0 : Int) = 0) && decide ((ts.length : Int) = 1)) && decide ((ts.getD 0 tk0).k = 1)) == true)) = true := hg
      simp at hg
      show (0 : Int) ≤ 0 ∧ (0 : Int) < (ts.length : Int)
      omega
    refine b_cg ?_
    show (((decide ((0 : Int) = 0) && decide ((ts.length : Int) = 1)) && decide ((ts.getD 0 tk0).k = 1)) && decide ((ts.getD 0 tk0).s = s)) = namedF s
    unfold namedF
    rw [h1]
    rcases ts with _ | ⟨t, _ | ⟨u, ts⟩⟩
    · simp
    · simp
    · simp
      omega
  · have hb : ((decide (e = 0) && decide ((0 : Int) = 1)) == true) = false := by rw [decide_eq_false he]; rfl
    have hb2 : (((decide (e = 0) && decide ((0 : Int) = 1)) && decide ((0 : Int) = 1)) == true) = false := by rw [decide_eq_false he]; rfl
    refine OpC.skipG rfl hb (.raw (.pointer none)) ?_
    refine OpC.skipG rfl hb (.raw (.pointer none)) ?_
    refine OpC.skipG rfl hb (.i .i64 0) ?_
    refine OpC.skipG rfl hb2 (.raw (.pointer none)) ?_
    refine OpC.skipG rfl hb2 (.raw (.pointer none)) ?_
    refine OpC.skipG rfl hb2 (.s []) ?_
    refine b_cg ?_
    show (((decide (e = 0) && decide ((0 : Int) = 1)) && decide ((0 : Int) = 1)) && decide ([] = s)) = namedF s
    unfold namedF
    rw [h1, decide_eq_false he]
    rfl
end SX
end Go.Proofs.YtlgjjklikbpcoaaGreatDoor

/- Is a text one name: the reference's answer. -/
set_option linter.unusedVariables false
set_option maxRecDepth 100000
namespace Go.Proofs.YtlgjjklikbpcoaaGreatDoor
namespace SX
open Go Go.Proofs
theorem rtokensI_ok (s : List UInt8) : Ctr Tryz.prog 154 [.s s] [] (TokI s) := by
  refine Cp.row3 (α := Tk) (d := tk0) (enc := tkenc) (n := 4) (g := 3) (ty := 28) callX_m rfl tkw tkok ((rtokens_ok s).mono callX_m ?_)
  rintro r h (⟨ts, ver, h1, rfl, rfl⟩ | ⟨e, p, h1, he, rfl, rfl⟩)
  · exact .inl ⟨ts, ver, _, _, rfl, rfl, fun ad cap => .inl ⟨ts, ad, cap, ver, h1, rfl, rfl⟩⟩
  · exact .inr (.inr ⟨e, p, h1, he, rfl, rfl⟩)
set_option maxHeartbeats 1000000 in
theorem oneName_ok (s : List UInt8) : CtrV Tryz.prog 77 [.s s] (.b (namedF s)) := by
  refine Ctr.enterV tabOkF (fn := Tryz.f77) rfl rfl rfl rfl rfl rfl ?_
  refine OpC.callL rfl rfl rfl rfl [] 1 rfl rfl rfl (rtokensI_ok s) rfl rfl rfl rfl trivial rfl (fun r H' hk => ?_) ?_
  · rcases hk with ⟨ts, ad, cap, B, h1, rfl, rfl⟩ | ⟨e, p, h1, he, rfl, rfl⟩
    · exact ⟨Nat.zero_le _, Nat.le_refl _⟩
    · exact ⟨Nat.zero_le _, Nat.zero_le _⟩
  rintro r H' (⟨ts, ad, cap, B, h1, rfl, rfl⟩ | ⟨e, p, h1, he, rfl, rfl⟩)
  · have hob : ((decide ((0 : Int) = 0) && decide ((ts.length : Int) = 1)) == true) = true → (0 : Int) ≤ 0 ∧ (0 : Int) < (ts.length : Int) := by
      intro hg
      simp at hg
      omega
    refine ⟨hob, ?_⟩
    refine ⟨fun hg => ?_, ?_⟩
    · have hg : ((((decide ((0 : Int) = 0) && decide ((ts.length : Int) = 1)) && decide ((ts.getD 0 tk0).k = 1)) == true)) = true := hg
      simp at hg
      show (0 : Int) ≤ 0 ∧ (0 : Int) < (ts.length : Int)
      omega
    refine b_cg ?_
    show (((decide ((0 : Int) = 0) && decide ((ts.length : Int) = 1)) && decide ((ts.getD 0 tk0).k = 1)) && decide ((ts.getD 0 tk0).s = s)) = namedF s
    unfold namedF
    rw [h1]
    rcases ts with _ | ⟨t, _ | ⟨u, ts⟩⟩
    · simp
    · simp
    · simp
      omega
  · have hb : ((decide (e = 0) && decide ((0 : Int) = 1)) == true) = false := by rw [decide_eq_false he]; rfl
    have hb2 : (((decide (e = 0) && decide ((0 : Int) = 1)) && decide ((0 : Int) = 1)) == true) = false := by rw [decide_eq_false he]; rfl
    refine OpC.skipG rfl hb (.raw (.pointer none)) ?_
    refine OpC.skipG rfl hb (.raw (.pointer none)) ?_
    refine OpC.skipG rfl hb (.i .i64 0) ?_
    refine OpC.skipG rfl hb2 (.raw (.pointer none)) ?_
    refine OpC.skipG rfl hb2 (.raw (.pointer none)) ?_
    refine OpC.skipG rfl hb2 (.s []) ?_
    refine b_cg ?_
    show (((decide (e = 0) && decide ((0 : Int) = 1)) && decide ((0 : Int) = 1)) && decide ([] = s)) = namedF s
    unfold namedF
    rw [h1, decide_eq_false he]
    rfl
end SX
end Go.Proofs.YtlgjjklikbpcoaaGreatDoor

/- Conditions: what they are, what they say, in plain terms. -/
set_option linter.unusedVariables false
namespace Go.Proofs.YtlgjjklikbpcoaaGreatDoor
namespace SX
open Go Go.Proofs
theorem wrap64 {x : Int} (h1 : -9223372036854775808 ≤ x) (h2 : x ≤ 9223372036854775807) : IntKind.i64.wrap x = x := IntWalk.i64_in x ⟨h1, h2⟩
theorem Joins.nil {new : List SV} : Joins [] new new := ⟨fun E => rfl, fun m V _ h => h⟩
/-- A node. -/
structure Cn where
  k : Int
  t : Int
  r : Int
  l : Int
  v : Int
  deriving DecidableEq
def cn0 : Cn := ⟨0, 0, 0, 0, 0⟩
def partsF (c : Cn) : Int :=
  if c.k = 1 then (if c.l = 0 ∧ 0 ≤ c.t ∧ c.t < 3 ∧ 0 ≤ c.r ∧ c.r < 8 then 0 else -1)
  else if c.k = 2 then (if c.t = 0 ∧ c.r = 0 ∧ 0 ≤ c.l ∧ c.l < 3 then 0 else -1)
  else if c.k = 3 then (if c.t = 0 ∧ c.r = 0 ∧ c.l = 0 ∧ c.v = 0 then 1 else -1)
  else if c.k = 4 ∨ c.k = 5 then (if c.t = 0 ∧ c.r = 0 ∧ c.l = 0 ∧ c.v = 0 then 2 else -1)
  else -1
/-- How many stand whole behind the first i nodes. -/
def nAt (cs : List Cn) : Nat → Int
  | 0 => 0
  | i + 1 => nAt cs i + (1 - partsF (cs.getD i cn0))
/-- The first i nodes are as they may be. -/
def okAt (cs : List Cn) (i : Nat) : Prop := ∀ j, j < i → 0 ≤ partsF (cs.getD j cn0) ∧ partsF (cs.getD j cn0) ≤ nAt cs j
def rightP (cs : List Cn) : Prop := (1 ≤ cs.length ∧ cs.length ≤ 32) ∧ okAt cs cs.length ∧ nAt cs cs.length = 1
open Classical in
noncomputable def rightB (cs : List Cn) : Bool := decide (rightP cs)
/-- A final state: registers, 8 a thread, then memory. -/
structure Oc where
  l : List Int
  h : l.length = 27
def Oc.at (o : Oc) (j : Nat) : Int := o.l.getD j 0
theorem Oc.ext' {a b : Oc} (h : a.l = b.l) : a = b := by cases a; cases b; cases h; rfl
end SX
end Go.Proofs.YtlgjjklikbpcoaaGreatDoor

/- Conditions: parts, one, Right. -/
set_option linter.unusedVariables false
set_option maxRecDepth 100000
namespace Go.Proofs.YtlgjjklikbpcoaaGreatDoor
namespace SX
open Go Go.Proofs
end SX
end Go.Proofs.YtlgjjklikbpcoaaGreatDoor

/- Conditions: Right. -/
set_option linter.unusedVariables false
set_option maxRecDepth 100000
namespace Go.Proofs.YtlgjjklikbpcoaaGreatDoor
namespace SX
open Go Go.Proofs
end SX
end Go.Proofs.YtlgjjklikbpcoaaGreatDoor

/- Conditions: what a node says, the closure of Eval, fold. -/
set_option linter.unusedVariables false
set_option maxRecDepth 100000
namespace Go.Proofs.YtlgjjklikbpcoaaGreatDoor
namespace SX
open Go Go.Proofs
section
variable {P : Program} {T : Tb}
/-- A function that hands back a value, and leaves what it is lent as it was. -/
theorem Ctr.enterG (hT : TabOk P T) {f : FuncId} {fn : Func} {c : Code} {n : Nat} (hf : P.funcs[f]? = some fn) (hb : fn.body = some c) (hn : fn.ntmps = n) (hnm : (fn.name == "runtime.NumGoroutine") = false) {args : List SV} {H : List SB} {r : SV}
    (hl : Nat.ble args.length n = true) (hr : Bnd H.length r) (hH : BndH H.length H) (h : sx P T c (retK T fn.results.toList (fun r' h => r' = r ∧ ∃ X, h = H ++ X)) ⟨args ++ List.replicate (n - args.length) .dead, H⟩) : Ctr P f args H (fun r' h => r' = r ∧ h = H) := by
  have h1 := Ctr.enter hT hf hb hn hnm hl h
  exact h1.trim callX_m fun r' H1 ⟨e, X, hX⟩ => ⟨H, X, hX, Nat.le_refl _, hH, by rw [e]; exact hr, e, rfl⟩
end
end SX
end Go.Proofs.YtlgjjklikbpcoaaGreatDoor

/- A run of the program, as a memo. Made by memo.py. -/
set_option maxRecDepth 100000
namespace Go.Proofs.YtlgjjklikbpcoaaGreatDoor
namespace SX
open Go Go.Proofs
def CdXLang : Memo := ⟨63,
  [],
  [],
  (.ptr 1 1 0
  []),
  [(.mem 9 [(.s [82, 65, 88]), (.s [82, 66, 88]), (.s [82, 67, 88]), (.s [82, 68, 88]), (.s [82, 83, 73]), (.s [82, 68, 73]), (.s [82, 56]), (.s [82, 57])] 1 0), (.mem 116 [(.sl 0 1
  0 8 (.some 8) 0), (.s [36]), (.fn 129 []), (.fn 130 [])] 1
  0)]⟩
theorem CdXLang_ok : MemoOk Tryz.prog CdXLang := memo_of (tr := treeF) (ft := ftree) (ms := []) (n := 40) tabOkF ftOk mixed (by intro m hm; cases hm) (by decide +kernel)
end SX
end Go.Proofs.YtlgjjklikbpcoaaGreatDoor

/- A run of the program, as a memo. Made by memo.py. -/
set_option maxRecDepth 100000
namespace Go.Proofs.YtlgjjklikbpcoaaGreatDoor
namespace SX
open Go Go.Proofs
end SX
end Go.Proofs.YtlgjjklikbpcoaaGreatDoor

/- A run of the program, as a memo. Made by memo.py. -/
set_option maxRecDepth 100000
namespace Go.Proofs.YtlgjjklikbpcoaaGreatDoor
namespace SX
open Go Go.Proofs
end SX
end Go.Proofs.YtlgjjklikbpcoaaGreatDoor

/- Names of registers: the program's, the reference's. -/
set_option linter.unusedVariables false
set_option maxRecDepth 100000
namespace Go.Proofs.YtlgjjklikbpcoaaGreatDoor
namespace SX
open Go Go.Proofs
/-- The registers' names of an architecture. -/
def regsL (a : Int) : List (List UInt8) :=
  if a = 1 then [[82, 65, 88], [82, 66, 88], [82, 67, 88], [82, 68, 88], [82, 83, 73], [82, 68, 73], [82, 56], [82, 57]]
  else if a = 2 then [[97, 48], [97, 49], [97, 50], [97, 51], [97, 52], [97, 53], [97, 54], [97, 55]]
  else if a = 3 then [[88, 48], [88, 49], [88, 50], [88, 51], [88, 52], [88, 53], [88, 54], [88, 55]]
  else []
def nameF (a n : Int) : List UInt8 := if 0 ≤ n ∧ n < 8 then (regsL a).getD n.toNat [] else []
def rowS (s0 s1 s2 s3 s4 s5 s6 s7 : List UInt8) : SB := .mem 9 [.s s0, .s s1, .s s2, .s s3, .s s4, .s s5, .s s6, .s s7] 1 0
def langB (h : List UInt8) (rd pr : Nat) : SB := .mem 116 [.sl 0 1 0 8 (some 8) 0, .s h, .fn rd [], .fn pr []] 1 0
theorem bndLang {s0 s1 s2 s3 s4 s5 s6 s7 h : List UInt8} {rd pr : Nat} : BndH 2 [rowS s0 s1 s2 s3 s4 s5 s6 s7, langB h rd pr] := ⟨⟨rfl, rfl, rfl, rfl, rfl, rfl, rfl, rfl, trivial⟩, ⟨rfl, rfl, rfl, rfl, trivial⟩, trivial⟩
theorem s_congr {x y : List UInt8} (h : x = y) : SV.s x = SV.s y := congrArg SV.s h
theorem cases8 {n : Int} (h0 : 0 ≤ n) (h8 : n < 8) : n = 0 ∨ n = 1 ∨ n = 2 ∨ n = 3 ∨ n = 4 ∨ n = 5 ∨ n = 6 ∨ n = 7 := by omega
theorem lname_ok (s0 s1 s2 s3 s4 s5 s6 s7 h : List UInt8) (rd pr : Nat) (n : Int) : Ctr Tryz.prog 78 [.ptr 1 1 0 [], .i .i64 n] [rowS s0 s1 s2 s3 s4 s5 s6 s7, langB h rd pr]
    (fun r h' => r = .s (if 0 ≤ n ∧ n < 8 then [s0, s1, s2, s3, s4, s5, s6, s7].getD n.toNat [] else []) ∧ h' = [rowS s0 s1 s2 s3 s4 s5 s6 s7, langB h rd pr]) := by
  refine Ctr.enterG tabOkF (fn := Tryz.f78) rfl rfl rfl rfl rfl rfl bndLang ?_
  refine ⟨fun h1 => ⟨s_congr ?_, _, rfl⟩, fun h1 => ?_⟩
  · have h1 : (decide (n < 0) || decide ((8 : Int) ≤ n)) = true := h1
    simp only [Bool.or_eq_true, decide_eq_true_eq] at h1
    rw [if_neg (by omega)]
  · have h1 : (decide (n < 0) || decide ((8 : Int) ≤ n)) = false := h1
    simp only [Bool.or_eq_false_iff, decide_eq_false_iff_not] at h1
    rw [if_pos (by omega)]
    rcases cases8 (n := n) (by omega) (by omega) with rfl | rfl | rfl | rfl | rfl | rfl | rfl | rfl
    all_goals exact ⟨fun _ => by decide, ⟨rfl, _, rfl⟩⟩
theorem x86_lang : Ctr Tryz.prog 63 [] [] (fun r h => r = .ptr 1 1 0 [] ∧ h = [rowS [82, 65, 88] [82, 66, 88] [82, 67, 88] [82, 68, 88] [82, 83, 73] [82, 68, 73] [82, 56] [82, 57], langB [36] 129 130]) := CdXLang_ok
theorem x86Name_ok (n : Int) : CtrV Tryz.prog 25 [.i .i64 n] (.s (nameF 1 n)) := by
  refine Ctr.enterV tabOkF (fn := Tryz.f25) rfl rfl rfl rfl rfl rfl ?_
  refine OpC.callL rfl rfl rfl rfl [] 2 rfl rfl rfl x86_lang rfl rfl rfl rfl trivial rfl (fun r H' hk => ?_) ?_
  · obtain ⟨rfl, rfl⟩ := hk; exact ⟨Nat.zero_le _, Nat.le_refl _⟩
  rintro r H' ⟨rfl, rfl⟩
  refine OpC.callG rfl rfl rfl rfl rfl rfl (fun _ => lname_ok [82, 65, 88] [82, 66, 88] [82, 67, 88] [82, 68, 88] [82, 83, 73] [82, 68, 73] [82, 56] [82, 57] [36] 129 130 n) ?_
  exact rfl
theorem regsL_none {a : Int} (h1 : ¬ a = 1) (h2 : ¬ a = 2) (h3 : ¬ a = 3) (n : Int) : nameF a n = [] := by
  unfold nameF regsL
  rw [if_neg h1, if_neg h2, if_neg h3]
  split <;> rfl
theorem rname_ok (a n : Int) : CtrV Tryz.prog 26 [.i .i64 a, .i .i64 n] (.s (nameF a n)) := by
  refine Ctr.enterV tabOkF (fn := Tryz.f26) rfl rfl rfl rfl rfl rfl ?_
  refine ⟨fun h1 => s_congr ?_, fun h1 => ?_⟩
  · have h1 : (decide (n < 0) || decide ((7 : Int) < n)) = true := h1
    simp only [Bool.or_eq_true, decide_eq_true_eq] at h1
    unfold nameF
    rw [if_neg (by omega)]
  · have h1 : (decide (n < 0) || decide ((7 : Int) < n)) = false := h1
    simp only [Bool.or_eq_false_iff, decide_eq_false_iff_not] at h1
    refine ⟨fun h2 => ?_, fun h2 => ⟨fun h3 => ?_, fun h3 => ⟨fun h4 => ?_, fun h4 => ?_⟩⟩⟩
    · obtain rfl : a = 1 := of_decide_eq_true h2
      rcases cases8 (n := n) (by omega) (by omega) with rfl | rfl | rfl | rfl | rfl | rfl | rfl | rfl
      all_goals exact ⟨fun _ => by decide, rfl⟩
    · obtain rfl : a = 2 := of_decide_eq_true h3
      rcases cases8 (n := n) (by omega) (by omega) with rfl | rfl | rfl | rfl | rfl | rfl | rfl | rfl
      all_goals exact ⟨fun _ => by decide, ⟨fun _ => by decide, rfl⟩⟩
    · obtain rfl : a = 3 := of_decide_eq_true h4
      rcases cases8 (n := n) (by omega) (by omega) with rfl | rfl | rfl | rfl | rfl | rfl | rfl | rfl
      all_goals exact ⟨fun _ => by decide, ⟨fun _ => by decide, rfl⟩⟩
    · exact s_congr (regsL_none (of_decide_eq_false h2) (of_decide_eq_false h3) (of_decide_eq_false h4) n).symm
/-- A location's name. -/
def locF (k : Int) : List UInt8 := [UInt8.ofNat (120 + k.toNat)]
theorem rloc_ok (k : Int) (h0 : 0 ≤ k) (h3 : k < 3) : CtrV Tryz.prog 104 [.i .i64 k] (.s (locF k)) := by
  refine Ctr.enterV tabOkF (fn := Tryz.f104) rfl rfl rfl rfl rfl rfl ?_
  rcases (by omega : k = 0 ∨ k = 1 ∨ k = 2) with rfl | rfl | rfl
  all_goals exact ⟨fun _ => by decide, rfl⟩
theorem nameF_len (a n : Int) : (nameF a n).length ≤ 3 := by
  unfold nameF
  split
  · rename_i h
    unfold regsL
    split
    · rcases cases8 h.1 h.2 with rfl | rfl | rfl | rfl | rfl | rfl | rfl | rfl <;> decide
    · split
      · rcases cases8 h.1 h.2 with rfl | rfl | rfl | rfl | rfl | rfl | rfl | rfl <;> decide
      · split
        · rcases cases8 h.1 h.2 with rfl | rfl | rfl | rfl | rfl | rfl | rfl | rfl <;> decide
        · simp
  · simp
end SX
end Go.Proofs.YtlgjjklikbpcoaaGreatDoor

/- The laying of a contract of the shelf at this program. -/
set_option maxRecDepth 100000
namespace Go.Proofs
open Go.Shelf
def Tryz.Itoa_ren : Go.Shelf.Ren := ⟨fun | 171 => 93 | 243 => 171 | 246 => 251 | 283 => 283 | 284 => 284 | 285 => 285 | 286 => 286 | 129 => 305 | 317 => 307 | 318 => 308 | 319 => 309 | 320 => 310 | 337 => 318 | 338 => 319 | n => n, fun | 3 => 3 | 9 => 9 | 2 => 2 | 4 => 4 | 171 => 293 | 0 => 0 | 53 => 175 | 37 => 140 | 5 => 5 | 173 => 296 | 212 => 323 | 51 => 274 | 20 => 20 | 213 => 324 | 46 => 233 | 232 => 337 | 233 => 338 | n => n, fun | 17 => 5 | 18 => 6 | 19 => 7 | n => n⟩
theorem Tryz.Itoa : Go.Proofs.LaysM.n171 Tryz.prog Tryz.Itoa_ren := {
  mixed := by kernel_rfl
  f129 := Tryz.func305.trans (congrArg some (by kernel_rfl))
  f171 := Tryz.func93.trans (congrArg some (by kernel_rfl))
  f243 := Tryz.func171.trans (congrArg some (by kernel_rfl))
  f246 := Tryz.func251.trans (congrArg some (by kernel_rfl))
  f283 := Tryz.func283.trans (congrArg some (by kernel_rfl))
  f284 := Tryz.func284.trans (congrArg some (by kernel_rfl))
  f285 := Tryz.func285.trans (congrArg some (by kernel_rfl))
  f286 := Tryz.func286.trans (congrArg some (by kernel_rfl))
  f317 := Tryz.func307.trans (congrArg some (by kernel_rfl))
  f318 := Tryz.func308.trans (congrArg some (by kernel_rfl))
  f319 := Tryz.func309.trans (congrArg some (by kernel_rfl))
  f320 := Tryz.func310.trans (congrArg some (by kernel_rfl))
  f337 := Tryz.func318.trans (congrArg some (by kernel_rfl))
  f338 := Tryz.func319.trans (congrArg some (by kernel_rfl))
  t0 := Tryz.underlying0
  a0 := Tryz.isAgg0
  z0 := Tryz.sizeOf0
  v0 := Tryz.zeroValue0
  t2 := Tryz.underlying2
  a2 := Tryz.isAgg2
  z2 := Tryz.sizeOf2
  v2 := Tryz.zeroValue2
  t3 := Tryz.underlying3
  a3 := Tryz.isAgg3
  z3 := Tryz.sizeOf3
  v3 := Tryz.zeroValue3
  t4 := Tryz.underlying4
  a4 := Tryz.isAgg4
  z4 := Tryz.sizeOf4
  v4 := Tryz.zeroValue4
  t5 := Tryz.underlying5
  a5 := Tryz.isAgg5
  z5 := Tryz.sizeOf5
  v5 := Tryz.zeroValue5
  t9 := Tryz.underlying9
  a9 := Tryz.isAgg9
  z9 := Tryz.sizeOf9
  v9 := Tryz.zeroValue9
  t20 := Tryz.underlying20
  a20 := Tryz.isAgg20
  z20 := Tryz.sizeOf20
  v20 := Tryz.zeroValue20
  t37 := Tryz.underlying140
  a37 := Tryz.isAgg140
  z37 := Tryz.sizeOf140
  v37 := Tryz.zeroValue140
  t46 := Tryz.underlying233
  a46 := Tryz.isAgg233
  z46 := Tryz.sizeOf233
  v46 := Tryz.zeroValue233
  t51 := Tryz.underlying274
  a51 := Tryz.isAgg274
  z51 := Tryz.sizeOf274
  v51 := Tryz.zeroValue274
  t53 := Tryz.underlying175
  a53 := Tryz.isAgg175
  z53 := Tryz.sizeOf175
  v53 := Tryz.zeroValue175
  t171 := Tryz.underlying293
  a171 := Tryz.isAgg293
  z171 := Tryz.sizeOf293
  v171 := Tryz.zeroValue293
  t173 := Tryz.underlying296
  a173 := Tryz.isAgg296
  z173 := Tryz.sizeOf296
  v173 := Tryz.zeroValue296
  t212 := Tryz.underlying323
  a212 := Tryz.isAgg323
  z212 := Tryz.sizeOf323
  v212 := Tryz.zeroValue323
  t213 := Tryz.underlying324
  a213 := Tryz.isAgg324
  z213 := Tryz.sizeOf324
  t232 := Tryz.underlying337
  a232 := Tryz.isAgg337
  z232 := Tryz.sizeOf337
  v232 := Tryz.zeroValue337
  t233 := Tryz.underlying338
  a233 := Tryz.isAgg338
  z233 := Tryz.sizeOf338
  v233 := Tryz.zeroValue338
  g17 := by kernel_rfl
  g18 := by kernel_rfl
  g19 := by kernel_rfl
  i0 := by kernel_rfl
  i2 := by kernel_rfl
  i3 := by kernel_rfl
  i4 := by kernel_rfl
  i5 := by kernel_rfl
  i9 := by kernel_rfl
  i20 := by kernel_rfl
  i37 := by kernel_rfl
  i46 := by kernel_rfl
  i51 := by kernel_rfl
  i53 := by kernel_rfl
  i171 := by kernel_rfl
  i173 := by kernel_rfl
  i212 := by kernel_rfl
  i232 := by kernel_rfl
  i233 := by kernel_rfl
  m17 := by kernel_rfl
  m18 := by kernel_rfl
  m19 := by kernel_rfl }
end Go.Proofs
