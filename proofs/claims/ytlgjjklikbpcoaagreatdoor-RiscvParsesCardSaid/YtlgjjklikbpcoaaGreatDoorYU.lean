/- A part of SX: symbolic and concrete runs of the program, with contracts of functions; lemmas without further conditions. -/
import Derived.Test.YtlgjjklikbpcoaaGreatDoorChecked
import Derived.Shelf.Lays
import Derived.Shelf.Pu.Lays
import Derived.Shelf.Strings.Search3
import Derived.Shelf.Small.Strs
import Derived.Shelf.Pu.ToError
import Derived.Lib.IndexMore
import Derived.Lib.IndexBytes
import Derived.Test.YtlgjjklikbpcoaaGreatDoorYT
set_option linter.unusedVariables false
set_option linter.unusedSimpArgs false
set_option linter.unusedSectionVars false
/- Words of a text: a number's digits (written by tools/tkb.py). -/
set_option linter.unusedVariables false
set_option maxRecDepth 100000
namespace Go.Proofs.YtlgjjklikbpcoaaGreatDoor
namespace SX
open Go Go.Proofs
def lowI (n : Int) : Int := bits .or .u8 n 32
theorem lower_ok (n : Int) : CtrV Tryz.prog 262 [.i .u8 n] (.i .u8 (lowI n)) := by
  refine Ctr.enterV tabOkF (fn := Tryz.f262) rfl rfl rfl rfl rfl rfl ?_
  exact rfl
def digOk (n : Nat) : Bool :=
  if decide (48 ≤ (n : Int)) && decide ((n : Int) ≤ 57) then decide (IntKind.u8.wrap ((n : Int) - 48) = (digV n : Int))
  else if numB n then (decide (97 ≤ lowI n) && decide (lowI n ≤ 122)) && decide (IntKind.u8.wrap (IntKind.u8.wrap (lowI n - 97) + 10) = (digV n : Int)) else true
theorem digOk_all : ∀ n : Fin 256, digOk n.val = true := by decide +kernel
theorem dig_num {c : UInt8} (h : (decide (48 ≤ (c.toNat : Int)) && decide ((c.toNat : Int) ≤ 57)) = true) : IntKind.u8.wrap ((c.toNat : Int) - 48) = (digV c.toNat : Int) := by
  have := digOk_all ⟨c.toNat, c.toNat_lt⟩
  unfold digOk at this
  simp only [h, if_true, decide_eq_true_eq] at this
  exact this
theorem dig_let {c : UInt8} (hn : numB (c.toNat : Int) = true) (h : (decide (48 ≤ (c.toNat : Int)) && decide ((c.toNat : Int) ≤ 57)) = false) :
    (decide (97 ≤ lowI c.toNat) && decide (lowI c.toNat ≤ 122)) = true ∧ IntKind.u8.wrap (IntKind.u8.wrap (lowI c.toNat - 97) + 10) = (digV c.toNat : Int) := by
  have := digOk_all ⟨c.toNat, c.toNat_lt⟩
  unfold digOk at this
  simp only [h, hn, if_true, Bool.false_eq_true, if_false, Bool.and_eq_true, decide_eq_true_eq] at this
  simp only [Bool.and_eq_true, decide_eq_true_eq]
  exact this
theorem valB_snoc {b : Nat} : ∀ {l : List UInt8} {c : UInt8} {a n : Nat}, valB b l a = some n → valB b (l ++ [c]) a = if digV c.toNat < b then some (n * b + digV c.toNat) else none
  | [], c, a, n, h => by simp only [valB, Option.some.injEq] at h; subst h; simp [valB]
  | x :: l, c, a, n, h => by
    simp only [valB, List.cons_append] at h ⊢
    split at h
    · rename_i hx; rw [if_pos hx]; exact valB_snoc h
    · cases h
theorem valB_none {b : Nat} : ∀ {l r : List UInt8} {a : Nat}, valB b l a = none → valB b (l ++ r) a = none
  | [], r, a, h => by simp [valB] at h
  | x :: l, r, a, h => by
    simp only [valB, List.cons_append] at h ⊢
    split at h
    · rename_i hx; rw [if_pos hx]; exact valB_none h
    · rename_i hx; rw [if_neg hx]
theorem take_snoc {s : List UInt8} {i : Nat} (hi : i < s.length) : s.take (i + 1) = s.take i ++ [s.getD i 0] := by
  rw [List.take_add_one]
  simp [List.getElem?_eq_getElem hi, List.getD_eq_getElem?_getD]
theorem valB_next {b : Nat} {s : List UInt8} {i n : Nat} (hi : i < s.length) (h : valB b (s.take i) 0 = some n) (hd : digV (s.getD i 0).toNat < b) : valB b (s.take (i + 1)) 0 = some (n * b + digV (s.getD i 0).toNat) := by
  rw [take_snoc hi, valB_snoc h, if_pos hd]
theorem valB_bad {b : Nat} {s : List UInt8} {i n : Nat} (hi : i < s.length) (h : valB b (s.take i) 0 = some n) (hd : ¬ digV (s.getD i 0).toNat < b) : valB b s 0 = none := by
  have h1 : valB b (s.take (i + 1)) 0 = none := by rw [take_snoc hi, valB_snoc h, if_neg hd]
  have := valB_none (r := s.drop (i + 1)) h1
  rwa [List.take_append_drop] at this
def puF (b : Nat) (s : List UInt8) : Option Nat := if s = [] then none else valB b s 0
def puV : Option Nat → SV
  | some n => .tup [.i .u64 n, .raw .nilIface]
  | none => .tup [.i .u64 0, .iface 277 (.i .i64 2)]
theorem wu64 {x : Int} (h1 : 0 ≤ x) (h2 : x ≤ 18446744073709551615) : IntKind.u64.wrap x = x := IntWalk.u64_in x ⟨h1, h2⟩

set_option maxHeartbeats 4000000 in
theorem ipu10_ok (s : List UInt8) (hn : ∀ c ∈ s, numB (c.toNat : Int) = true) (hl : s.length ≤ 19) : CtrV Tryz.prog 201 [.s s, .i .i64 10, .i .i64 64] (puV (puF 10 s)) := by
  refine Ctr.enterV tabOkF (fn := Tryz.f201) rfl rfl rfl rfl rfl (by unfold puV; split <;> rfl) ?_
  refine ⟨fun h => ?_, fun h => ?_⟩
  · have h : s = [] := of_decide_eq_true h
    subst h; rfl
  have hne : s ≠ [] := of_decide_eq_false h
  have hpu : puF 10 s = valB 10 s 0 := by unfold puF; rw [if_neg hne]
  refine ⟨fun _ => ?_, fun h => absurd h (by decide)⟩
  refine ⟨fun h => absurd h (by decide), fun _ => ?_⟩
  refine ⟨fun h => absurd h (by decide), fun _ => ?_⟩
  refine ⟨fun _ => ?_, fun h => absurd h (by decide)⟩
  refine ⟨fun _ => by decide, ?_⟩
  refine OpC.bytes tabOkF rfl rfl rfl rfl rfl rfl rfl rfl rfl fun ad cap => ?_
  refine WpC.loop tabOkF (β := Nat × Nat) (fun x => x.1 ≤ s.length ∧ valB 10 (s.take x.1) 0 = some x.2 ∧ x.2 < 10 ^ x.1) (fun x => [(13, .i .u64 x.2), (101, .i .i64 x.1), (12, .b false)]) (fun _ => []) (fun x => s.length - x.1) (0, 0) 23384026197294446688723656123004069511501514518720 ⟨Nat.zero_le _, rfl, by decide⟩ ?_ ?_
  · exact ⟨rfl, ⟨⟨rfl, rfl, rfl⟩, ⟨rfl, rfl, rfl⟩, ⟨rfl, rfl, rfl⟩, trivial⟩, ⟨[], rfl⟩, trivial, rfl⟩
  · rintro ⟨i, n⟩ ⟨hi, hv, hlt⟩
    simp only at hi hv hlt
    refine ⟨fun h2 => ?_, fun h2 => ?_⟩
    · have h2 : i < s.length := by
        have h2 : decide ((i : Int) < s.length) = true := h2
        simpa using h2
      have hpw : 10 ^ i ≤ 1000000000000000000 := by
        have : 10 ^ i ≤ 10 ^ 18 := Nat.pow_le_pow_right (by decide) (by omega)
        exact Nat.le_trans this (by decide)
      have hmem : numB ((s.getD i 0).toNat : Int) = true := hn _ (by
        rw [List.getD_eq_getElem?_getD, List.getElem?_eq_getElem h2]; exact List.getElem_mem h2)
      refine ⟨fun _ => ⟨by omega, by omega⟩, ?_⟩
      refine ⟨fun h3 => ?_, fun _ => ?_⟩
      · exfalso
        have h3 : (decide (((s.getD i 0).toNat : Int) = 95) && decide ((10 : Int) = 0)) = true := h3
        simp at h3
      have fin : ∀ D : Int, D = (digV (s.getD i 0).toNat : Int) → digV (s.getD i 0).toNat < 10 → IntKind.u64.wrap (IntKind.u64.wrap ((n : Int) * IntKind.u64.wrap 10) + IntKind.u64.wrap D) = ((n * 10 + digV (s.getD i 0).toNat : Nat) : Int) ∧ IntKind.u64.wrap ((n : Int) * IntKind.u64.wrap 10) = ((n * 10 : Nat) : Int) := by
        intro D hD hd
        have e1 : IntKind.u64.wrap 10 = 10 := rfl
        have e2 : IntKind.u64.wrap ((n : Int) * 10) = (n : Int) * 10 := wu64 (by omega) (by omega)
        have e3 : IntKind.u64.wrap D = D := wu64 (by omega) (by omega)
        rw [e1, e2, e3, wu64 (by omega) (by omega), hD]
        exact ⟨by push_cast; rfl, by push_cast; rfl⟩
      refine ⟨fun h4 => ?_, fun h4 => ?_⟩
      · have h4 : (decide (48 ≤ ((s.getD i 0).toNat : Int)) && decide (((s.getD i 0).toNat : Int) ≤ 57)) = true := h4
        have hD := dig_num h4
        refine ⟨fun h5 => ?_, fun h5 => ?_⟩
        · have h5 : decide (IntKind.u8.wrap 10 ≤ IntKind.u8.wrap (((s.getD i 0).toNat : Int) - 48)) = true := h5
          have h5 := of_decide_eq_true h5
          have e8 : IntKind.u8.wrap 10 = 10 := rfl
          rw [e8, hD] at h5
          show _ = puV (puF 10 s)
          rw [hpu, valB_bad h2 hv (by omega)]
          rfl
        · have h5 : decide (IntKind.u8.wrap 10 ≤ IntKind.u8.wrap (((s.getD i 0).toNat : Int) - 48)) = false := h5
          have h5 := of_decide_eq_false h5
          have e8 : IntKind.u8.wrap 10 = 10 := rfl
          rw [e8, hD] at h5
          have hd : digV (s.getD i 0).toNat < 10 := by omega
          obtain ⟨f1, f2⟩ := fin _ hD hd
          refine ⟨fun h6 => ?_, fun _ => ⟨fun h7 => ?_, fun _ => ?_⟩⟩
          · have h6 : decide ((1844674407370955162 : Int) ≤ n) = true := h6
            have h6 := of_decide_eq_true h6
            omega
          · exfalso
            have h7 : (decide (IntKind.u64.wrap (IntKind.u64.wrap ((n : Int) * IntKind.u64.wrap 10) + IntKind.u64.wrap (IntKind.u8.wrap (((s.getD i 0).toNat : Int) - 48))) < IntKind.u64.wrap ((n : Int) * IntKind.u64.wrap 10)) || decide ((18446744073709551615 : Int) < IntKind.u64.wrap (IntKind.u64.wrap ((n : Int) * IntKind.u64.wrap 10) + IntKind.u64.wrap (IntKind.u8.wrap (((s.getD i 0).toNat : Int) - 48))))) = true := h7
            rw [f1, f2] at h7
            simp only [Bool.or_eq_true, decide_eq_true_eq] at h7
            omega
          · refine ⟨(i + 1, n * 10 + digV (s.getD i 0).toNat), ⟨h2, valB_next h2 hv hd, ?_⟩, by show s.length - (i + 1) < s.length - i; omega, rfl, ⟨⟨?_, rfl, rfl⟩, ⟨?_, rfl, rfl⟩, ⟨rfl, rfl, rfl⟩, trivial⟩, ⟨[], rfl⟩, trivial, rfl⟩
            · show n * 10 + digV (s.getD i 0).toNat < 10 ^ (i + 1)
              rw [Nat.pow_succ]; omega
            · exact congrArg (SV.i .u64) f1
            · show SV.i .i64 (IntKind.i64.wrap ((i : Int) + 1)) = SV.i .i64 ((i + 1 : Nat) : Int)
              rw [w64 (by omega) (by omega)]; rfl
      · have h4 : (decide (48 ≤ ((s.getD i 0).toNat : Int)) && decide (((s.getD i 0).toNat : Int) ≤ 57)) = false := h4
        obtain ⟨hD1, hD⟩ := dig_let hmem h4
        refine OpC.callV rfl rfl rfl rfl rfl rfl rfl (fun _ => lower_ok _) ?_
        refine OpC.callV rfl rfl rfl rfl rfl rfl rfl (fun _ => lower_ok _) ?_
        refine ⟨fun _ => ?_, fun h5 => absurd (hD1.symm.trans h5) (by decide)⟩
        refine OpC.callV rfl rfl rfl rfl rfl rfl rfl (fun _ => lower_ok _) ?_
        refine ⟨fun h5 => ?_, fun h5 => ?_⟩
        · have h5 : decide (IntKind.u8.wrap 10 ≤ IntKind.u8.wrap (IntKind.u8.wrap (lowI ((s.getD i 0).toNat : Int) - 97) + 10)) = true := h5
          have h5 := of_decide_eq_true h5
          have e8 : IntKind.u8.wrap 10 = 10 := rfl
          rw [e8, hD] at h5
          show _ = puV (puF 10 s)
          rw [hpu, valB_bad h2 hv (by omega)]
          rfl
        · have h5 : decide (IntKind.u8.wrap 10 ≤ IntKind.u8.wrap (IntKind.u8.wrap (lowI ((s.getD i 0).toNat : Int) - 97) + 10)) = false := h5
          have h5 := of_decide_eq_false h5
          have e8 : IntKind.u8.wrap 10 = 10 := rfl
          rw [e8, hD] at h5
          have hd : digV (s.getD i 0).toNat < 10 := by omega
          obtain ⟨f1, f2⟩ := fin _ hD hd
          refine ⟨fun h6 => ?_, fun _ => ⟨fun h7 => ?_, fun _ => ?_⟩⟩
          · have h6 : decide ((1844674407370955162 : Int) ≤ n) = true := h6
            have h6 := of_decide_eq_true h6
            omega
          · exfalso
            have h7 : (decide (IntKind.u64.wrap (IntKind.u64.wrap ((n : Int) * IntKind.u64.wrap 10) + IntKind.u64.wrap (IntKind.u8.wrap (IntKind.u8.wrap (lowI ((s.getD i 0).toNat : Int) - 97) + 10))) < IntKind.u64.wrap ((n : Int) * IntKind.u64.wrap 10)) || decide ((18446744073709551615 : Int) < IntKind.u64.wrap (IntKind.u64.wrap ((n : Int) * IntKind.u64.wrap 10) + IntKind.u64.wrap (IntKind.u8.wrap (IntKind.u8.wrap (lowI ((s.getD i 0).toNat : Int) - 97) + 10))))) = true := h7
            rw [f1, f2] at h7
            simp only [Bool.or_eq_true, decide_eq_true_eq] at h7
            omega
          · refine ⟨(i + 1, n * 10 + digV (s.getD i 0).toNat), ⟨h2, valB_next h2 hv hd, ?_⟩, by show s.length - (i + 1) < s.length - i; omega, rfl, ⟨⟨?_, rfl, rfl⟩, ⟨?_, rfl, rfl⟩, ⟨rfl, rfl, rfl⟩, trivial⟩, ⟨[], rfl⟩, trivial, rfl⟩
            · show n * 10 + digV (s.getD i 0).toNat < 10 ^ (i + 1)
              rw [Nat.pow_succ]; omega
            · exact congrArg (SV.i .u64) f1
            · show SV.i .i64 (IntKind.i64.wrap ((i : Int) + 1)) = SV.i .i64 ((i + 1 : Nat) : Int)
              rw [w64 (by omega) (by omega)]; rfl
    · have h2 : i = s.length := by
        have h2 : decide ((i : Int) < s.length) = false := h2
        simp at h2; omega
      subst h2
      rw [List.take_length] at hv
      refine OpC.callV rfl rfl rfl rfl rfl rfl rfl (r := .b true) (fun hg => (by cases hg)) ?_
      refine ⟨fun h => (by cases h), fun _ => ?_⟩
      show _ = puV (puF 10 s)
      rw [hpu, hv]
      rfl

set_option maxHeartbeats 4000000 in
theorem ipu16_ok (s : List UInt8) (hn : ∀ c ∈ s, numB (c.toNat : Int) = true) (hl : s.length ≤ 16) : CtrV Tryz.prog 201 [.s s, .i .i64 16, .i .i64 64] (puV (puF 16 s)) := by
  refine Ctr.enterV tabOkF (fn := Tryz.f201) rfl rfl rfl rfl rfl (by unfold puV; split <;> rfl) ?_
  refine ⟨fun h => ?_, fun h => ?_⟩
  · have h : s = [] := of_decide_eq_true h
    subst h; rfl
  have hne : s ≠ [] := of_decide_eq_false h
  have hpu : puF 16 s = valB 16 s 0 := by unfold puF; rw [if_neg hne]
  refine ⟨fun _ => ?_, fun h => absurd h (by decide)⟩
  refine ⟨fun h => absurd h (by decide), fun _ => ?_⟩
  refine ⟨fun h => absurd h (by decide), fun _ => ?_⟩
  refine ⟨fun h => absurd h (by decide), fun _ => ?_⟩
  refine ⟨fun _ => ?_, fun h => absurd h (by decide)⟩
  refine ⟨fun _ => by decide, ?_⟩
  refine OpC.bytes tabOkF rfl rfl rfl rfl rfl rfl rfl rfl rfl fun ad cap => ?_
  refine WpC.loop tabOkF (β := Nat × Nat) (fun x => x.1 ≤ s.length ∧ valB 16 (s.take x.1) 0 = some x.2 ∧ x.2 < 16 ^ x.1) (fun x => [(13, .i .u64 x.2), (101, .i .i64 x.1), (12, .b false)]) (fun _ => []) (fun x => s.length - x.1) (0, 0) 23384026197294446688723656123004069511501514518720 ⟨Nat.zero_le _, rfl, by decide⟩ ?_ ?_
  · exact ⟨rfl, ⟨⟨rfl, rfl, rfl⟩, ⟨rfl, rfl, rfl⟩, ⟨rfl, rfl, rfl⟩, trivial⟩, ⟨[], rfl⟩, trivial, rfl⟩
  · rintro ⟨i, n⟩ ⟨hi, hv, hlt⟩
    simp only at hi hv hlt
    refine ⟨fun h2 => ?_, fun h2 => ?_⟩
    · have h2 : i < s.length := by
        have h2 : decide ((i : Int) < s.length) = true := h2
        simpa using h2
      have hpw : 16 ^ i ≤ 1152921504606846976 := by
        have : 16 ^ i ≤ 16 ^ 15 := Nat.pow_le_pow_right (by decide) (by omega)
        exact Nat.le_trans this (by decide)
      have hmem : numB ((s.getD i 0).toNat : Int) = true := hn _ (by
        rw [List.getD_eq_getElem?_getD, List.getElem?_eq_getElem h2]; exact List.getElem_mem h2)
      refine ⟨fun _ => ⟨by omega, by omega⟩, ?_⟩
      refine ⟨fun h3 => ?_, fun _ => ?_⟩
      · exfalso
        have h3 : (decide (((s.getD i 0).toNat : Int) = 95) && decide ((16 : Int) = 0)) = true := h3
        simp at h3
      have fin : ∀ D : Int, D = (digV (s.getD i 0).toNat : Int) → digV (s.getD i 0).toNat < 16 → IntKind.u64.wrap (IntKind.u64.wrap ((n : Int) * IntKind.u64.wrap 16) + IntKind.u64.wrap D) = ((n * 16 + digV (s.getD i 0).toNat : Nat) : Int) ∧ IntKind.u64.wrap ((n : Int) * IntKind.u64.wrap 16) = ((n * 16 : Nat) : Int) := by
        intro D hD hd
        have e1 : IntKind.u64.wrap 16 = 16 := rfl
        have e2 : IntKind.u64.wrap ((n : Int) * 16) = (n : Int) * 16 := wu64 (by omega) (by omega)
        have e3 : IntKind.u64.wrap D = D := wu64 (by omega) (by omega)
        rw [e1, e2, e3, wu64 (by omega) (by omega), hD]
        exact ⟨by push_cast; rfl, by push_cast; rfl⟩
      refine ⟨fun h4 => ?_, fun h4 => ?_⟩
      · have h4 : (decide (48 ≤ ((s.getD i 0).toNat : Int)) && decide (((s.getD i 0).toNat : Int) ≤ 57)) = true := h4
        have hD := dig_num h4
        refine ⟨fun h5 => ?_, fun h5 => ?_⟩
        · have h5 : decide (IntKind.u8.wrap 16 ≤ IntKind.u8.wrap (((s.getD i 0).toNat : Int) - 48)) = true := h5
          have h5 := of_decide_eq_true h5
          have e8 : IntKind.u8.wrap 16 = 16 := rfl
          rw [e8, hD] at h5
          show _ = puV (puF 16 s)
          rw [hpu, valB_bad h2 hv (by omega)]
          rfl
        · have h5 : decide (IntKind.u8.wrap 16 ≤ IntKind.u8.wrap (((s.getD i 0).toNat : Int) - 48)) = false := h5
          have h5 := of_decide_eq_false h5
          have e8 : IntKind.u8.wrap 16 = 16 := rfl
          rw [e8, hD] at h5
          have hd : digV (s.getD i 0).toNat < 16 := by omega
          obtain ⟨f1, f2⟩ := fin _ hD hd
          refine ⟨fun h6 => ?_, fun _ => ⟨fun h7 => ?_, fun _ => ?_⟩⟩
          · have h6 : decide ((1152921504606846976 : Int) ≤ n) = true := h6
            have h6 := of_decide_eq_true h6
            omega
          · exfalso
            have h7 : (decide (IntKind.u64.wrap (IntKind.u64.wrap ((n : Int) * IntKind.u64.wrap 16) + IntKind.u64.wrap (IntKind.u8.wrap (((s.getD i 0).toNat : Int) - 48))) < IntKind.u64.wrap ((n : Int) * IntKind.u64.wrap 16)) || decide ((18446744073709551615 : Int) < IntKind.u64.wrap (IntKind.u64.wrap ((n : Int) * IntKind.u64.wrap 16) + IntKind.u64.wrap (IntKind.u8.wrap (((s.getD i 0).toNat : Int) - 48))))) = true := h7
            rw [f1, f2] at h7
            simp only [Bool.or_eq_true, decide_eq_true_eq] at h7
            omega
          · refine ⟨(i + 1, n * 16 + digV (s.getD i 0).toNat), ⟨h2, valB_next h2 hv hd, ?_⟩, by show s.length - (i + 1) < s.length - i; omega, rfl, ⟨⟨?_, rfl, rfl⟩, ⟨?_, rfl, rfl⟩, ⟨rfl, rfl, rfl⟩, trivial⟩, ⟨[], rfl⟩, trivial, rfl⟩
            · show n * 16 + digV (s.getD i 0).toNat < 16 ^ (i + 1)
              rw [Nat.pow_succ]; omega
            · exact congrArg (SV.i .u64) f1
            · show SV.i .i64 (IntKind.i64.wrap ((i : Int) + 1)) = SV.i .i64 ((i + 1 : Nat) : Int)
              rw [w64 (by omega) (by omega)]; rfl
      · have h4 : (decide (48 ≤ ((s.getD i 0).toNat : Int)) && decide (((s.getD i 0).toNat : Int) ≤ 57)) = false := h4
        obtain ⟨hD1, hD⟩ := dig_let hmem h4
        refine OpC.callV rfl rfl rfl rfl rfl rfl rfl (fun _ => lower_ok _) ?_
        refine OpC.callV rfl rfl rfl rfl rfl rfl rfl (fun _ => lower_ok _) ?_
        refine ⟨fun _ => ?_, fun h5 => absurd (hD1.symm.trans h5) (by decide)⟩
        refine OpC.callV rfl rfl rfl rfl rfl rfl rfl (fun _ => lower_ok _) ?_
        refine ⟨fun h5 => ?_, fun h5 => ?_⟩
        · have h5 : decide (IntKind.u8.wrap 16 ≤ IntKind.u8.wrap (IntKind.u8.wrap (lowI ((s.getD i 0).toNat : Int) - 97) + 10)) = true := h5
          have h5 := of_decide_eq_true h5
          have e8 : IntKind.u8.wrap 16 = 16 := rfl
          rw [e8, hD] at h5
          show _ = puV (puF 16 s)
          rw [hpu, valB_bad h2 hv (by omega)]
          rfl
        · have h5 : decide (IntKind.u8.wrap 16 ≤ IntKind.u8.wrap (IntKind.u8.wrap (lowI ((s.getD i 0).toNat : Int) - 97) + 10)) = false := h5
          have h5 := of_decide_eq_false h5
          have e8 : IntKind.u8.wrap 16 = 16 := rfl
          rw [e8, hD] at h5
          have hd : digV (s.getD i 0).toNat < 16 := by omega
          obtain ⟨f1, f2⟩ := fin _ hD hd
          refine ⟨fun h6 => ?_, fun _ => ⟨fun h7 => ?_, fun _ => ?_⟩⟩
          · have h6 : decide ((1152921504606846976 : Int) ≤ n) = true := h6
            have h6 := of_decide_eq_true h6
            omega
          · exfalso
            have h7 : (decide (IntKind.u64.wrap (IntKind.u64.wrap ((n : Int) * IntKind.u64.wrap 16) + IntKind.u64.wrap (IntKind.u8.wrap (IntKind.u8.wrap (lowI ((s.getD i 0).toNat : Int) - 97) + 10))) < IntKind.u64.wrap ((n : Int) * IntKind.u64.wrap 16)) || decide ((18446744073709551615 : Int) < IntKind.u64.wrap (IntKind.u64.wrap ((n : Int) * IntKind.u64.wrap 16) + IntKind.u64.wrap (IntKind.u8.wrap (IntKind.u8.wrap (lowI ((s.getD i 0).toNat : Int) - 97) + 10))))) = true := h7
            rw [f1, f2] at h7
            simp only [Bool.or_eq_true, decide_eq_true_eq] at h7
            omega
          · refine ⟨(i + 1, n * 16 + digV (s.getD i 0).toNat), ⟨h2, valB_next h2 hv hd, ?_⟩, by show s.length - (i + 1) < s.length - i; omega, rfl, ⟨⟨?_, rfl, rfl⟩, ⟨?_, rfl, rfl⟩, ⟨rfl, rfl, rfl⟩, trivial⟩, ⟨[], rfl⟩, trivial, rfl⟩
            · show n * 16 + digV (s.getD i 0).toNat < 16 ^ (i + 1)
              rw [Nat.pow_succ]; omega
            · exact congrArg (SV.i .u64) f1
            · show SV.i .i64 (IntKind.i64.wrap ((i : Int) + 1)) = SV.i .i64 ((i + 1 : Nat) : Int)
              rw [w64 (by omega) (by omega)]; rfl
    · have h2 : i = s.length := by
        have h2 : decide ((i : Int) < s.length) = false := h2
        simp at h2; omega
      subst h2
      rw [List.take_length] at hv
      refine OpC.callV rfl rfl rfl rfl rfl rfl rfl (r := .b true) (fun hg => (by cases hg)) ?_
      refine ⟨fun h => (by cases h), fun _ => ?_⟩
      show _ = puV (puF 16 s)
      rw [hpu, hv]
      rfl
end SX
end Go.Proofs.YtlgjjklikbpcoaaGreatDoor

/- The laying of a contract of the shelf at this program. -/
set_option maxRecDepth 100000
namespace Go.Proofs
open Go.Shelf
def Tryz.TIdx_ren : Go.Shelf.Ren := ⟨fun | 143 => 55 | 219 => 123 | 217 => 127 | 225 => 197 | 224 => 198 | 267 => 199 | 266 => 203 | 314 => 261 | n => n, fun | 9 => 9 | 3 => 3 | 4 => 4 | 5 => 5 | 46 => 233 | 146 => 275 | 51 => 274 | n => n, fun | 1 => 0 | n => n⟩
theorem Tryz.TIdx : Go.Proofs.Lays.n143 Tryz.prog Tryz.TIdx_ren := {
  mixed := by kernel_rfl
  f143 := Tryz.func55.trans (congrArg some (by kernel_rfl))
  f217 := Tryz.func127.trans (congrArg some (by kernel_rfl))
  f219 := Tryz.func123.trans (congrArg some (by kernel_rfl))
  f224 := Tryz.func198.trans (congrArg some (by kernel_rfl))
  f225 := Tryz.func197.trans (congrArg some (by kernel_rfl))
  f266 := Tryz.func203.trans (congrArg some (by kernel_rfl))
  f267 := Tryz.func199.trans (congrArg some (by kernel_rfl))
  f314 := Tryz.func261.trans (congrArg some (by kernel_rfl))
  t3 := Tryz.underlying3
  a3 := Tryz.isAgg3
  z3 := Tryz.sizeOf3
  v3 := Tryz.zeroValue3
  t4 := Tryz.underlying4
  a4 := Tryz.isAgg4
  z4 := Tryz.sizeOf4
  v4 := Tryz.zeroValue4
  t5 := Tryz.underlying5
  a5 := Tryz.isAgg5
  z5 := Tryz.sizeOf5
  v5 := Tryz.zeroValue5
  t9 := Tryz.underlying9
  a9 := Tryz.isAgg9
  z9 := Tryz.sizeOf9
  v9 := Tryz.zeroValue9
  t46 := Tryz.underlying233
  a46 := Tryz.isAgg233
  z46 := Tryz.sizeOf233
  v46 := Tryz.zeroValue233
  t51 := Tryz.underlying274
  a51 := Tryz.isAgg274
  z51 := Tryz.sizeOf274
  v51 := Tryz.zeroValue274
  t146 := Tryz.underlying275
  a146 := Tryz.isAgg275
  z146 := Tryz.sizeOf275
  v146 := Tryz.zeroValue275
  g1 := by kernel_rfl }
end Go.Proofs

/- The laying of a contract of the shelf at this program. -/
set_option maxRecDepth 100000
namespace Go.Proofs
open Go.Shelf
def Tryz.TCon_ren : Go.Shelf.Ren := ⟨fun | 144 => 125 | 143 => 55 | 219 => 123 | 217 => 127 | 225 => 197 | 224 => 198 | 267 => 199 | 266 => 203 | 314 => 261 | n => n, fun | 9 => 9 | 4 => 4 | 3 => 3 | 5 => 5 | 46 => 233 | 146 => 275 | 51 => 274 | n => n, fun | 1 => 0 | n => n⟩
theorem Tryz.TCon : Go.Proofs.Lays.n144 Tryz.prog Tryz.TCon_ren := {
  mixed := by kernel_rfl
  f143 := Tryz.func55.trans (congrArg some (by kernel_rfl))
  f144 := Tryz.func125.trans (congrArg some (by kernel_rfl))
  f217 := Tryz.func127.trans (congrArg some (by kernel_rfl))
  f219 := Tryz.func123.trans (congrArg some (by kernel_rfl))
  f224 := Tryz.func198.trans (congrArg some (by kernel_rfl))
  f225 := Tryz.func197.trans (congrArg some (by kernel_rfl))
  f266 := Tryz.func203.trans (congrArg some (by kernel_rfl))
  f267 := Tryz.func199.trans (congrArg some (by kernel_rfl))
  f314 := Tryz.func261.trans (congrArg some (by kernel_rfl))
  t3 := Tryz.underlying3
  a3 := Tryz.isAgg3
  z3 := Tryz.sizeOf3
  v3 := Tryz.zeroValue3
  t4 := Tryz.underlying4
  a4 := Tryz.isAgg4
  z4 := Tryz.sizeOf4
  v4 := Tryz.zeroValue4
  t5 := Tryz.underlying5
  a5 := Tryz.isAgg5
  z5 := Tryz.sizeOf5
  v5 := Tryz.zeroValue5
  t9 := Tryz.underlying9
  a9 := Tryz.isAgg9
  z9 := Tryz.sizeOf9
  v9 := Tryz.zeroValue9
  t46 := Tryz.underlying233
  a46 := Tryz.isAgg233
  z46 := Tryz.sizeOf233
  v46 := Tryz.zeroValue233
  t51 := Tryz.underlying274
  a51 := Tryz.isAgg274
  z51 := Tryz.sizeOf274
  v51 := Tryz.zeroValue274
  t146 := Tryz.underlying275
  a146 := Tryz.isAgg275
  z146 := Tryz.sizeOf275
  v146 := Tryz.zeroValue275
  g1 := by kernel_rfl }
end Go.Proofs

/- The laying of a contract of the shelf at this program. -/
set_option maxRecDepth 100000
namespace Go.Proofs
open Go.Shelf
def Tryz.TIxb_ren : Go.Shelf.Ren := ⟨fun | 137 => 62 | 217 => 127 | 266 => 203 | n => n, fun | 9 => 9 | 5 => 5 | 3 => 3 | n => n, fun | n => n⟩
theorem Tryz.TIxb : Go.Proofs.Lays.n137 Tryz.prog Tryz.TIxb_ren := {
  mixed := by kernel_rfl
  f137 := Tryz.func62.trans (congrArg some (by kernel_rfl))
  f217 := Tryz.func127.trans (congrArg some (by kernel_rfl))
  f266 := Tryz.func203.trans (congrArg some (by kernel_rfl))
  t3 := Tryz.underlying3
  a3 := Tryz.isAgg3
  z3 := Tryz.sizeOf3
  v3 := Tryz.zeroValue3
  t5 := Tryz.underlying5
  a5 := Tryz.isAgg5
  z5 := Tryz.sizeOf5
  v5 := Tryz.zeroValue5
  t9 := Tryz.underlying9
  a9 := Tryz.isAgg9
  z9 := Tryz.sizeOf9
  v9 := Tryz.zeroValue9 }
end Go.Proofs

/- The laying of a contract of the shelf at this program. -/
set_option maxRecDepth 100000
namespace Go.Proofs
open Go.Shelf
def Tryz.TErr_ren : Go.Shelf.Ren := ⟨fun | 17 => 202 | 21 => 264 | 22 => 265 | 23 => 266 | 24 => 267 | 25 => 289 | 27 => 93 | 26 => 290 | 28 => 171 | 29 => 251 | 30 => 283 | 31 => 284 | 32 => 285 | 33 => 286 | 35 => 305 | 34 => 307 | 36 => 308 | 37 => 309 | 38 => 310 | 39 => 318 | 40 => 319 | n => n, fun | 9 => 9 | 3 => 3 | 24 => 144 | 34 => 277 | 4 => 4 | 39 => 279 | 44 => 301 | 37 => 140 | 0 => 0 | 47 => 215 | 50 => 327 | 48 => 325 | 2 => 2 | 52 => 293 | 22 => 175 | 5 => 5 | 55 => 296 | 59 => 323 | 60 => 274 | 20 => 20 | 61 => 324 | 36 => 233 | 65 => 337 | 66 => 338 | 67 => 152 | n => n, fun | 0 => 3 | 1 => 4 | 2 => 5 | 3 => 6 | 4 => 7 | n => n⟩
theorem Tryz.TErr : Go.Proofs.LaysPu.n17 Tryz.prog Tryz.TErr_ren := {
  mixed := by kernel_rfl
  f17 := Tryz.func202.trans (congrArg some (by kernel_rfl))
  f21 := Tryz.func264.trans (congrArg some (by kernel_rfl))
  f22 := Tryz.func265.trans (congrArg some (by kernel_rfl))
  f23 := Tryz.func266.trans (congrArg some (by kernel_rfl))
  f24 := Tryz.func267.trans (congrArg some (by kernel_rfl))
  f25 := Tryz.func289.trans (congrArg some (by kernel_rfl))
  f26 := Tryz.func290.trans (congrArg some (by kernel_rfl))
  f27 := Tryz.func93.trans (congrArg some (by kernel_rfl))
  f28 := Tryz.func171.trans (congrArg some (by kernel_rfl))
  f29 := Tryz.func251.trans (congrArg some (by kernel_rfl))
  f30 := Tryz.func283.trans (congrArg some (by kernel_rfl))
  f31 := Tryz.func284.trans (congrArg some (by kernel_rfl))
  f32 := Tryz.func285.trans (congrArg some (by kernel_rfl))
  f33 := Tryz.func286.trans (congrArg some (by kernel_rfl))
  f34 := Tryz.func307.trans (congrArg some (by kernel_rfl))
  f35 := Tryz.func305.trans (congrArg some (by kernel_rfl))
  f36 := Tryz.func308.trans (congrArg some (by kernel_rfl))
  f37 := Tryz.func309.trans (congrArg some (by kernel_rfl))
  f38 := Tryz.func310.trans (congrArg some (by kernel_rfl))
  f39 := Tryz.func318.trans (congrArg some (by kernel_rfl))
  f40 := Tryz.func319.trans (congrArg some (by kernel_rfl))
  t0 := Tryz.underlying0
  a0 := Tryz.isAgg0
  z0 := Tryz.sizeOf0
  v0 := Tryz.zeroValue0
  i0 := by kernel_rfl
  t2 := Tryz.underlying2
  a2 := Tryz.isAgg2
  z2 := Tryz.sizeOf2
  v2 := Tryz.zeroValue2
  i2 := by kernel_rfl
  t3 := Tryz.underlying3
  a3 := Tryz.isAgg3
  z3 := Tryz.sizeOf3
  v3 := Tryz.zeroValue3
  i3 := by kernel_rfl
  t4 := Tryz.underlying4
  a4 := Tryz.isAgg4
  z4 := Tryz.sizeOf4
  v4 := Tryz.zeroValue4
  i4 := by kernel_rfl
  t5 := Tryz.underlying5
  a5 := Tryz.isAgg5
  z5 := Tryz.sizeOf5
  v5 := Tryz.zeroValue5
  i5 := by kernel_rfl
  t9 := Tryz.underlying9
  a9 := Tryz.isAgg9
  z9 := Tryz.sizeOf9
  v9 := Tryz.zeroValue9
  i9 := by kernel_rfl
  t20 := Tryz.underlying20
  a20 := Tryz.isAgg20
  z20 := Tryz.sizeOf20
  v20 := Tryz.zeroValue20
  i20 := by kernel_rfl
  t22 := Tryz.underlying175
  a22 := Tryz.isAgg175
  z22 := Tryz.sizeOf175
  v22 := Tryz.zeroValue175
  i22 := by kernel_rfl
  t24 := Tryz.underlying144
  a24 := Tryz.isAgg144
  z24 := Tryz.sizeOf144
  v24 := Tryz.zeroValue144
  i24 := by kernel_rfl
  t34 := Tryz.underlying277
  a34 := Tryz.isAgg277
  z34 := Tryz.sizeOf277
  v34 := Tryz.zeroValue277
  i34 := by kernel_rfl
  c34 := by kernel_rfl
  t36 := Tryz.underlying233
  a36 := Tryz.isAgg233
  z36 := Tryz.sizeOf233
  v36 := Tryz.zeroValue233
  i36 := by kernel_rfl
  t37 := Tryz.underlying140
  a37 := Tryz.isAgg140
  z37 := Tryz.sizeOf140
  v37 := Tryz.zeroValue140
  i37 := by kernel_rfl
  t39 := Tryz.underlying279
  a39 := Tryz.isAgg279
  z39 := Tryz.sizeOf279
  v39 := Tryz.zeroValue279
  i39 := by kernel_rfl
  t44 := Tryz.underlying301
  a44 := Tryz.isAgg301
  z44 := Tryz.sizeOf301
  v44 := Tryz.zeroValue301
  i44 := by kernel_rfl
  t47 := Tryz.underlying215
  a47 := Tryz.isAgg215
  z47 := Tryz.sizeOf215
  v47 := Tryz.zeroValue215
  i47 := by kernel_rfl
  t48 := Tryz.underlying325
  a48 := Tryz.isAgg325
  z48 := Tryz.sizeOf325
  v48 := Tryz.zeroValue325
  i48 := by kernel_rfl
  t50 := Tryz.underlying327
  a50 := Tryz.isAgg327
  z50 := Tryz.sizeOf327
  v50 := Tryz.zeroValue327
  i50 := by kernel_rfl
  t52 := Tryz.underlying293
  a52 := Tryz.isAgg293
  z52 := Tryz.sizeOf293
  v52 := Tryz.zeroValue293
  i52 := by kernel_rfl
  t55 := Tryz.underlying296
  a55 := Tryz.isAgg296
  z55 := Tryz.sizeOf296
  v55 := Tryz.zeroValue296
  i55 := by kernel_rfl
  t59 := Tryz.underlying323
  a59 := Tryz.isAgg323
  z59 := Tryz.sizeOf323
  v59 := Tryz.zeroValue323
  i59 := by kernel_rfl
  t60 := Tryz.underlying274
  a60 := Tryz.isAgg274
  z60 := Tryz.sizeOf274
  v60 := Tryz.zeroValue274
  i60 := by kernel_rfl
  t61 := Tryz.underlying324
  a61 := Tryz.isAgg324
  z61 := Tryz.sizeOf324
  t65 := Tryz.underlying337
  a65 := Tryz.isAgg337
  z65 := Tryz.sizeOf337
  v65 := Tryz.zeroValue337
  i65 := by kernel_rfl
  t66 := Tryz.underlying338
  a66 := Tryz.isAgg338
  z66 := Tryz.sizeOf338
  v66 := Tryz.zeroValue338
  i66 := by kernel_rfl
  t67 := Tryz.underlying152
  a67 := Tryz.isAgg152
  z67 := Tryz.sizeOf152
  v67 := Tryz.zeroValue152
  i67 := by kernel_rfl
  g0 := by kernel_rfl
  m0 := by kernel_rfl
  g1 := by kernel_rfl
  m1 := by kernel_rfl
  g2 := by kernel_rfl
  m2 := by kernel_rfl
  g3 := by kernel_rfl
  m3 := by kernel_rfl
  g4 := by kernel_rfl
  m4 := by kernel_rfl }
end Go.Proofs

/- Words of a text: contracts of the library; a number's value. -/
set_option linter.unusedVariables false
set_option maxRecDepth 100000
namespace Go.Proofs.YtlgjjklikbpcoaaGreatDoor
namespace SX
open Go Go.Proofs
theorem grow_zero (w : World) : Sort.grow (w.drewN 0) #[] = w := by simp [Sort.grow, World.drewN]
theorem maxlen_tab : tabs 0 = some (.anyI .i64) := by kernel_rfl
theorem maxlen_cell {w : World} (hT : TabsIn w) : ∃ n, w.cell? ⟨0, 0, none⟩ = some (.int .i64 n) := by
  obtain ⟨n, arr, t, fr, h1, h2⟩ := hT _ _ maxlen_tab
  have h1 : w.heap[0]? = some (.cells arr t fr) := h1
  exact ⟨n, by unfold World.cell?; simp only [h1]; simpa using h2⟩
theorem sIndex_ok (s p : List UInt8) (hs : s.length ≤ 100000) : CtrV Tryz.prog 55 [.s s, .s p] (.i .i64 (Lib.index s p)) :=
  CtrV.of_grow (fn := Tryz.f55) Tryz.func55 rfl rfl (fun m => trivial) rfl fun w hT E m _ => by
    obtain ⟨n, hm⟩ := maxlen_cell hT
    refine (Any.strings_Index Tryz.TIdx ⟨⟨s⟩⟩ ⟨⟨p⟩⟩ n w (by show s.length < 4294967281; omega) hm).mono ?_
    rintro e w' ⟨he, rfl⟩
    exact ⟨he, 0, #[], (grow_zero _).symm⟩
theorem sContains_ok (s p : List UInt8) (hs : s.length ≤ 100000) : CtrV Tryz.prog 125 [.s s, .s p] (.b (Lib.contains s p)) :=
  CtrV.of_grow (fn := Tryz.f125) Tryz.func125 rfl rfl (fun m => trivial) rfl fun w hT E m _ => by
    obtain ⟨n, hm⟩ := maxlen_cell hT
    refine (Any.strings_Contains Tryz.TCon ⟨⟨s⟩⟩ ⟨⟨p⟩⟩ n w (by show s.length < 4294967281; omega) hm).mono ?_
    rintro e w' ⟨he, rfl⟩
    exact ⟨he, 0, #[], (grow_zero _).symm⟩
theorem sIndexByte_ok (s : List UInt8) (c : Int) : CtrV Tryz.prog 62 [.s s, .i .u8 c] (.i .i64 (Lib.indexByte s c.toNat.toUInt8)) :=
  CtrV.of_grow (fn := Tryz.f62) Tryz.func62 rfl rfl (fun m => trivial) rfl fun w hT E m _ => by
    refine (Any.strings_IndexByte Tryz.TIxb ⟨⟨s⟩⟩ c w).mono ?_
    rintro e w' ⟨he, rfl⟩
    exact ⟨he, 0, #[], (grow_zero _).symm⟩
theorem no_mark {s : List UInt8} {c : UInt8} (h : c ∉ s) : Lib.contains s [c] = false := by
  have key : ∀ s : List UInt8, c ∉ s → Lib.indexByte s c = -1 := by
    intro s
    induction s with
    | nil => intro _; rfl
    | cons b l ih =>
      intro h
      simp only [List.mem_cons, not_or] at h
      unfold Lib.indexByte
      have hb : (b == c) = false := by simp; exact fun e => h.1 e.symm
      rw [hb, ih h.2]; rfl
  unfold Lib.contains
  rw [Lib.index_one, key s h]
  rfl
theorem drKeep_no : drKeep = false := rfl
theorem syn_tab : tabs 3 = some .ifc := by kernel_rfl
theorem toErr_ok (f s : List UInt8) (hs : s.length ≤ 100000) (b k : Int) : Ctr Tryz.prog 202 [.s f, .s s, .i .i64 b, .i .i64 k, .iface 277 (.i .i64 2)] [] (fun r h => (∃ v, r = .iface 279 (.raw v) ∧ cellV v = true) ∧ h = []) := by
  refine ⟨fun C E m w hr ha => ?_⟩
  have hrun : (callFunc 202 (denL E [.s f, .s s, .i .i64 b, .i .i64 k, .iface 277 (.i .i64 2)]).toArray).run Tryz.prog w = .ok (.enter 202 (denL E [.s f, .s s, .i .i64 b, .i .i64 k, .iface 277 (.i .i64 2)]).toArray) w :=
    enters_of Tryz.func202 (by kernel_rfl) rfl _ w
  obtain ⟨tt, v, t, fr, h1⟩ := hr.tabs _ _ syn_tab
  have h1 : w.heap[3]? = some (.cells #[.iface tt v] t fr) := h1
  have hc : w.cell? ⟨3, 0, none⟩ = some (.iface tt v) := by unfold World.cell?; simp only [h1]; rfl
  unfold callX
  rw [hrun]
  refine (AnyPu.strconv_toError_syntax Tryz.TErr ⟨⟨f⟩⟩ ⟨⟨s⟩⟩ b k (.iface tt v) w (by show s.length ≤ 281474976710656; omega) hc (.inr ⟨_, _, rfl⟩)).mono ?_
  rintro e w' ⟨N, rfl, _, _, hw⟩
  refine ⟨_, rfl, .iface 279 (.raw (.pointer (some ⟨N, 0, none⟩))), [], E, m, rfl, ⟨⟨_, rfl, rfl⟩, rfl⟩, ⟨?_, rfl⟩, .refl .., hr.below drKeep_no hw⟩
  simp [Ok, live]
def PuR (x : Option Nat) (r : SV) : Prop :=
  match x with
  | some n => r = .tup [.i .u64 n, .raw .nilIface]
  | none => ∃ v, r = .tup [.i .u64 0, .iface 279 (.raw v)] ∧ cellV v = true
theorem pu_of (b : Nat) (s : List UInt8) (hs : s.length ≤ 100000) (hi : CtrV Tryz.prog 201 [.s s, .i .i64 b, .i .i64 64] (puV (puF b s))) : Ctr Tryz.prog 126 [.s s, .i .i64 b, .i .i64 64] [] (fun r h => PuR (puF b s) r ∧ h = []) := by
  have key : Ctr Tryz.prog 126 [.s s, .i .i64 b, .i .i64 64] [] (fun r h => PuR (puF b s) r ∧ Bnd 0 r) := by
    refine Ctr.enter tabOkF (fn := Tryz.f126) rfl rfl rfl rfl rfl ?_
    cases hx : puF b s with
    | some n =>
      rw [hx] at hi
      refine OpC.callV rfl rfl rfl rfl rfl rfl rfl (fun _ => hi) ?_
      refine ⟨fun h => (by cases h), fun _ => ?_⟩
      exact ⟨rfl, rfl⟩
    | none =>
      rw [hx] at hi
      refine OpC.callV rfl rfl rfl rfl rfl rfl rfl (fun _ => hi) ?_
      refine ⟨fun _ => ?_, fun h => by cases h⟩
      refine OpC.callL rfl rfl rfl rfl [] 0 rfl rfl rfl (toErr_ok [80, 97, 114, 115, 101, 85, 105, 110, 116] s hs b 64) rfl rfl rfl rfl trivial rfl (fun r H' hk => ?_) ?_
      · rw [hk.2]; exact ⟨Nat.le_refl _, Nat.le_refl _⟩
      rintro r H' ⟨⟨v, rfl, hv⟩, rfl⟩
      exact ⟨⟨v, rfl, hv⟩, rfl⟩
  exact key.trim callX_m fun r H1 ⟨h1, h2⟩ => ⟨[], H1, rfl, Nat.zero_le _, trivial, h2, h1, rfl⟩
def NumR (x : Option Nat) (r : SV) : Prop :=
  match x with
  | some n => r = .tup [.i .i64 (IntKind.i64.wrap n), .b true]
  | none => ∃ v, r = .tup [.i .i64 v, .b false]
theorem numDs_mem {w : List UInt8} {c : UInt8} (h : c ∈ numDs w) : c ∈ w := by
  unfold numDs at h
  split at h
  · exact List.mem_of_mem_drop h
  · exact h
theorem numDs_len (w : List UInt8) : (numDs w).length ≤ w.length := by
  unfold numDs; split
  · simp
  · exact Nat.le_refl _
theorem pu_any (w : List UInt8) (hn : ∀ c ∈ w, numB (c.toNat : Int) = true) (hl : (numDs w).length ≤ numMost w) : CtrV Tryz.prog 201 [.s (numDs w), .i .i64 (numBase w), .i .i64 64] (puV (puF (numBase w) (numDs w))) := by
  unfold numBase numMost at *
  split at hl
  · rename_i h; simp only [h, if_true]; exact ipu16_ok _ (fun c hc => hn c (numDs_mem hc)) hl
  · rename_i h; simp only [h, if_false]; exact ipu10_ok _ (fun c hc => hn c (numDs_mem hc)) hl
theorem numF_eq {w : List UInt8} (hl : (numDs w).length ≤ numMost w) : numF w = (match puF (numBase w) (numDs w) with | none => none | some n => if n ≤ 9223372036854775808 then some n else none) := by
  unfold numF puF
  rw [if_neg (by omega)]
  split
  · rfl
  · rfl
theorem number_ok (w : List UInt8) (hn : ∀ c ∈ w, numB (c.toNat : Int) = true) (hw : w.length ≤ 10000) : Ctr Tryz.prog 60 [.s w] [] (fun r h => NumR (numF w) r ∧ h = []) := by
  have hnd := numDs_len w
  have hcon : Lib.contains (numDs w) [95] = false := no_mark fun h => by
    have := hn _ (numDs_mem h)
    exact absurd this (by decide)
  have key : Ctr Tryz.prog 60 [.s w] [] (fun r h => NumR (numF w) r ∧ Bnd 0 r) := by
    refine Ctr.enter tabOkF (fn := Tryz.f60) rfl rfl rfl rfl rfl ?_
    refine OpC.callV rfl rfl rfl rfl rfl rfl rfl (fun _ => cutPrefix_ok w [48, 120]) ?_
    cases hx : hexB w with
    | true =>
      have hp : pre w [48, 120] = true := hx
      have hds : cutP w [48, 120] = numDs w := by
        unfold cutP numDs; rw [hp, hx]; simp
      have hb : numBase w = 16 := by unfold numBase; rw [hx]; rfl
      have hm : numMost w = 16 := by unfold numMost; rw [hx]; rfl
      rw [hp, hds]
      refine ⟨fun _ => ?_, fun h => by cases h⟩
      refine OpC.callV rfl rfl rfl rfl rfl rfl rfl (fun _ => sContains_ok (numDs w) [95] (by omega)) ?_
      refine ⟨fun h => ?_, fun h => ?_⟩
      · have h : (decide ((16 : Int) < ((numDs w)).length) || Lib.contains (numDs w) [95]) = true := h
        rw [hcon, Bool.or_false] at h
        have h := of_decide_eq_true h
        have h0 : numF w = none := by unfold numF; rw [if_pos (by rw [hm]; omega)]
        rw [h0]
        exact ⟨⟨0, rfl⟩, rfl⟩
      · have h : (decide ((16 : Int) < ((numDs w)).length) || Lib.contains (numDs w) [95]) = false := h
        rw [hcon, Bool.or_false] at h
        have h := of_decide_eq_false h
        have hl : (numDs w).length ≤ numMost w := by rw [hm]; omega
        have hpu := pu_any w hn hl
        rw [hb] at hpu
        rw [numF_eq hl, hb]
        refine OpC.callL rfl rfl rfl rfl [] 0 rfl rfl rfl (pu_of 16 (numDs w) (by omega) hpu) rfl rfl rfl rfl trivial rfl (fun r H' hk => ?_) ?_
        · rw [hk.2]; exact ⟨Nat.le_refl _, Nat.le_refl _⟩
        rintro r H' ⟨hr, rfl⟩
        cases hx2 : puF 16 (numDs w) with
        | some n =>
          rw [hx2] at hr
          have hr : r = .tup [.i .u64 n, .raw .nilIface] := hr
          subst hr
          refine ⟨?_, rfl⟩
          by_cases h2 : n ≤ 9223372036854775808
          · have e : decide ((n : Int) ≤ 9223372036854775808) = true := decide_eq_true (by omega)
            show NumR (if n ≤ 9223372036854775808 then some n else none) (SV.tup [.i .i64 (IntKind.i64.wrap n), .b (true && decide ((n : Int) ≤ 9223372036854775808))])
            rw [if_pos h2, e]
            rfl
          · have e : decide ((n : Int) ≤ 9223372036854775808) = false := decide_eq_false (by omega)
            show NumR (if n ≤ 9223372036854775808 then some n else none) (SV.tup [.i .i64 (IntKind.i64.wrap n), .b (true && decide ((n : Int) ≤ 9223372036854775808))])
            rw [if_neg h2, e]
            exact ⟨_, rfl⟩
        | none =>
          rw [hx2] at hr
          obtain ⟨v, hr, _⟩ := hr
          subst hr
          exact ⟨⟨_, rfl⟩, rfl⟩
    | false =>
      have hp : pre w [48, 120] = false := hx
      have hds : numDs w = w := by unfold numDs; rw [hx]; rfl
      have hb : numBase w = 10 := by unfold numBase; rw [hx]; rfl
      have hm : numMost w = 19 := by unfold numMost; rw [hx]; rfl
      rw [hp]
      rw [hds] at hcon hnd
      refine ⟨fun h => (by cases h), fun _ => ?_⟩
      refine OpC.callV rfl rfl rfl rfl rfl rfl rfl (fun _ => sContains_ok w [95] (by omega)) ?_
      refine ⟨fun h => ?_, fun h => ?_⟩
      · have h : (decide ((19 : Int) < (w).length) || Lib.contains w [95]) = true := h
        rw [hcon, Bool.or_false] at h
        have h := of_decide_eq_true h
        have h0 : numF w = none := by unfold numF; rw [if_pos (by rw [hm, hds]; omega)]
        rw [h0]
        exact ⟨⟨0, rfl⟩, rfl⟩
      · have h : (decide ((19 : Int) < (w).length) || Lib.contains w [95]) = false := h
        rw [hcon, Bool.or_false] at h
        have h := of_decide_eq_false h
        have hl : (numDs w).length ≤ numMost w := by rw [hm, hds]; omega
        have hpu := pu_any w hn hl
        rw [hb, hds] at hpu
        rw [numF_eq hl, hb, hds]
        refine OpC.callL rfl rfl rfl rfl [] 0 rfl rfl rfl (pu_of 10 w (by omega) hpu) rfl rfl rfl rfl trivial rfl (fun r H' hk => ?_) ?_
        · rw [hk.2]; exact ⟨Nat.le_refl _, Nat.le_refl _⟩
        rintro r H' ⟨hr, rfl⟩
        cases hx2 : puF 10 w with
        | some n =>
          rw [hx2] at hr
          have hr : r = .tup [.i .u64 n, .raw .nilIface] := hr
          subst hr
          refine ⟨?_, rfl⟩
          by_cases h2 : n ≤ 9223372036854775808
          · have e : decide ((n : Int) ≤ 9223372036854775808) = true := decide_eq_true (by omega)
            show NumR (if n ≤ 9223372036854775808 then some n else none) (SV.tup [.i .i64 (IntKind.i64.wrap n), .b (true && decide ((n : Int) ≤ 9223372036854775808))])
            rw [if_pos h2, e]
            rfl
          · have e : decide ((n : Int) ≤ 9223372036854775808) = false := decide_eq_false (by omega)
            show NumR (if n ≤ 9223372036854775808 then some n else none) (SV.tup [.i .i64 (IntKind.i64.wrap n), .b (true && decide ((n : Int) ≤ 9223372036854775808))])
            rw [if_neg h2, e]
            exact ⟨_, rfl⟩
        | none =>
          rw [hx2] at hr
          obtain ⟨v, hr, _⟩ := hr
          subst hr
          exact ⟨⟨_, rfl⟩, rfl⟩
  exact key.trim callX_m fun r H1 ⟨h1, h2⟩ => ⟨[], H1, rfl, Nat.zero_le _, trivial, h2, h1, rfl⟩
end SX
end Go.Proofs.YtlgjjklikbpcoaaGreatDoor

/- Words of a text: the program's Tokens (written by tools/tkd.py). -/
set_option linter.unusedVariables false
set_option maxRecDepth 100000
namespace Go.Proofs.YtlgjjklikbpcoaaGreatDoor
namespace SX
open Go Go.Proofs
theorem tkenc_w (t : Tk) : wdL (tkenc t) = 4 := rfl
def rowK (N : Nat) (ts : List Tk) (ver : Nat) : SB := .mem 28 [.arr N Tk tk0 4 tkenc ts] ver 4
theorem bndTk {M N ver : Nat} {ts : List Tk} : BndB M (rowK N ts ver) := ⟨fun _ => rfl, trivial⟩
theorem mark_all : ∀ n : Fin 256, decide ((0 : Int) ≤ Lib.indexByte marksL (UInt8.ofNat n.val)) = decide (UInt8.ofNat n.val ∈ marksL) := by decide +kernel
theorem mark_ix (c : UInt8) : decide ((0 : Int) ≤ Lib.indexByte marksL ((c.toNat : Int).toNat.toUInt8)) = decide (c ∈ marksL) := by
  have h := mark_all ⟨c.toNat, c.toNat_lt⟩
  have e : UInt8.ofNat c.toNat = c := by simp
  simp only [e] at h
  have e2 : ((c.toNat : Int).toNat.toUInt8) = c := by simp
  rw [e2]; exact h
def TokK (s : List UInt8) (r : SV) (h : List SB) : Prop :=
  (∃ ts ver, tokF s = (ts, 0, 0) ∧ r = .tup [.sl 0 ver 0 ts.length none 0, .i .i64 0, .i .i64 0] ∧ h = [rowK ts.length ts ver]) ∨
  (∃ e p, tokF s = ([], e, p) ∧ e ≠ 0 ∧ r = .tup [.nils, .i .i64 e, .i .i64 p] ∧ h = [])
set_option maxHeartbeats 4000000 in
theorem tokens_ok (s : List UInt8) : Ctr Tryz.prog 20 [.s s] [] (TokK s) := by
  have key : Ctr Tryz.prog 20 [.s s] [] (fun r h => (∃ ts ver Y, tokF s = (ts, 0, 0) ∧ r = .tup [.sl 0 ver 0 ts.length none 0, .i .i64 0, .i .i64 0] ∧ h = rowK ts.length ts ver :: Y) ∨
      (∃ (e : Int) (p : Nat), tokF s = ([], e, (p : Int)) ∧ e ≠ 0 ∧ r = .tup [.nils, .i .i64 e, .i .i64 p])) := by
    refine Ctr.enter tabOkF (fn := Tryz.f20) rfl rfl rfl rfl rfl ?_
    refine ⟨fun h1 => ?_, fun h1 => ?_⟩
    · have h1 : 8192 < s.length := by
        have h1 : decide ((8192 : Int) < s.length) = true := h1
        simp at h1; omega
      exact .inr ⟨2, 0, by unfold tokF; rw [if_pos h1]; rfl, by decide, rfl⟩
    have h1 : s.length ≤ 8192 := by
      have h1 : decide ((8192 : Int) < s.length) = false := h1
      simp at h1; omega
    refine WpC.shift (Shift.row (d := 5) rfl 3 28 [.arr 0 Tk tk0 4 tkenc []] (fun E => rfl) (fun m V => ⟨⟨rfl, rfl, tkenc_w, fun j hj => by omega⟩, trivial⟩)) ?_
    refine WpC.loop tabOkF (β := Nat × Nat × List Tk × Nat × Nat) (fun x => x.1 ≤ s.length ∧ s.length < x.1 + x.2.2.2.2 ∧ tokC s x.2.2.2.2 x.1 x.2.2.1 = tokF s ∧ x.2.1 ≤ x.1 ∧ x.2.2.1.length = x.2.1) (fun x => [(6, .i .i64 x.1), (5, .sl 0 x.2.2.2.1 0 x.2.1 none 0)]) (fun x => [rowK x.2.1 x.2.2.1 x.2.2.2.1]) (fun x => s.length - x.1) (0, 0, [], 0, s.length + 1) 41538374868278621028243970633703420 ⟨Nat.zero_le _, by show s.length < 0 + (s.length + 1); omega, by unfold tokF; rw [if_neg (by omega)], Nat.le_refl _, rfl⟩ ?_ ?_
    · exact ⟨rfl, ⟨⟨rfl, rfl, rfl⟩, ⟨rfl, rfl, rfl⟩, trivial⟩, ⟨[], rfl⟩, ⟨bndTk, trivial⟩, rfl⟩
    · rintro ⟨p, N, ts, ver, f⟩ ⟨hi, hf, hc, hlt, hNt⟩
      simp only at hi hf hc hlt hNt
      refine ⟨fun h2 => ?_, fun h2 => ?_⟩
      · have h2 : p < s.length := by
          have h2 : decide ((p : Int) < s.length) = true := h2
          simpa using h2
        obtain ⟨f', rfl, hstep⟩ := tokC_step (out := ts) h2 hf
        rw [hc] at hstep
        have hX : ((s.take s.length).drop (p : Int).toNat) = s.drop p := by rw [List.take_length]; rfl
        have hXl : ((s.take s.length).drop (p : Int).toNat).length = s.length - p := by rw [hX, List.length_drop]
        have hXne : ((s.take s.length).drop (p : Int).toNat) ≠ [] := fun e => by rw [e] at hXl; simp at hXl; omega
        have hob1 : (0 : Int) ≤ p ∧ (p : Int) ≤ s.length := by omega
        refine ⟨fun _ => hob1, ?_⟩
        have hob2 : (0 : Int) ≤ 0 ∧ (0 : Int) < ((s.take s.length).drop (p : Int).toNat).length := by omega
        refine ⟨fun _ => hob2, ?_⟩
        refine ⟨fun h3 => ?_, fun h3 => ?_⟩
        · have h3 : (decide (cd ((s.take s.length).drop (p : Int).toNat) 0 = 32) || decide (cd ((s.take s.length).drop (p : Int).toNat) 0 = 9) || decide (cd ((s.take s.length).drop (p : Int).toNat) 0 = 10)) = true := h3
          have hst : stepF (s.drop p) p = .skip 1 := by
            unfold stepF
            rw [if_pos (by rw [← hX]; exact h3)]
          rw [hst] at hstep
          have k1 : p + 1 ≤ s.length := by omega
          have k2 : s.length < p + 1 + f' := by omega
          have k3 : N ≤ p + 1 := by omega
          have k4 : s.length - (p + 1) < s.length - p := by omega
          refine ⟨(p + 1, N, ts, ver, f'), ⟨k1, k2, hstep.symm, k3, hNt⟩, k4, rfl, ⟨⟨?_, rfl, rfl⟩, ⟨rfl, rfl, rfl⟩, trivial⟩, ⟨_, rfl⟩, ⟨bndTk, trivial⟩, rfl⟩
          show SV.i .i64 (IntKind.i64.wrap ((p : Int) + 1)) = SV.i .i64 ((p + 1 : Nat) : Int)
          rw [w64 (by omega) (by omega)]; rfl
        have h3 : (decide (cd ((s.take s.length).drop (p : Int).toNat) 0 = 32) || decide (cd ((s.take s.length).drop (p : Int).toNat) 0 = 9) || decide (cd ((s.take s.length).drop (p : Int).toNat) 0 = 10)) = false := h3
        refine OpC.callV rfl rfl rfl rfl rfl rfl rfl (fun _ => hasPrefix_ok ((s.take s.length).drop (p : Int).toNat) [40, 42]) ?_
        refine ⟨fun h4 => ?_, fun h4 => ?_⟩
        · have h4 : pre ((s.take s.length).drop (p : Int).toNat) [40, 42] = true := h4
          have hl2 : 2 ≤ ((s.take s.length).drop (p : Int).toNat).length := pre_len h4
          have hob : (0 : Int) ≤ 2 ∧ (2 : Int) ≤ ((s.take s.length).drop (p : Int).toNat).length := by omega
          refine ⟨fun _ => hob, ?_⟩
          have hY : (((s.take s.length).drop (p : Int).toNat).take ((s.take s.length).drop (p : Int).toNat).length).drop (2 : Int).toNat = (s.drop p).drop 2 := by rw [List.take_length, hX]; rfl
          refine OpC.callV rfl rfl rfl rfl rfl rfl rfl (fun _ => sIndex_ok ((((s.take s.length).drop (p : Int).toNat).take ((s.take s.length).drop (p : Int).toNat).length).drop (2 : Int).toNat) [42, 41] (by rw [hY]; simp; omega)) ?_
          refine ⟨fun h5 => ?_, fun h5 => ?_⟩
          · have h5 : decide (Lib.index ((((s.take s.length).drop (p : Int).toNat).take ((s.take s.length).drop (p : Int).toNat).length).drop (2 : Int).toNat) [42, 41] < 0) = true := h5
            have h5 := of_decide_eq_true h5
            rw [hY] at h5
            have hst : stepF (s.drop p) p = .err 24 := by
              unfold stepF
              rw [if_neg (by rw [← hX, h3]; decide)]
              rw [if_pos (by rw [← hX]; exact h4)]
              rw [if_pos h5]
            rw [hst] at hstep
            exact .inr ⟨24, p, hstep, by decide, rfl⟩
          · have h5 : decide (Lib.index ((((s.take s.length).drop (p : Int).toNat).take ((s.take s.length).drop (p : Int).toNat).length).drop (2 : Int).toNat) [42, 41] < 0) = false := h5
            have h5 := of_decide_eq_false h5
            have hle := Lib.index_le ((((s.take s.length).drop (p : Int).toNat).take ((s.take s.length).drop (p : Int).toNat).length).drop (2 : Int).toNat) [42, 41]
            have hroom := Lib.index_room ((((s.take s.length).drop (p : Int).toNat).take ((s.take s.length).drop (p : Int).toNat).length).drop (2 : Int).toNat) [42, 41] (by omega)
            rw [hY] at h5 hle hroom
            simp only [List.length_drop, List.length_cons, List.length_nil] at hle hroom
            have hst : stepF (s.drop p) p = .skip ((Lib.index ((s.drop p).drop 2) [42, 41]).toNat + 4) := by
              unfold stepF
              rw [if_neg (by rw [← hX, h3]; decide), if_pos (by rw [← hX]; exact h4), if_neg h5]
            rw [hst] at hstep
            have k1 : p + ((Lib.index ((s.drop p).drop 2) [42, 41]).toNat + 4) ≤ s.length := by omega
            have k2 : s.length < p + ((Lib.index ((s.drop p).drop 2) [42, 41]).toNat + 4) + f' := by omega
            have k3 : N ≤ p + ((Lib.index ((s.drop p).drop 2) [42, 41]).toNat + 4) := by omega
            have k4 : s.length - (p + ((Lib.index ((s.drop p).drop 2) [42, 41]).toNat + 4)) < s.length - p := by omega
            refine ⟨(p + ((Lib.index ((s.drop p).drop 2) [42, 41]).toNat + 4), N, ts, ver, f'), ⟨k1, k2, hstep.symm, k3, hNt⟩, k4, rfl, ⟨⟨?_, rfl, rfl⟩, ⟨rfl, rfl, rfl⟩, trivial⟩, ⟨_, rfl⟩, ⟨bndTk, trivial⟩, rfl⟩
            show SV.i .i64 (IntKind.i64.wrap ((p : Int) + IntKind.i64.wrap (Lib.index ((((s.take s.length).drop (p : Int).toNat).take ((s.take s.length).drop (p : Int).toNat).length).drop (2 : Int).toNat) [42, 41] + 4))) = SV.i .i64 ((p + ((Lib.index ((s.drop p).drop 2) [42, 41]).toNat + 4) : Nat) : Int)
            rw [hY, w64 (x := Lib.index ((s.drop p).drop 2) [42, 41] + 4) (by omega) (by omega), w64 (by omega) (by omega)]
            exact i_cg (by omega)
        have h4 : pre ((s.take s.length).drop (p : Int).toNat) [40, 42] = false := h4
        refine OpC.callV rfl rfl rfl rfl rfl rfl rfl (fun _ => digit_ok (cd ((s.take s.length).drop (p : Int).toNat) 0)) ?_
        refine ⟨fun h6 => ?_, fun h6 => ?_⟩
        · have h6 : digB (cd ((s.take s.length).drop (p : Int).toNat) 0) = true := h6
          have hr1 := rowF_le numB ((s.take s.length).drop (p : Int).toNat)
          have hr0 : 0 < rowF numB ((s.take s.length).drop (p : Int).toNat) := rowF_pos hXne (by unfold numB; rw [h6]; simp)
          refine OpC.callV rfl rfl rfl rfl rfl rfl rfl (fun _ => row_ok 58 numB isnum_ok ((s.take s.length).drop (p : Int).toNat) (by omega)) ?_
          have hob : (0 : Int) ≤ (rowF numB ((s.take s.length).drop (p : Int).toNat) : Nat) ∧ ((rowF numB ((s.take s.length).drop (p : Int).toNat) : Nat) : Int) ≤ ((s.take s.length).drop (p : Int).toNat).length := by omega
          refine ⟨fun _ => hob, ?_⟩
          refine OpC.callL rfl rfl rfl rfl [] 0 rfl rfl rfl (number_ok (((s.take s.length).drop (p : Int).toNat).take (rowF numB ((s.take s.length).drop (p : Int).toNat))) (rowF_all numB ((s.take s.length).drop (p : Int).toNat)) (by rw [List.length_take]; omega)) rfl rfl rfl rfl trivial rfl (fun r H' hk => ?_) ?_
          · rw [hk.2]; exact ⟨Nat.le_refl _, Nat.le_refl _⟩
          rintro r H' ⟨hr, rfl⟩
          cases hx : numF (((s.take s.length).drop (p : Int).toNat).take (rowF numB ((s.take s.length).drop (p : Int).toNat))) with
          | none =>
            rw [hx] at hr
            obtain ⟨v, rfl⟩ := hr
            refine ⟨fun _ => ?_, fun h => by cases h⟩
            have hst : stepF (s.drop p) p = .err 23 := by
              unfold stepF
              rw [if_neg (by rw [← hX, h3]; decide)]
              rw [if_neg (by rw [← hX, h4]; decide)]
              rw [if_pos (by rw [← hX]; exact h6)]
              rw [← hX, hx]
            rw [hst] at hstep
            exact .inr ⟨23, p, hstep, by decide, rfl⟩
          | some n =>
            rw [hx] at hr
            have hr : r = .tup [.i .i64 (IntKind.i64.wrap n), .b true] := hr
            subst hr
            refine ⟨fun h => (by cases h), fun _ => ?_⟩
            refine OpC.yld 0 rfl (yld_app_row tabOkF rfl rfl rfl rfl rfl rfl rfl rfl rfl (SrcA.sl rfl rfl rfl rfl (by decide) rfl) (Joins.arrN (y := ⟨2, ((s.take s.length).drop (p : Int).toNat).take (rowF numB ((s.take s.length).drop (p : Int).toNat)), IntKind.i64.wrap n, p⟩) hNt rfl tkenc_w) (by decide) ?_ ?_) (fun d hd => by cases hd; rfl) ?_
            · exact Nat.le_trans (show N + 1 ≤ 10000 by omega) (by decide)
            · show (N + 1) * 40 ≤ 140737488355328
              omega
            have hlen : (⟨2, ((s.take s.length).drop (p : Int).toNat).take (rowF numB ((s.take s.length).drop (p : Int).toNat)), IntKind.i64.wrap n, p⟩ : Tk).s.length ≤ s.length - p := by
              show (List.take _ _).length ≤ _
              rw [List.length_take, hXl]; omega
            have hpos : 0 < (⟨2, ((s.take s.length).drop (p : Int).toNat).take (rowF numB ((s.take s.length).drop (p : Int).toNat)), IntKind.i64.wrap n, p⟩ : Tk).s.length := by
              show 0 < (List.take _ _).length
              rw [List.length_take, hXl]
              omega
            have hst : stepF (s.drop p) p = .tok ⟨2, ((s.take s.length).drop (p : Int).toNat).take (rowF numB ((s.take s.length).drop (p : Int).toNat)), IntKind.i64.wrap n, p⟩ := by
              unfold stepF
              rw [if_neg (by rw [← hX, h3]; decide)]
              rw [if_neg (by rw [← hX, h4]; decide)]
              rw [if_pos (by rw [← hX]; exact h6)]
              rw [← hX, hx]
            rw [hst] at hstep
            have k1 : p + (⟨2, ((s.take s.length).drop (p : Int).toNat).take (rowF numB ((s.take s.length).drop (p : Int).toNat)), IntKind.i64.wrap n, p⟩ : Tk).s.length ≤ s.length := by omega
            have k2 : s.length < p + (⟨2, ((s.take s.length).drop (p : Int).toNat).take (rowF numB ((s.take s.length).drop (p : Int).toNat)), IntKind.i64.wrap n, p⟩ : Tk).s.length + f' := by omega
            have k3 : N + 1 ≤ p + (⟨2, ((s.take s.length).drop (p : Int).toNat).take (rowF numB ((s.take s.length).drop (p : Int).toNat)), IntKind.i64.wrap n, p⟩ : Tk).s.length := by omega
            have k5 : (ts ++ [(⟨2, ((s.take s.length).drop (p : Int).toNat).take (rowF numB ((s.take s.length).drop (p : Int).toNat)), IntKind.i64.wrap n, p⟩ : Tk)]).length = N + 1 := by rw [List.length_append, List.length_singleton]; omega
            have k4 : s.length - (p + (⟨2, ((s.take s.length).drop (p : Int).toNat).take (rowF numB ((s.take s.length).drop (p : Int).toNat)), IntKind.i64.wrap n, p⟩ : Tk).s.length) < s.length - p := by omega
            refine ⟨(p + (⟨2, ((s.take s.length).drop (p : Int).toNat).take (rowF numB ((s.take s.length).drop (p : Int).toNat)), IntKind.i64.wrap n, p⟩ : Tk).s.length, N + 1, ts ++ [⟨2, ((s.take s.length).drop (p : Int).toNat).take (rowF numB ((s.take s.length).drop (p : Int).toNat)), IntKind.i64.wrap n, p⟩], ver + 1, f'), ⟨k1, k2, hstep.symm, k3, k5⟩, k4, rfl, ⟨⟨?_, rfl, rfl⟩, ⟨rfl, rfl, rfl⟩, trivial⟩, ⟨_, rfl⟩, ⟨bndTk, trivial⟩, rfl⟩
            · show SV.i .i64 (IntKind.i64.wrap ((p : Int) + ((⟨2, ((s.take s.length).drop (p : Int).toNat).take (rowF numB ((s.take s.length).drop (p : Int).toNat)), IntKind.i64.wrap n, p⟩ : Tk).s.length : Int))) = SV.i .i64 ((p + (⟨2, ((s.take s.length).drop (p : Int).toNat).take (rowF numB ((s.take s.length).drop (p : Int).toNat)), IntKind.i64.wrap n, p⟩ : Tk).s.length : Nat) : Int)
              rw [w64 (by omega) (by omega)]; rfl
        have h6 : digB (cd ((s.take s.length).drop (p : Int).toNat) 0) = false := h6
        refine OpC.callV rfl rfl rfl rfl rfl rfl rfl (fun _ => letter_ok (cd ((s.take s.length).drop (p : Int).toNat) 0)) ?_
        refine ⟨fun h8 => ?_, fun h8 => ?_⟩
        · have h8 : (letB (cd ((s.take s.length).drop (p : Int).toNat) 0) || decide (cd ((s.take s.length).drop (p : Int).toNat) 0 = 95)) = true := h8
          have hr1 := rowF_le namB ((s.take s.length).drop (p : Int).toNat)
          have hr0 : 0 < rowF namB ((s.take s.length).drop (p : Int).toNat) := rowF_pos hXne (by
            simp only [Bool.or_eq_true] at h8
            unfold namB
            rcases h8 with h8 | h8 <;> rw [h8] <;> simp)
          refine OpC.callV rfl rfl rfl rfl rfl rfl rfl (fun _ => row_ok 61 namB isnam_ok ((s.take s.length).drop (p : Int).toNat) (by omega)) ?_
          have hob : (0 : Int) ≤ (rowF namB ((s.take s.length).drop (p : Int).toNat) : Nat) ∧ ((rowF namB ((s.take s.length).drop (p : Int).toNat) : Nat) : Int) ≤ ((s.take s.length).drop (p : Int).toNat).length := by omega
          refine ⟨fun _ => hob, ?_⟩
          refine OpC.yld 0 rfl (yld_app_row tabOkF rfl rfl rfl rfl rfl rfl rfl rfl rfl (SrcA.sl rfl rfl rfl rfl (by decide) rfl) (Joins.arrN (y := ⟨1, ((s.take s.length).drop (p : Int).toNat).take (rowF namB ((s.take s.length).drop (p : Int).toNat)), 0, p⟩) hNt rfl tkenc_w) (by decide) ?_ ?_) (fun d hd => by cases hd; rfl) ?_
          · exact Nat.le_trans (show N + 1 ≤ 10000 by omega) (by decide)
          · show (N + 1) * 40 ≤ 140737488355328
            omega
          have hlen : (⟨1, ((s.take s.length).drop (p : Int).toNat).take (rowF namB ((s.take s.length).drop (p : Int).toNat)), 0, p⟩ : Tk).s.length ≤ s.length - p := by
            show (List.take _ _).length ≤ _
            rw [List.length_take, hXl]; omega
          have hpos : 0 < (⟨1, ((s.take s.length).drop (p : Int).toNat).take (rowF namB ((s.take s.length).drop (p : Int).toNat)), 0, p⟩ : Tk).s.length := by
            show 0 < (List.take _ _).length
            rw [List.length_take, hXl]
            omega
          have hst : stepF (s.drop p) p = .tok ⟨1, ((s.take s.length).drop (p : Int).toNat).take (rowF namB ((s.take s.length).drop (p : Int).toNat)), 0, p⟩ := by
            unfold stepF
            rw [if_neg (by rw [← hX, h3]; decide)]
            rw [if_neg (by rw [← hX, h4]; decide)]
            rw [if_neg (by rw [← hX, h6]; decide)]
            rw [if_pos (by rw [← hX]; exact h8)]
            rw [← hX]
          rw [hst] at hstep
          have k1 : p + (⟨1, ((s.take s.length).drop (p : Int).toNat).take (rowF namB ((s.take s.length).drop (p : Int).toNat)), 0, p⟩ : Tk).s.length ≤ s.length := by omega
          have k2 : s.length < p + (⟨1, ((s.take s.length).drop (p : Int).toNat).take (rowF namB ((s.take s.length).drop (p : Int).toNat)), 0, p⟩ : Tk).s.length + f' := by omega
          have k3 : N + 1 ≤ p + (⟨1, ((s.take s.length).drop (p : Int).toNat).take (rowF namB ((s.take s.length).drop (p : Int).toNat)), 0, p⟩ : Tk).s.length := by omega
          have k5 : (ts ++ [(⟨1, ((s.take s.length).drop (p : Int).toNat).take (rowF namB ((s.take s.length).drop (p : Int).toNat)), 0, p⟩ : Tk)]).length = N + 1 := by rw [List.length_append, List.length_singleton]; omega
          have k4 : s.length - (p + (⟨1, ((s.take s.length).drop (p : Int).toNat).take (rowF namB ((s.take s.length).drop (p : Int).toNat)), 0, p⟩ : Tk).s.length) < s.length - p := by omega
          refine ⟨(p + (⟨1, ((s.take s.length).drop (p : Int).toNat).take (rowF namB ((s.take s.length).drop (p : Int).toNat)), 0, p⟩ : Tk).s.length, N + 1, ts ++ [⟨1, ((s.take s.length).drop (p : Int).toNat).take (rowF namB ((s.take s.length).drop (p : Int).toNat)), 0, p⟩], ver + 1, f'), ⟨k1, k2, hstep.symm, k3, k5⟩, k4, rfl, ⟨⟨?_, rfl, rfl⟩, ⟨rfl, rfl, rfl⟩, trivial⟩, ⟨_, rfl⟩, ⟨bndTk, trivial⟩, rfl⟩
          · show SV.i .i64 (IntKind.i64.wrap ((p : Int) + ((⟨1, ((s.take s.length).drop (p : Int).toNat).take (rowF namB ((s.take s.length).drop (p : Int).toNat)), 0, p⟩ : Tk).s.length : Int))) = SV.i .i64 ((p + (⟨1, ((s.take s.length).drop (p : Int).toNat).take (rowF namB ((s.take s.length).drop (p : Int).toNat)), 0, p⟩ : Tk).s.length : Nat) : Int)
            rw [w64 (by omega) (by omega)]; rfl
        have h8 : (letB (cd ((s.take s.length).drop (p : Int).toNat) 0) || decide (cd ((s.take s.length).drop (p : Int).toNat) 0 = 95)) = false := h8
        refine OpC.callV rfl rfl rfl rfl rfl rfl rfl (fun _ => hasPrefix_ok ((s.take s.length).drop (p : Int).toNat) [47, 92]) ?_
        refine OpC.callV rfl rfl rfl rfl rfl rfl rfl (fun _ => hasPrefix_ok ((s.take s.length).drop (p : Int).toNat) [92, 47]) ?_
        refine ⟨fun h9 => ?_, fun h9 => ?_⟩
        · have h9 : (pre ((s.take s.length).drop (p : Int).toNat) [47, 92] || pre ((s.take s.length).drop (p : Int).toNat) [92, 47]) = true := h9
          have hl2 : 2 ≤ ((s.take s.length).drop (p : Int).toNat).length := by
            simp only [Bool.or_eq_true] at h9
            rcases h9 with h9 | h9 <;> exact pre_len h9
          have hob : (0 : Int) ≤ 2 ∧ (2 : Int) ≤ ((s.take s.length).drop (p : Int).toNat).length := by omega
          refine WpC.dr tabOkF mixed 0 ?_
          refine ⟨fun _ => hob, ?_⟩
          refine ⟨by kernel_rfl, ?_⟩
          refine OpC.yld 0 rfl (yld_app_row tabOkF rfl rfl rfl rfl rfl rfl rfl rfl rfl (SrcA.sl rfl rfl rfl rfl (by decide) rfl) (Joins.arrN (y := ⟨3, ((s.take s.length).drop (p : Int).toNat).take 2, 0, p⟩) hNt rfl tkenc_w) (by decide) ?_ ?_) (fun d hd => by cases hd; rfl) ?_
          · exact Nat.le_trans (show N + 1 ≤ 10000 by omega) (by decide)
          · show (N + 1) * 40 ≤ 140737488355328
            omega
          have hlen : (⟨3, ((s.take s.length).drop (p : Int).toNat).take 2, 0, p⟩ : Tk).s.length ≤ s.length - p := by
            show (List.take _ _).length ≤ _
            rw [List.length_take, hXl]; omega
          have hpos : 0 < (⟨3, ((s.take s.length).drop (p : Int).toNat).take 2, 0, p⟩ : Tk).s.length := by
            show 0 < (List.take _ _).length
            rw [List.length_take, hXl]
            omega
          have hst : stepF (s.drop p) p = .tok ⟨3, ((s.take s.length).drop (p : Int).toNat).take 2, 0, p⟩ := by
            unfold stepF
            rw [if_neg (by rw [← hX, h3]; decide)]
            rw [if_neg (by rw [← hX, h4]; decide)]
            rw [if_neg (by rw [← hX, h6]; decide)]
            rw [if_neg (by rw [← hX, h8]; decide)]
            rw [if_pos (by rw [← hX]; exact h9)]
            rw [← hX]
          rw [hst] at hstep
          have k1 : p + (⟨3, ((s.take s.length).drop (p : Int).toNat).take 2, 0, p⟩ : Tk).s.length ≤ s.length := by omega
          have k2 : s.length < p + (⟨3, ((s.take s.length).drop (p : Int).toNat).take 2, 0, p⟩ : Tk).s.length + f' := by omega
          have k3 : N + 1 ≤ p + (⟨3, ((s.take s.length).drop (p : Int).toNat).take 2, 0, p⟩ : Tk).s.length := by omega
          have k5 : (ts ++ [(⟨3, ((s.take s.length).drop (p : Int).toNat).take 2, 0, p⟩ : Tk)]).length = N + 1 := by rw [List.length_append, List.length_singleton]; omega
          have k4 : s.length - (p + (⟨3, ((s.take s.length).drop (p : Int).toNat).take 2, 0, p⟩ : Tk).s.length) < s.length - p := by omega
          refine ⟨(p + (⟨3, ((s.take s.length).drop (p : Int).toNat).take 2, 0, p⟩ : Tk).s.length, N + 1, ts ++ [⟨3, ((s.take s.length).drop (p : Int).toNat).take 2, 0, p⟩], ver + 1, f'), ⟨k1, k2, hstep.symm, k3, k5⟩, k4, rfl, ⟨⟨?_, rfl, rfl⟩, ⟨rfl, rfl, rfl⟩, trivial⟩, ⟨_, rfl⟩, ⟨bndTk, trivial⟩, rfl⟩
          · show SV.i .i64 (IntKind.i64.wrap ((p : Int) + ((⟨3, ((s.take s.length).drop (p : Int).toNat).take 2, 0, p⟩ : Tk).s.length : Int))) = SV.i .i64 ((p + (⟨3, ((s.take s.length).drop (p : Int).toNat).take 2, 0, p⟩ : Tk).s.length : Nat) : Int)
            rw [w64 (by omega) (by omega)]; rfl
        have h9 : (pre ((s.take s.length).drop (p : Int).toNat) [47, 92] || pre ((s.take s.length).drop (p : Int).toNat) [92, 47]) = false := h9
        refine OpC.callV rfl rfl rfl rfl rfl rfl rfl (fun _ => sIndexByte_ok marksL (cd ((s.take s.length).drop (p : Int).toNat) 0)) ?_
        have hmk := mark_ix (((s.take s.length).drop (p : Int).toNat).getD 0 0)
        refine ⟨fun h10 => ?_, fun h10 => ?_⟩
        · have h10 : decide ((0 : Int) ≤ Lib.indexByte marksL (cd ((s.take s.length).drop (p : Int).toNat) 0).toNat.toUInt8) = true := h10
          have hk : (s.drop p).getD 0 0 ∈ marksL := by rw [← hX]; exact of_decide_eq_true (hmk.symm.trans h10)
          have hob : (0 : Int) ≤ 1 ∧ (1 : Int) ≤ ((s.take s.length).drop (p : Int).toNat).length := by omega
          refine WpC.dr tabOkF mixed 0 ?_
          refine ⟨fun _ => hob, ?_⟩
          refine ⟨by kernel_rfl, ?_⟩
          refine OpC.yld 0 rfl (yld_app_row tabOkF rfl rfl rfl rfl rfl rfl rfl rfl rfl (SrcA.sl rfl rfl rfl rfl (by decide) rfl) (Joins.arrN (y := ⟨3, ((s.take s.length).drop (p : Int).toNat).take 1, 0, p⟩) hNt rfl tkenc_w) (by decide) ?_ ?_) (fun d hd => by cases hd; rfl) ?_
          · exact Nat.le_trans (show N + 1 ≤ 10000 by omega) (by decide)
          · show (N + 1) * 40 ≤ 140737488355328
            omega
          have hlen : (⟨3, ((s.take s.length).drop (p : Int).toNat).take 1, 0, p⟩ : Tk).s.length ≤ s.length - p := by
            show (List.take _ _).length ≤ _
            rw [List.length_take, hXl]; omega
          have hpos : 0 < (⟨3, ((s.take s.length).drop (p : Int).toNat).take 1, 0, p⟩ : Tk).s.length := by
            show 0 < (List.take _ _).length
            rw [List.length_take, hXl]
            omega
          have hst : stepF (s.drop p) p = .tok ⟨3, ((s.take s.length).drop (p : Int).toNat).take 1, 0, p⟩ := by
            unfold stepF
            rw [if_neg (by rw [← hX, h3]; decide)]
            rw [if_neg (by rw [← hX, h4]; decide)]
            rw [if_neg (by rw [← hX, h6]; decide)]
            rw [if_neg (by rw [← hX, h8]; decide)]
            rw [if_neg (by rw [← hX, h9]; decide)]
            rw [if_pos hk]
            rw [← hX]
          rw [hst] at hstep
          have k1 : p + (⟨3, ((s.take s.length).drop (p : Int).toNat).take 1, 0, p⟩ : Tk).s.length ≤ s.length := by omega
          have k2 : s.length < p + (⟨3, ((s.take s.length).drop (p : Int).toNat).take 1, 0, p⟩ : Tk).s.length + f' := by omega
          have k3 : N + 1 ≤ p + (⟨3, ((s.take s.length).drop (p : Int).toNat).take 1, 0, p⟩ : Tk).s.length := by omega
          have k5 : (ts ++ [(⟨3, ((s.take s.length).drop (p : Int).toNat).take 1, 0, p⟩ : Tk)]).length = N + 1 := by rw [List.length_append, List.length_singleton]; omega
          have k4 : s.length - (p + (⟨3, ((s.take s.length).drop (p : Int).toNat).take 1, 0, p⟩ : Tk).s.length) < s.length - p := by omega
          refine ⟨(p + (⟨3, ((s.take s.length).drop (p : Int).toNat).take 1, 0, p⟩ : Tk).s.length, N + 1, ts ++ [⟨3, ((s.take s.length).drop (p : Int).toNat).take 1, 0, p⟩], ver + 1, f'), ⟨k1, k2, hstep.symm, k3, k5⟩, k4, rfl, ⟨⟨?_, rfl, rfl⟩, ⟨rfl, rfl, rfl⟩, trivial⟩, ⟨_, rfl⟩, ⟨bndTk, trivial⟩, rfl⟩
          · show SV.i .i64 (IntKind.i64.wrap ((p : Int) + ((⟨3, ((s.take s.length).drop (p : Int).toNat).take 1, 0, p⟩ : Tk).s.length : Int))) = SV.i .i64 ((p + (⟨3, ((s.take s.length).drop (p : Int).toNat).take 1, 0, p⟩ : Tk).s.length : Nat) : Int)
            rw [w64 (by omega) (by omega)]; rfl
        · have h10 : decide ((0 : Int) ≤ Lib.indexByte marksL (cd ((s.take s.length).drop (p : Int).toNat) 0).toNat.toUInt8) = false := h10
          have hk : ¬ (s.drop p).getD 0 0 ∈ marksL := by rw [← hX]; exact of_decide_eq_false (hmk.symm.trans h10)
          have hst : stepF (s.drop p) p = .err 20 := by
            unfold stepF
            rw [if_neg (by rw [← hX, h3]; decide)]
            rw [if_neg (by rw [← hX, h4]; decide)]
            rw [if_neg (by rw [← hX, h6]; decide)]
            rw [if_neg (by rw [← hX, h8]; decide)]
            rw [if_neg (by rw [← hX, h9]; decide)]
            rw [if_neg hk]

          rw [hst] at hstep
          exact .inr ⟨20, p, hstep, by decide, rfl⟩
      · have h2 : p = s.length := by
          have h2 : decide ((p : Int) < s.length) = false := h2
          simp at h2; omega
        rw [tokC_end (by omega)] at hc
        subst hNt
        exact .inl ⟨ts, ver, _, hc.symm, rfl, rfl⟩
  exact key.trim callX_m fun r H1 hk => by
    rcases hk with ⟨ts, ver, Y, h1, h2, h3⟩ | ⟨e, p, h1, h2, h3⟩
    · exact ⟨[rowK ts.length ts ver], Y, h3, Nat.zero_le _, ⟨bndTk, trivial⟩, by rw [h2]; rfl, .inl ⟨ts, ver, h1, h2, rfl⟩⟩
    · exact ⟨[], H1, rfl, Nat.zero_le _, trivial, by rw [h3]; rfl, .inr ⟨e, p, h1, h2, h3, rfl⟩⟩
end SX
end Go.Proofs.YtlgjjklikbpcoaaGreatDoor

/- The program's scan.Tokens: its words lie in memory that stays. -/
set_option linter.unusedVariables false
set_option maxRecDepth 100000
namespace Go.Proofs.YtlgjjklikbpcoaaGreatDoor
namespace SX
open Go Go.Proofs
theorem tkw (x : Tk) : wdL (tkenc x) = 4 := rfl
theorem tkok (x : Tk) (m : Mem) : OkL m [] (tkenc x) := by simp [tkenc, OkL, isUnit, Ok]
theorem Rel.gone {E : Env} {C : Fr} {m : Mem} {h : List SB} {w : World} (hr : Rel E C m h w) {k ver : Nat} {B : SB} (hk : h[k]? = some B) (hl : (SB.gone ver).lim = B.lim) : Rel E C m (h.set k (.gone ver)) w := by
  have hvs : vers (h.set k (.gone ver)) = vers h := vers_set (B' := .gone ver) hk hl
  have hkl : k < h.length := (List.getElem?_eq_some_iff.1 hk).1
  have hgk : (h.set k (.gone ver))[k]? = some (.gone ver) := by simp [List.getElem?_set, hkl]
  have hge : ∀ j, j ≠ k → (h.set k (.gone ver))[j]? = h[j]? := fun j hj => List.getElem?_set_ne (Ne.symm hj)
  have hblk : ∀ j b, BlkAt E (h.set k (.gone ver)) j b → j ≠ k ∧ BlkAt E h j b := by
    rintro j b ⟨B', hB', hb⟩
    by_cases hj : j = k
    · subst hj; rw [hgk] at hB'; cases hB'; exact hb.elim
    · rw [hge j hj] at hB'; exact ⟨hj, B', hB', hb⟩
  refine ⟨hr.os, hr.tape, hr.output, hr.im, hr.fr, hr.mf, ?_, ?_, ?_, ?_⟩
  · intro j B' hB'
    by_cases hj : j = k
    · subst hj; rw [hgk] at hB'; cases hB'; trivial
    · rw [hge j hj] at hB'; rw [hvs]; exact hr.bl j B' hB'
  · rw [hvs]; exact hr.nn
  · intro j b hb; exact hr.sp j b (hblk j b hb).2
  · intro i j b h1 h2; exact hr.inj i j b (hblk i b h1).2 (hblk j b h2).2
theorem Cp.row3 {α : Type} {d : α} {n : Nat} {enc : α → List SV} {X : List Value → World → (Value → World → Prop) → Prop} (hX : XMono X) {args : List SV} {H : List SB} {ty : TypeId} {g : Nat} (hn : n = g + 1) (hw : ∀ x, wdL (enc x) = n) (hok : ∀ x m, OkL m [] (enc x)) {K : SV → List SB → Prop}
    (h : Cp X args H (fun r h => (∃ (xs : List α) (ver : Nat) (y z : SV), r = .tup [.sl 0 ver 0 xs.length none 0, y, z] ∧ h = [.mem ty [.arr xs.length α d n enc xs] ver n] ∧ ∀ ad cap, K (.tup [.imm α d n enc xs ad cap, y, z]) [.gone ver]) ∨ K r h)) : Cp X args H K := by
  subst hn
  refine ⟨fun C E m w hr ha => hX _ _ _ _ (h.out C E m w hr ha) fun v w' ⟨r, H', E', m', h1, h2, h3, h4, h5⟩ => ?_⟩
  rcases h2 with ⟨xs, ver, y, z, rfl, rfl, hk⟩ | h2
  · have h3 := h3
    simp only [Ok, OkA] at h3
    obtain ⟨⟨⟨_, o1⟩, ⟨ly, o2⟩, ⟨lz, o3⟩, _⟩, _⟩ := h3
    have ht : ∀ vs, den E' (.tup vs) = .tuple (denL E' vs).toArray := fun vs => by simp [den, wrapV, cells]
    by_cases hv : ver = 0
    · subst hv
      simp only [Ok] at o1
      have hl0 : xs = [] := List.eq_nil_of_length_eq_zero (by simpa using o1.2)
      subst hl0
      have e7 : ∃ ad cap, den E' (.sl 0 0 0 ([] : List α).length none 0) = den E' (.imm α d (g + 1) enc ([] : List α) ad cap) := by
        cases he : E' 0 0 with
        | none => exact ⟨none, 0, by simp [den, wrapV, cells, he]⟩
        | some bc => obtain ⟨b, c⟩ := bc; exact ⟨some ⟨b, 0, none⟩, c, by simp [den, wrapV, cells, he]⟩
      obtain ⟨ad, cap, e7⟩ := e7
      refine ⟨_, _, E', m', ?_, hk ad cap, ?_, h4, Rel.gone (k := 0) (ver := 0) h5 rfl rfl⟩
      · rw [h1, ht, ht]
        show Value.tuple (den E' (.sl 0 0 0 ([] : List α).length none 0) :: denL E' [y, z]).toArray = Value.tuple (den E' (.imm α d (g + 1) enc ([] : List α) ad cap) :: denL E' [y, z]).toArray
        rw [e7]
      · refine ⟨?_, rfl⟩
        simp only [Ok, OkA]
        exact ⟨⟨rfl, Nat.zero_le _, fun h => absurd rfl h, hw, fun j hj => absurd hj (Nat.not_lt_zero _)⟩, ⟨ly, o2⟩, ⟨lz, o3⟩, trivial⟩
    · have hrep : Rep E' C m' ⟨[.sl 0 ver 0 xs.length none 0], [.mem ty [.arr xs.length α d (g + 1) enc xs] ver (g + 1)]⟩ ⟨#[den E' (.sl 0 ver 0 xs.length none 0)], []⟩ w' :=
        ⟨rfl, fun q x u hx hu => by
          rcases q with _ | q
          · simp at hx hu; subst hx; subst hu
            exact ⟨by simpa only [Ok] using o1, rfl⟩
          · simp at hx, rfl, h5⟩
      obtain ⟨m2, b, c, e1, e2, e3⟩ := still_base (k := 0) hrep rfl rfl hv hw hok
      obtain ⟨ad, cap, e4⟩ := still_slot (j := 0) (i := 0) (len := xs.length) e2 e3 rfl hw hok (by simp) (by omega)
      have e5 := e4.sl 0 _ _ rfl rfl
      simp only [List.drop_zero, List.take_length] at e5
      have e6 : Ok m2 (vers [SB.gone ver]) (.imm α d (g + 1) enc xs (some ad) cap) ∧ den E' (.sl 0 ver 0 xs.length none 0) = den E' (.imm α d (g + 1) enc xs (some ad) cap) := e5
      refine ⟨_, _, E', m2, ?_, hk (some ad) cap, ?_, h4.trans e1, e4.rel⟩
      · rw [h1, ht, ht]
        show Value.tuple (den E' (.sl 0 ver 0 xs.length none 0) :: denL E' [y, z]).toArray = Value.tuple (den E' (.imm α d (g + 1) enc xs (some ad) cap) :: denL E' [y, z]).toArray
        rw [e6.2]
      · refine ⟨?_, rfl⟩
        simp only [Ok, OkA]
        have k1 := e6.1
        simp only [Ok] at k1
        exact ⟨⟨rfl, k1⟩, ⟨ly, Ok.mono e1.mm y _ _ e1.vv o2⟩, ⟨lz, Ok.mono e1.mm z _ _ e1.vv o3⟩, trivial⟩
  · exact ⟨r, H', E', m', h1, h2, h3, h4, h5⟩
def TokI (s : List UInt8) (r : SV) (h : List SB) : Prop :=
  (∃ ts ad cap ver, tokF s = (ts, 0, 0) ∧ r = .tup [.imm Tk tk0 4 tkenc ts ad cap, .i .i64 0, .i .i64 0] ∧ h = [.gone ver]) ∨
  (∃ e p, tokF s = ([], e, p) ∧ e ≠ 0 ∧ r = .tup [.nils, .i .i64 e, .i .i64 p] ∧ h = [])
theorem tokensI_ok (s : List UInt8) : Ctr Tryz.prog 20 [.s s] [] (TokI s) := by
  refine Cp.row3 (α := Tk) (d := tk0) (enc := tkenc) (n := 4) (g := 3) (ty := 28) callX_m rfl tkw tkok ((tokens_ok s).mono callX_m ?_)
  rintro r h (⟨ts, ver, h1, rfl, rfl⟩ | ⟨e, p, h1, he, rfl, rfl⟩)
  · exact .inl ⟨ts, ver, _, _, rfl, rfl, fun ad cap => .inl ⟨ts, ad, cap, ver, h1, rfl, rfl⟩⟩
  · exact .inr (.inr ⟨e, p, h1, he, rfl, rfl⟩)
end SX
end Go.Proofs.YtlgjjklikbpcoaaGreatDoor

/- Is a text one name? -/
set_option linter.unusedVariables false
set_option maxRecDepth 100000
namespace Go.Proofs.YtlgjjklikbpcoaaGreatDoor
namespace SX
open Go Go.Proofs
end SX
end Go.Proofs.YtlgjjklikbpcoaaGreatDoor

/- x86: print and its reference answer alike. -/
set_option linter.unusedVariables false
set_option maxRecDepth 100000
namespace Go.Proofs.YtlgjjklikbpcoaaGreatDoor
namespace SX
open Go Go.Proofs
end SX
end Go.Proofs.YtlgjjklikbpcoaaGreatDoor

/- x86: a register's number, by its name. Printed by xrg.py. -/
set_option linter.unusedVariables false
set_option maxRecDepth 100000
namespace Go.Proofs.YtlgjjklikbpcoaaGreatDoor
namespace SX
open Go Go.Proofs
def idxF (s0 s1 s2 s3 s4 s5 s6 s7 v : List UInt8) : Int := if v = s0 then 0 else if v = s1 then 1 else if v = s2 then 2 else if v = s3 then 3 else if v = s4 then 4 else if v = s5 then 5 else if v = s6 then 6 else if v = s7 then 7 else -1
set_option maxHeartbeats 1000000 in
theorem index_s (s0 s1 s2 s3 s4 s5 s6 s7 v : List UInt8) : Ctr Tryz.prog 155 [.sl 0 1 0 8 (some 8) 0, .s v] [rowS s0 s1 s2 s3 s4 s5 s6 s7] (fun r h => r = .i .i64 (idxF s0 s1 s2 s3 s4 s5 s6 s7 v) ∧ h = [rowS s0 s1 s2 s3 s4 s5 s6 s7]) := by
  refine Ctr.enterG tabOkF (fn := Tryz.f155) rfl rfl rfl rfl rfl rfl ⟨⟨rfl, rfl, rfl, rfl, rfl, rfl, rfl, rfl, trivial⟩, trivial⟩ ?_
  refine WpC.loop tabOkF (β := Nat) (fun k => k ≤ 8 ∧ (0 < k → v ≠ s0) ∧ (1 < k → v ≠ s1) ∧ (2 < k → v ≠ s2) ∧ (3 < k → v ≠ s3) ∧ (4 < k → v ≠ s4) ∧ (5 < k → v ≠ s5) ∧ (6 < k → v ≠ s6) ∧ (7 < k → v ≠ s7)) (fun k => [(8, .i .i64 k)]) (fun _ => [rowS s0 s1 s2 s3 s4 s5 s6 s7]) (fun k => 8 - k) 0 524080 ⟨by decide, fun h => absurd h (by decide), fun h => absurd h (by decide), fun h => absurd h (by decide), fun h => absurd h (by decide), fun h => absurd h (by decide), fun h => absurd h (by decide), fun h => absurd h (by decide), fun h => absurd h (by decide)⟩ ?_ ?_
  · exact ⟨rfl, ⟨⟨rfl, rfl, rfl⟩, trivial⟩, ⟨[], rfl⟩, ⟨⟨rfl, rfl, rfl, rfl, rfl, rfl, rfl, rfl, trivial⟩, trivial⟩, rfl⟩
  · rintro k ⟨hk, q0, q1, q2, q3, q4, q5, q6, q7⟩
    rcases (by omega : k = 0 ∨ k = 1 ∨ k = 2 ∨ k = 3 ∨ k = 4 ∨ k = 5 ∨ k = 6 ∨ k = 7 ∨ k = 8) with rfl | rfl | rfl | rfl | rfl | rfl | rfl | rfl | rfl
    · refine ⟨fun _ => ?_, fun h => absurd h (by decide)⟩
      refine ⟨fun _ => by decide, ?_⟩
      refine ⟨fun h => ?_, fun h => ?_⟩
      · have e : v = s0 := of_decide_eq_true h
        refine ⟨i_cg ?_, _, rfl⟩
        unfold idxF
        rw [if_pos e]
        rfl
      · have e0 : ¬ v = s0 := of_decide_eq_false h
        exact ⟨1, ⟨by decide, fun _ => e0, fun h => absurd h (by decide), fun h => absurd h (by decide), fun h => absurd h (by decide), fun h => absurd h (by decide), fun h => absurd h (by decide), fun h => absurd h (by decide), fun h => absurd h (by decide)⟩, by decide, rfl, ⟨⟨rfl, rfl, rfl⟩, trivial⟩, ⟨[], rfl⟩, ⟨⟨rfl, rfl, rfl, rfl, rfl, rfl, rfl, rfl, trivial⟩, trivial⟩, rfl⟩
    · have e0 := q0 (by decide)
      refine ⟨fun _ => ?_, fun h => absurd h (by decide)⟩
      refine ⟨fun _ => by decide, ?_⟩
      refine ⟨fun h => ?_, fun h => ?_⟩
      · have e : v = s1 := of_decide_eq_true h
        refine ⟨i_cg ?_, _, rfl⟩
        unfold idxF
        rw [if_neg e0]
        rw [if_pos e]
        rfl
      · have e1 : ¬ v = s1 := of_decide_eq_false h
        exact ⟨2, ⟨by decide, fun _ => e0, fun _ => e1, fun h => absurd h (by decide), fun h => absurd h (by decide), fun h => absurd h (by decide), fun h => absurd h (by decide), fun h => absurd h (by decide), fun h => absurd h (by decide)⟩, by decide, rfl, ⟨⟨rfl, rfl, rfl⟩, trivial⟩, ⟨[], rfl⟩, ⟨⟨rfl, rfl, rfl, rfl, rfl, rfl, rfl, rfl, trivial⟩, trivial⟩, rfl⟩
    · have e0 := q0 (by decide)
      have e1 := q1 (by decide)
      refine ⟨fun _ => ?_, fun h => absurd h (by decide)⟩
      refine ⟨fun _ => by decide, ?_⟩
      refine ⟨fun h => ?_, fun h => ?_⟩
      · have e : v = s2 := of_decide_eq_true h
        refine ⟨i_cg ?_, _, rfl⟩
        unfold idxF
        rw [if_neg e0]
        rw [if_neg e1]
        rw [if_pos e]
        rfl
      · have e2 : ¬ v = s2 := of_decide_eq_false h
        exact ⟨3, ⟨by decide, fun _ => e0, fun _ => e1, fun _ => e2, fun h => absurd h (by decide), fun h => absurd h (by decide), fun h => absurd h (by decide), fun h => absurd h (by decide), fun h => absurd h (by decide)⟩, by decide, rfl, ⟨⟨rfl, rfl, rfl⟩, trivial⟩, ⟨[], rfl⟩, ⟨⟨rfl, rfl, rfl, rfl, rfl, rfl, rfl, rfl, trivial⟩, trivial⟩, rfl⟩
    · have e0 := q0 (by decide)
      have e1 := q1 (by decide)
      have e2 := q2 (by decide)
      refine ⟨fun _ => ?_, fun h => absurd h (by decide)⟩
      refine ⟨fun _ => by decide, ?_⟩
      refine ⟨fun h => ?_, fun h => ?_⟩
      · have e : v = s3 := of_decide_eq_true h
        refine ⟨i_cg ?_, _, rfl⟩
        unfold idxF
        rw [if_neg e0]
        rw [if_neg e1]
        rw [if_neg e2]
        rw [if_pos e]
        rfl
      · have e3 : ¬ v = s3 := of_decide_eq_false h
        exact ⟨4, ⟨by decide, fun _ => e0, fun _ => e1, fun _ => e2, fun _ => e3, fun h => absurd h (by decide), fun h => absurd h (by decide), fun h => absurd h (by decide), fun h => absurd h (by decide)⟩, by decide, rfl, ⟨⟨rfl, rfl, rfl⟩, trivial⟩, ⟨[], rfl⟩, ⟨⟨rfl, rfl, rfl, rfl, rfl, rfl, rfl, rfl, trivial⟩, trivial⟩, rfl⟩
    · have e0 := q0 (by decide)
      have e1 := q1 (by decide)
      have e2 := q2 (by decide)
      have e3 := q3 (by decide)
      refine ⟨fun _ => ?_, fun h => absurd h (by decide)⟩
      refine ⟨fun _ => by decide, ?_⟩
      refine ⟨fun h => ?_, fun h => ?_⟩
      · have e : v = s4 := of_decide_eq_true h
        refine ⟨i_cg ?_, _, rfl⟩
        unfold idxF
        rw [if_neg e0]
        rw [if_neg e1]
        rw [if_neg e2]
        rw [if_neg e3]
        rw [if_pos e]
        rfl
      · have e4 : ¬ v = s4 := of_decide_eq_false h
        exact ⟨5, ⟨by decide, fun _ => e0, fun _ => e1, fun _ => e2, fun _ => e3, fun _ => e4, fun h => absurd h (by decide), fun h => absurd h (by decide), fun h => absurd h (by decide)⟩, by decide, rfl, ⟨⟨rfl, rfl, rfl⟩, trivial⟩, ⟨[], rfl⟩, ⟨⟨rfl, rfl, rfl, rfl, rfl, rfl, rfl, rfl, trivial⟩, trivial⟩, rfl⟩
    · have e0 := q0 (by decide)
      have e1 := q1 (by decide)
      have e2 := q2 (by decide)
      have e3 := q3 (by decide)
      have e4 := q4 (by decide)
      refine ⟨fun _ => ?_, fun h => absurd h (by decide)⟩
      refine ⟨fun _ => by decide, ?_⟩
      refine ⟨fun h => ?_, fun h => ?_⟩
      · have e : v = s5 := of_decide_eq_true h
        refine ⟨i_cg ?_, _, rfl⟩
        unfold idxF
        rw [if_neg e0]
        rw [if_neg e1]
        rw [if_neg e2]
        rw [if_neg e3]
        rw [if_neg e4]
        rw [if_pos e]
        rfl
      · have e5 : ¬ v = s5 := of_decide_eq_false h
        exact ⟨6, ⟨by decide, fun _ => e0, fun _ => e1, fun _ => e2, fun _ => e3, fun _ => e4, fun _ => e5, fun h => absurd h (by decide), fun h => absurd h (by decide)⟩, by decide, rfl, ⟨⟨rfl, rfl, rfl⟩, trivial⟩, ⟨[], rfl⟩, ⟨⟨rfl, rfl, rfl, rfl, rfl, rfl, rfl, rfl, trivial⟩, trivial⟩, rfl⟩
    · have e0 := q0 (by decide)
      have e1 := q1 (by decide)
      have e2 := q2 (by decide)
      have e3 := q3 (by decide)
      have e4 := q4 (by decide)
      have e5 := q5 (by decide)
      refine ⟨fun _ => ?_, fun h => absurd h (by decide)⟩
      refine ⟨fun _ => by decide, ?_⟩
      refine ⟨fun h => ?_, fun h => ?_⟩
      · have e : v = s6 := of_decide_eq_true h
        refine ⟨i_cg ?_, _, rfl⟩
        unfold idxF
        rw [if_neg e0]
        rw [if_neg e1]
        rw [if_neg e2]
        rw [if_neg e3]
        rw [if_neg e4]
        rw [if_neg e5]
        rw [if_pos e]
        rfl
      · have e6 : ¬ v = s6 := of_decide_eq_false h
        exact ⟨7, ⟨by decide, fun _ => e0, fun _ => e1, fun _ => e2, fun _ => e3, fun _ => e4, fun _ => e5, fun _ => e6, fun h => absurd h (by decide)⟩, by decide, rfl, ⟨⟨rfl, rfl, rfl⟩, trivial⟩, ⟨[], rfl⟩, ⟨⟨rfl, rfl, rfl, rfl, rfl, rfl, rfl, rfl, trivial⟩, trivial⟩, rfl⟩
    · have e0 := q0 (by decide)
      have e1 := q1 (by decide)
      have e2 := q2 (by decide)
      have e3 := q3 (by decide)
      have e4 := q4 (by decide)
      have e5 := q5 (by decide)
      have e6 := q6 (by decide)
      refine ⟨fun _ => ?_, fun h => absurd h (by decide)⟩
      refine ⟨fun _ => by decide, ?_⟩
      refine ⟨fun h => ?_, fun h => ?_⟩
      · have e : v = s7 := of_decide_eq_true h
        refine ⟨i_cg ?_, _, rfl⟩
        unfold idxF
        rw [if_neg e0]
        rw [if_neg e1]
        rw [if_neg e2]
        rw [if_neg e3]
        rw [if_neg e4]
        rw [if_neg e5]
        rw [if_neg e6]
        rw [if_pos e]
        rfl
      · have e7 : ¬ v = s7 := of_decide_eq_false h
        exact ⟨8, ⟨by decide, fun _ => e0, fun _ => e1, fun _ => e2, fun _ => e3, fun _ => e4, fun _ => e5, fun _ => e6, fun _ => e7⟩, by decide, rfl, ⟨⟨rfl, rfl, rfl⟩, trivial⟩, ⟨[], rfl⟩, ⟨⟨rfl, rfl, rfl, rfl, rfl, rfl, rfl, rfl, trivial⟩, trivial⟩, rfl⟩
    · have e0 := q0 (by decide)
      have e1 := q1 (by decide)
      have e2 := q2 (by decide)
      have e3 := q3 (by decide)
      have e4 := q4 (by decide)
      have e5 := q5 (by decide)
      have e6 := q6 (by decide)
      have e7 := q7 (by decide)
      refine ⟨fun h => absurd h (by decide), fun _ => ⟨i_cg ?_, _, rfl⟩⟩
      unfold idxF
      rw [if_neg e0, if_neg e1, if_neg e2, if_neg e3, if_neg e4, if_neg e5, if_neg e6, if_neg e7]
theorem lreg_ok (s0 s1 s2 s3 s4 s5 s6 s7 h v : List UInt8) (rd pr : Nat) : Ctr Tryz.prog 79 [.ptr 1 1 0 [], .s v] [rowS s0 s1 s2 s3 s4 s5 s6 s7, langB h rd pr] (fun r h' => r = .i .i64 (idxF s0 s1 s2 s3 s4 s5 s6 s7 v) ∧ h' = [rowS s0 s1 s2 s3 s4 s5 s6 s7, langB h rd pr]) := by
  refine Ctr.enterG tabOkF (fn := Tryz.f79) rfl rfl rfl rfl rfl rfl bndLang ?_
  refine OpC.callG rfl rfl rfl rfl rfl rfl (fun _ => Ctr.spread (index_s s0 s1 s2 s3 s4 s5 s6 s7 v) (fun ρ => rfl) _ [0] rfl rfl ⟨rfl, trivial⟩ rfl) ?_
  exact ⟨rfl, _, rfl⟩
end SX
end Go.Proofs.YtlgjjklikbpcoaaGreatDoor

/- Words read as an instruction, plain: the readers' steps, the program's and the reference's; they answer alike. -/
set_option linter.unusedVariables false
set_option maxRecDepth 100000
namespace Go.Proofs.YtlgjjklikbpcoaaGreatDoor
namespace SX
open Go Go.Proofs
structure Lg where
  s0 : List UInt8
  s1 : List UInt8
  s2 : List UInt8
  s3 : List UInt8
  s4 : List UInt8
  s5 : List UInt8
  s6 : List UInt8
  s7 : List UInt8
  h : List UInt8
def Lg.ix (L : Lg) (v : List UInt8) : Int := idxF L.s0 L.s1 L.s2 L.s3 L.s4 L.s5 L.s6 L.s7 v
def lgR : Lg := ⟨[97, 48], [97, 49], [97, 50], [97, 51], [97, 52], [97, 53], [97, 54], [97, 55], []⟩
structure RS where
  p : Nat
  e : Int
  q : Int
def tkAt (ts : List Tk) (p : Nat) : Tk := ts.getD p tk0
def whF (ts : List Tk) (p : Nat) : Int := if p < ts.length then (tkAt ts p).a else if ts.length = 0 then 0 else IntKind.i64.wrap ((tkAt ts (ts.length - 1)).a + ((tkAt ts (ts.length - 1)).s.length : Int))
def failF (s : RS) (e q : Int) : RS := if s.e = 0 then ⟨s.p, e, q⟩ else s
def takeB (ts : List Tk) (m : List UInt8) (p : Nat) : Bool := decide (p < ts.length) && (decide ((tkAt ts p).s = m) && !decide ((tkAt ts p).k = 2))
def goF (s : RS) : RS := ⟨s.p + 1, s.e, s.q⟩
def locI (v : List UInt8) : Int := if v = [120] then 0 else if v = [121] then 1 else if v = [122] then 2 else -1
/-! The program's. -/
def missP (ts : List Tk) (s : RS) : RS := if s.p < ts.length then failF s 22 (whF ts s.p) else failF s 24 (whF ts s.p)
def markP (ts : List Tk) (m : List UInt8) (s : RS) : RS := if s.e = 0 then (if takeB ts m s.p then goF s else missP ts s) else s
def wordP (ts : List Tk) (s : RS) : List UInt8 × RS := if s.e = 0 then (if (tkAt ts s.p).k = 1 then ((tkAt ts s.p).s, goF s) else ([], missP ts s)) else ([], s)
def ofP (f : List UInt8 → Int) (ts : List Tk) (s : RS) : Int × RS := if f (wordP ts s).1 < 0 then (0, failF (wordP ts s).2 21 (whF ts s.p)) else (f (wordP ts s).1, (wordP ts s).2)
def regP (L : Lg) (ts : List Tk) (s : RS) : Int × RS := ofP L.ix ts s
def nmP (ts : List Tk) (g : Int) (s : RS) : Int × RS := if (tkAt ts s.p).k = 2 then (IntKind.i64.wrap (g * (tkAt ts s.p).n), goF s) else (0, missP ts s)
def numP (ts : List Tk) (s : RS) : Int × RS := if s.e = 0 then (if takeB ts [45] s.p then nmP ts (-1) (goF s) else nmP ts 1 s) else (0, s)
def immP (L : Lg) (ts : List Tk) (s : RS) : Int × RS := numP ts (if L.h = [] then s else markP ts L.h s)
def ixP (L : Lg) (ts : List Tk) (i : In) (s : RS) : In × RS := ({ i with ix := (regP L ts s).1 }, (regP L ts s).2)
def plusP (L : Lg) (ts : List Tk) (i : In) (s : RS) : In × RS :=
  if (tkAt ts s.p).k = 2 then (if takeB ts [43] (goF s).p then ixP L ts { i with off := (tkAt ts s.p).n } (goF (goF s)) else ({ i with off := (tkAt ts s.p).n }, goF s)) else ixP L ts i s
def memP (L : Lg) (ts : List Tk) (i : In) (z : Int) (s : RS) : In × RS :=
  let w := ofP locI ts (markP ts [91] s)
  let i1 : In := { i with loc := w.1, sz := z }
  let r := if decide (w.2.e = 0) && takeB ts [43] w.2.p then plusP L ts i1 (goF w.2) else (i1, w.2)
  (r.1, markP ts [93] r.2)
/-! The reference's. -/
def oddR (ts : List Tk) (u : Bool) (s : RS) : RS := if s.p < ts.length then (if u && decide ((tkAt ts s.p).k = 1) then failF s 21 (tkAt ts s.p).a else failF s 22 (tkAt ts s.p).a) else failF s 24 (whF ts s.p)
def markR (ts : List Tk) (m : List UInt8) (s : RS) : RS := if s.e = 0 then (if takeB ts m s.p then goF s else oddR ts false s) else s
def isR (ts : List Tk) (m : List UInt8) (s : RS) : Bool := decide (s.e = 0) && takeB ts m s.p
def regR (L : Lg) (ts : List Tk) (s : RS) : Int × RS := if s.e = 0 then (if (tkAt ts s.p).k = 1 ∧ 0 ≤ L.ix (tkAt ts s.p).s then (L.ix (tkAt ts s.p).s, goF s) else (-1, oddR ts true s)) else (-1, s)
def nmR (ts : List Tk) (g : Bool) (s : RS) : Int × RS := if (tkAt ts s.p).k = 2 then (if g then IntKind.i64.wrap (0 - (tkAt ts s.p).n) else (tkAt ts s.p).n, goF s) else (0, oddR ts false s)
def numR (ts : List Tk) (s : RS) : Int × RS := if s.e = 0 then (if takeB ts [45] s.p then nmR ts true (goF s) else nmR ts false s) else (0, s)
def immR (L : Lg) (ts : List Tk) (s : RS) : Int × RS := numR ts (if L.h = [] then s else markR ts L.h s)
def ixR (L : Lg) (ts : List Tk) (i : In) (s : RS) : In × RS := ({ i with ix := (regR L ts s).1 }, (regR L ts s).2)
def plusR (L : Lg) (ts : List Tk) (i : In) (s : RS) : In × RS :=
  if (tkAt ts s.p).k = 2 then (if isR ts [43] (goF s) then ixR L ts { i with off := (tkAt ts s.p).n } (goF (goF s)) else ({ i with off := (tkAt ts s.p).n }, goF s)) else ixR L ts i s
def memR (L : Lg) (ts : List Tk) (i : In) (s : RS) : In × RS :=
  let s1 := markR ts [91] s
  let s2 := if s1.e = 0 ∧ ¬ ((tkAt ts s1.p).k = 1 ∧ 0 ≤ locI (tkAt ts s1.p).s) then oddR ts true s1 else s1
  if s2.e = 0 then
    let i1 : In := { i with loc := locI (tkAt ts s2.p).s }
    let s3 := goF s2
    let r := if isR ts [43] s3 then plusR L ts i1 (goF s3) else (i1, s3)
    (r.1, markR ts [93] r.2)
  else (i, s2)
/-! Both answer alike. -/
def nrm (s : RS) : RS := if s.e = 0 then ⟨s.p, 0, 0⟩ else ⟨0, s.e, s.q⟩
structure WfT (t : Tk) : Prop where
  nam : t.k = 1 → letB (cd t.s 0) = true ∨ cd t.s 0 = 95
  num : IntKind.i64.wrap t.n = t.n
def Wf (ts : List Tk) : Prop := ∀ p, WfT (tkAt ts p)
theorem nrm_live {a b : RS} (h : nrm a = nrm b) : (a.e = 0 ↔ b.e = 0) := by
  unfold nrm at h
  split at h <;> split at h <;> simp_all
theorem nrm_p {a b : RS} (h : nrm a = nrm b) (ha : a.e = 0) : b.e = 0 ∧ a.p = b.p := by
  have hb := (nrm_live h).1 ha
  unfold nrm at h
  rw [if_pos ha, if_pos hb] at h
  exact ⟨hb, by simpa using h⟩
theorem nrm_go {a b : RS} (h : nrm a = nrm b) : nrm (goF a) = nrm (goF b) := by
  unfold nrm goF at *
  dsimp only
  split at h <;> split at h <;> simp_all
theorem nrm_fail {a b : RS} (h : nrm a = nrm b) {e q e' q' : Int} (he : a.e = 0 → e = e') (hq : a.e = 0 → q = q') : nrm (failF a e q) = nrm (failF b e' q') := by
  by_cases ha : a.e = 0
  · have hb := (nrm_live h).1 ha
    unfold failF
    rw [if_pos ha, if_pos hb, he ha, hq ha]
    unfold nrm
    simp only
    split
    · exact congrArg (fun p => RS.mk p 0 0) (nrm_p h ha).2
    · rfl
  · have hb : ¬ b.e = 0 := fun hb => ha ((nrm_live h).2 hb)
    unfold failF
    rw [if_neg ha, if_neg hb]
    exact h
theorem failF_e {s : RS} {e q : Int} (he : e ≠ 0) : (failF s e q).e ≠ 0 := by
  unfold failF
  split
  · exact he
  · assumption
theorem miss_e (ts : List Tk) (s : RS) : (missP ts s).e ≠ 0 := by unfold missP; split <;> exact failF_e (by decide)
theorem odd_e (ts : List Tk) (u : Bool) (s : RS) : (oddR ts u s).e ≠ 0 := by unfold oddR; split <;> (try split) <;> exact failF_e (by decide)
theorem miss_odd (ts : List Tk) (s : RS) : missP ts s = oddR ts false s := by
  unfold missP oddR whF
  split <;> simp
theorem nrm_odd {ts : List Tk} {u : Bool} {a b : RS} (h : nrm a = nrm b) : nrm (oddR ts u a) = nrm (oddR ts u b) := by
  by_cases ha : a.e = 0
  · obtain ⟨hb, hp⟩ := nrm_p h ha
    unfold oddR
    rw [← hp]
    split
    · split <;> exact nrm_fail h (fun _ => rfl) (fun _ => rfl)
    · exact nrm_fail h (fun _ => rfl) (fun _ => rfl)
  · have hb : ¬ b.e = 0 := fun hb => ha ((nrm_live h).2 hb)
    have e : ∀ (s : RS), ¬ s.e = 0 → oddR ts u s = s := fun s hs => by unfold oddR failF; simp only [if_neg hs, ite_self]
    rw [e a ha, e b hb]; exact h
theorem mark_eq (ts : List Tk) (m : List UInt8) (s : RS) : markP ts m s = markR ts m s := by unfold markP markR; rw [miss_odd]
theorem mark_e {ts : List Tk} {m : List UInt8} {s : RS} (h : (markP ts m s).e = 0) : s.e = 0 ∧ markP ts m s = goF s := by
  unfold markP at h ⊢
  split at h
  · rename_i h0
    split at h
    · rename_i h1; exact ⟨h0, by rw [if_pos h0, if_pos h1]⟩
    · exact absurd h (miss_e ts s)
  · rename_i h0; exact absurd h h0
theorem mark_sim {ts : List Tk} {m : List UInt8} {a b : RS} (h : nrm a = nrm b) : nrm (markP ts m a) = nrm (markR ts m b) ∧ ((markP ts m a).e = 0 → a.e = 0) := by
  refine ⟨?_, fun h => (mark_e h).1⟩
  rw [mark_eq]
  by_cases ha : a.e = 0
  · obtain ⟨hb, hp⟩ := nrm_p h ha
    unfold markR
    rw [if_pos ha, if_pos hb, ← hp]
    split
    · exact nrm_go h
    · exact nrm_odd h
  · have hb : ¬ b.e = 0 := fun hb => ha ((nrm_live h).2 hb)
    unfold markR
    rw [if_neg ha, if_neg hb]; exact h
theorem at_lt {ts : List Tk} {p : Nat} (h : (tkAt ts p).k ≠ 0) : p < ts.length := by
  by_cases hp : p < ts.length
  · exact hp
  · exact absurd (by unfold tkAt; rw [List.getD_eq_getElem?_getD, List.getElem?_eq_none (by omega)]; rfl) h
def SmP {α : Type} (a : RS) (x y : α × RS) : Prop := nrm x.2 = nrm y.2 ∧ (x.2.e = 0 → a.e = 0 ∧ x.1 = y.1)
theorem of_sim {f : List UInt8 → Int} (hf : f [] < 0) {ts : List Tk} {a b : RS} (h : nrm a = nrm b) (d : Int := -1) :
    SmP a (ofP f ts a) (if b.e = 0 then (if (tkAt ts b.p).k = 1 ∧ 0 ≤ f (tkAt ts b.p).s then (f (tkAt ts b.p).s, goF b) else (d, oddR ts true b)) else (d, b)) := by
  by_cases ha : a.e = 0
  · obtain ⟨hb, hp⟩ := nrm_p h ha
    rw [if_pos hb, ← hp]
    unfold ofP wordP
    rw [if_pos ha]
    by_cases hk : (tkAt ts a.p).k = 1
    · rw [if_pos hk]
      have hlt := at_lt (ts := ts) (p := a.p) (by rw [hk]; decide)
      by_cases hn : f (tkAt ts a.p).s < 0
      · rw [if_pos hn, if_neg (by omega)]
        refine ⟨?_, fun he => absurd he (failF_e (by decide))⟩
        unfold oddR
        rw [← hp, if_pos hlt, hk]
        simp only [decide_true, Bool.and_true, if_true]
        unfold failF goF
        simp only [if_pos ha, if_pos hb]
        unfold nrm whF
        simp [hlt]
      · rw [if_neg hn, if_pos ⟨hk, by omega⟩]
        exact ⟨nrm_go h, fun _ => ⟨ha, rfl⟩⟩
    · rw [if_neg hk, if_pos hf, if_neg (fun hh => hk hh.1)]
      refine ⟨?_, fun he => absurd he (failF_e (by decide))⟩
      have e1 : failF (missP ts a) 21 (whF ts a.p) = missP ts a := by
        have := miss_e ts a
        unfold failF; rw [if_neg this]
      rw [e1, miss_odd]
      have e2 : oddR ts true b = oddR ts false b := by
        unfold oddR
        rw [← hp, decide_eq_false hk]; rfl
      rw [e2]
      exact nrm_odd h
  · have hb : ¬ b.e = 0 := fun hb => ha ((nrm_live h).2 hb)
    rw [if_neg hb]
    unfold ofP wordP
    rw [if_neg ha, if_pos hf]
    have e1 : failF a 21 (whF ts a.p) = a := by unfold failF; rw [if_neg ha]
    rw [e1]
    exact ⟨h, fun he => absurd he ha⟩
theorem reg_sim {L : Lg} (hL : L.ix [] < 0) {ts : List Tk} {a b : RS} (h : nrm a = nrm b) : SmP a (regP L ts a) (regR L ts b) := of_sim hL h
theorem neg_mul1 (n : Int) : -1 * n = 0 - n := by omega
theorem num_eq {ts : List Tk} (hw : Wf ts) (s : RS) : numP ts s = numR ts s := by
  unfold numP numR nmP nmR
  simp only [miss_odd, neg_mul1, Int.one_mul, (hw _).num]
  rfl
theorem num_sim {ts : List Tk} (hw : Wf ts) {a b : RS} (h : nrm a = nrm b) : SmP a (numP ts a) (numR ts b) := by
  rw [num_eq hw]
  by_cases ha : a.e = 0
  · obtain ⟨hb, hp⟩ := nrm_p h ha
    unfold numR
    rw [if_pos ha, if_pos hb, ← hp]
    have key : ∀ (g : Bool) (x y : RS), nrm x = nrm y → x.e = 0 → SmP a (nmR ts g x) (nmR ts g y) := by
      intro g x y hxy hx
      obtain ⟨hy, hp⟩ := nrm_p hxy hx
      unfold nmR
      rw [← hp]
      split
      · exact ⟨nrm_go hxy, fun _ => ⟨ha, rfl⟩⟩
      · exact ⟨nrm_odd hxy, fun he => absurd he (odd_e ts false x)⟩
    split
    · exact key _ _ _ (nrm_go h) ha
    · exact key _ _ _ h ha
  · have hb : ¬ b.e = 0 := fun hb => ha ((nrm_live h).2 hb)
    unfold numR
    rw [if_neg ha, if_neg hb]
    exact ⟨h, fun he => absurd he ha⟩
theorem ix_sim {L : Lg} (hL : L.ix [] < 0) {ts : List Tk} {i : In} {a b : RS} (h : nrm a = nrm b) : SmP a (ixP L ts i a) (ixR L ts i b) := by
  have hr := reg_sim hL (ts := ts) h
  exact ⟨hr.1, fun he => ⟨(hr.2 he).1, by show { i with ix := (regP L ts a).1 } = { i with ix := (regR L ts b).1 }; rw [(hr.2 he).2]⟩⟩
theorem plus_sim {L : Lg} (hL : L.ix [] < 0) {ts : List Tk} {i : In} {a b : RS} (h : nrm a = nrm b) (ha : a.e = 0) : SmP a (plusP L ts i a) (plusR L ts i b) := by
  obtain ⟨hb, hp⟩ := nrm_p h ha
  unfold plusP plusR isR
  rw [← hp, show (goF b).e = 0 from hb, show (goF b).p = (goF a).p by unfold goF; rw [hp]]
  simp only [decide_true, Bool.true_and]
  split
  · split
    · exact ix_sim hL (a := goF (goF a)) (nrm_go (nrm_go h))
    · exact ⟨nrm_go h, fun _ => ⟨ha, rfl⟩⟩
  · exact ix_sim hL h
theorem locI_nil : locI [] < 0 := by decide
theorem mem_sim {L : Lg} (hL : L.ix [] < 0) {ts : List Tk} {i : In} {z : Int} (hz : i.sz = z) {a b : RS} (h : nrm a = nrm b) : SmP a (memP L ts i z a) (memR L ts i b) := by
  have h1 := mark_sim (ts := ts) (m := [91]) h
  have h2 := of_sim locI_nil (ts := ts) h1.1
  unfold memP memR
  dsimp only
  generalize hs1 : markP ts [91] a = s1 at *
  generalize hs1' : markR ts [91] b = s1' at *
  subst hz
  by_cases hl : s1.e = 0
  · obtain ⟨hl', hp⟩ := nrm_p h1.1 hl
    rw [if_pos hl'] at h2
    by_cases hc : (tkAt ts s1'.p).k = 1 ∧ 0 ≤ locI (tkAt ts s1'.p).s
    · rw [if_pos hc] at h2
      have hcn : ¬ (s1'.e = 0 ∧ ¬ ((tkAt ts s1'.p).k = 1 ∧ 0 ≤ locI (tkAt ts s1'.p).s)) := fun hh => hh.2 hc
      simp only [if_neg hcn, if_pos hl']
      have hwl : (ofP locI ts s1).2.e = 0 := (nrm_live h2.1).2 hl'
      have hv := (h2.2 hwl).2
      obtain ⟨_, hp2⟩ := nrm_p h2.1 hwl
      have hn := h2.1
      dsimp only at hv hp2 hn
      generalize hw : ofP locI ts s1 = w at *
      rw [hwl, hv]
      have er : isR ts [43] (goF s1') = takeB ts [43] w.2.p := by unfold isR; rw [show (goF s1').e = 0 from hl', hp2]; rfl
      rw [er]
      simp only [decide_true, Bool.true_and]
      split
      · have hp3 := plus_sim hL (ts := ts) (i := { i with loc := locI (tkAt ts s1'.p).s, sz := i.sz }) (nrm_go hn) (show (goF w.2).e = 0 from hwl)
        have h4 := mark_sim (ts := ts) (m := [93]) hp3.1
        exact ⟨h4.1, fun he => ⟨h1.2 hl, (hp3.2 (h4.2 he)).2⟩⟩
      · have h4 := mark_sim (ts := ts) (m := [93]) hn
        exact ⟨h4.1, fun he => ⟨h1.2 hl, rfl⟩⟩
    · rw [if_neg hc] at h2
      have hwd : ¬ (ofP locI ts s1).2.e = 0 := fun he => absurd ((nrm_live h2.1).1 he) (odd_e ts true s1')
      have hn := h2.1
      dsimp only at hn
      rw [decide_eq_false hwd]
      simp only [Bool.false_and, Bool.false_eq_true, if_false]
      have e1 : markP ts [93] (ofP locI ts s1).2 = (ofP locI ts s1).2 := by unfold markP; rw [if_neg hwd]
      have hcp : s1'.e = 0 ∧ ¬ ((tkAt ts s1'.p).k = 1 ∧ 0 ≤ locI (tkAt ts s1'.p).s) := ⟨hl', hc⟩
      rw [e1]
      simp only [if_pos hcp, if_neg (odd_e ts true s1')]
      exact ⟨hn, fun he => absurd he hwd⟩
  · have hl' : ¬ s1'.e = 0 := fun hb => hl ((nrm_live h1.1).2 hb)
    rw [if_neg hl'] at h2
    have hwd : ¬ (ofP locI ts s1).2.e = 0 := fun he => hl (h2.2 he).1
    have hn := h2.1
    dsimp only at hn
    rw [decide_eq_false hwd]
    simp only [Bool.false_and, Bool.false_eq_true, if_false]
    have e1 : markP ts [93] (ofP locI ts s1).2 = (ofP locI ts s1).2 := by unfold markP; rw [if_neg hwd]
    rw [e1]
    simp only [hl', false_and, if_false]
    exact ⟨hn, fun he => absurd he hwd⟩
end SX
end Go.Proofs.YtlgjjklikbpcoaaGreatDoor

/- Words read as an x86 instruction, plain: the program's and the reference's answer alike. -/
set_option linter.unusedVariables false
set_option maxRecDepth 100000
namespace Go.Proofs.YtlgjjklikbpcoaaGreatDoor
namespace SX
open Go Go.Proofs
def none_ (op : Int) : In := ⟨op, -1, -1, -1, 0, 0, 0, -1, 0, 0, false, false, false, 0, 0, 0, false⟩
def in0 : In := ⟨0, 0, 0, 0, 0, 0, 0, 0, 0, 0, false, false, false, 0, 0, 0, false⟩
def sufB (s e : List UInt8) : Bool := decide (e.length ≤ s.length) && decide (s.drop (s.length - e.length) = e)
def cutS (s e : List UInt8) : List UInt8 := if sufB s e then s.take (s.length - e.length) else s
def sizP (e0 e1 e2 e3 s : List UInt8) : List UInt8 × Int :=
  if sufB s e0 then (cutS s e0, 1) else if sufB s e1 then (cutS s e1, 2) else if sufB s e2 then (cutS s e2, 4) else if sufB s e3 then (cutS s e3, 8) else (s, 0)
def idx6 (s0 s1 s2 s3 s4 s5 v : List UInt8) : Int := if v = s0 then 0 else if v = s1 then 1 else if v = s2 then 2 else if v = s3 then 3 else if v = s4 then 4 else if v = s5 then 5 else -1
structure Rd where
  i : In
  known : Bool
  lb : List UInt8
/-! The reference's. -/
def szdF (t0 t1 t2 t3 nm hd : List UInt8) : Int :=
  if pre nm hd then (if nm.drop hd.length = t0 then 1 else if nm.drop hd.length = t1 then 2 else if nm.drop hd.length = t2 then 4 else if nm.drop hd.length = t3 then 8 else 0) else 0
def labR (ts : List Tk) (s : RS) : List UInt8 × RS := if s.e = 0 then (if (tkAt ts s.p).k = 1 then ((tkAt ts s.p).s, goF s) else ([], oddR ts false s)) else ([], s)
def brR (L : Lg) (ts : List Tk) (i : In) (z : Bool) (s : RS) : (In × List UInt8) × RS :=
  let r := regR L ts s
  let w := labR ts (markR ts [44] r.2)
  (({ i with op := 9, ze := z, a := r.1 }, w.1), w.2)
def blkI : In := none_ 0
/-! Names. -/
theorem suf1 {s : List UInt8} {c : UInt8} : sufB s [c] = true ↔ ∃ p, s = p ++ [c] := by
  unfold sufB
  simp only [List.length_singleton, Bool.and_eq_true, decide_eq_true_eq]
  constructor
  · rintro ⟨h1, h2⟩
    exact ⟨s.take (s.length - 1), by rw [← h2, List.take_append_drop]⟩
  · rintro ⟨p, rfl⟩
    simp
theorem cut1 {p : List UInt8} {c : UInt8} : cutS (p ++ [c]) [c] = p := by
  unfold cutS
  rw [if_pos (suf1.2 ⟨p, rfl⟩)]
  simp
theorem pre_iff {s h : List UInt8} : pre s h = true ↔ ∃ r, s = h ++ r := by
  unfold pre
  simp only [List.drop_zero, Bool.and_eq_true, decide_eq_true_eq]
  constructor
  · rintro ⟨h1, h2⟩
    exact ⟨s.drop h.length, by conv => lhs; rw [← List.take_append_drop h.length s, h2]⟩
  · rintro ⟨r, rfl⟩
    exact ⟨by simp; omega, by simp⟩
theorem szd_siz {a b c d : UInt8} (hab : a ≠ b) (hac : a ≠ c) (had : a ≠ d) (hbc : b ≠ c) (hbd : b ≠ d) (hcd : c ≠ d) (nm hd : List UInt8) :
    szdF [a] [b] [c] [d] nm hd = if (sizP [a] [b] [c] [d] nm).2 ≠ 0 ∧ (sizP [a] [b] [c] [d] nm).1 = hd then (sizP [a] [b] [c] [d] nm).2 else 0 := by
  have key : ∀ (x : UInt8) (p : List UInt8), (pre (p ++ [x]) hd = true ∧ (p ++ [x]).drop hd.length = [x] ↔ p = hd) := by
    intro x p
    constructor
    · rintro ⟨h1, h2⟩
      obtain ⟨r, hr⟩ := pre_iff.1 h1
      rw [hr, List.drop_left] at h2
      rw [h2] at hr
      exact (List.append_inj' hr rfl).1
    · rintro rfl
      exact ⟨pre_iff.2 ⟨[x], rfl⟩, by simp⟩
  have kel : ∀ (x y : UInt8) (p : List UInt8), x ≠ y → (p ++ [x]).drop hd.length ≠ [y] := by
    intro x y p hxy h
    have := congrArg List.getLast? h
    by_cases hl : hd.length ≤ p.length
    · rw [List.drop_append_of_le_length hl] at this
      simp at this
      exact hxy this
    · rw [List.drop_eq_nil_of_le (by simp; omega)] at h
      cases h
  have nst : ∀ (x y : UInt8) (p : List UInt8), x ≠ y → sufB (p ++ [x]) [y] = false := by
    intro x y p hxy
    cases h : sufB (p ++ [x]) [y] with
    | false => rfl
    | true =>
      obtain ⟨q, hq⟩ := suf1.1 h
      exact absurd (by simpa using (List.append_inj' hq rfl).2) hxy
  have yst : ∀ (x : UInt8) (p : List UInt8), sufB (p ++ [x]) [x] = true := fun x p => suf1.2 ⟨p, rfl⟩
  have go : ∀ (x : UInt8) (p : List UInt8) (z : Int), z ≠ 0 → (if pre (p ++ [x]) hd = true then (if (p ++ [x]).drop hd.length = [x] then z else 0) else 0) = if z ≠ 0 ∧ p = hd then z else 0 := by
    intro x p z hz
    have := key x p
    by_cases hp : p = hd
    · obtain ⟨h1, h2⟩ := this.2 hp
      rw [if_pos h1, if_pos h2, if_pos ⟨hz, hp⟩]
    · have hn : ¬ (z ≠ 0 ∧ p = hd) := fun hh => hp hh.2
      rw [if_neg hn]
      split
      · rename_i h1
        have hn2 : ¬ ((p ++ [x]).drop hd.length = [x]) := fun h2 => hp (this.1 ⟨h1, h2⟩)
        rw [if_neg hn2]
      · rfl
  by_cases h0 : sufB nm [a] = true
  · obtain ⟨p, rfl⟩ := suf1.1 h0
    have e : sizP [a] [b] [c] [d] (p ++ [a]) = (p, 1) := by unfold sizP; rw [if_pos h0, cut1]
    rw [e]
    rw [← go a p 1 (by decide)]
    unfold szdF
    simp only [if_neg (kel a b p hab), if_neg (kel a c p hac), if_neg (kel a d p had)]
  by_cases h1 : sufB nm [b] = true
  · obtain ⟨p, rfl⟩ := suf1.1 h1
    have e : sizP [a] [b] [c] [d] (p ++ [b]) = (p, 2) := by unfold sizP; rw [if_neg h0, if_pos h1, cut1]
    rw [e]
    rw [← go b p 2 (by decide)]
    unfold szdF
    simp only [if_neg (kel b a p (Ne.symm hab)), if_neg (kel b c p hbc), if_neg (kel b d p hbd)]
  by_cases h2 : sufB nm [c] = true
  · obtain ⟨p, rfl⟩ := suf1.1 h2
    have e : sizP [a] [b] [c] [d] (p ++ [c]) = (p, 4) := by unfold sizP; rw [if_neg h0, if_neg h1, if_pos h2, cut1]
    rw [e]
    rw [← go c p 4 (by decide)]
    unfold szdF
    simp only [if_neg (kel c a p (Ne.symm hac)), if_neg (kel c b p (Ne.symm hbc)), if_neg (kel c d p hcd)]
  by_cases h3 : sufB nm [d] = true
  · obtain ⟨p, rfl⟩ := suf1.1 h3
    have e : sizP [a] [b] [c] [d] (p ++ [d]) = (p, 8) := by unfold sizP; rw [if_neg h0, if_neg h1, if_neg h2, if_pos h3, cut1]
    rw [e]
    rw [← go d p 8 (by decide)]
    unfold szdF
    simp only [if_neg (kel d a p (Ne.symm had)), if_neg (kel d b p (Ne.symm hbd)), if_neg (kel d c p (Ne.symm hcd))]
  have e : sizP [a] [b] [c] [d] nm = (nm, 0) := by unfold sizP; rw [if_neg h0, if_neg h1, if_neg h2, if_neg h3]
  rw [e, if_neg (by simp)]
  unfold szdF
  split
  · rename_i hp
    obtain ⟨r, rfl⟩ := pre_iff.1 hp
    rw [List.drop_left]
    rw [if_neg (fun hr => h0 (suf1.2 ⟨hd, by rw [hr]⟩)), if_neg (fun hr => h1 (suf1.2 ⟨hd, by rw [hr]⟩)), if_neg (fun hr => h2 (suf1.2 ⟨hd, by rw [hr]⟩)), if_neg (fun hr => h3 (suf1.2 ⟨hd, by rw [hr]⟩))]
  · rfl
theorem lab_sim {ts : List Tk} {a b : RS} (h : nrm a = nrm b) : SmP a (wordP ts a) (labR ts b) := by
  by_cases ha : a.e = 0
  · obtain ⟨hb, hp⟩ := nrm_p h ha
    unfold wordP labR
    rw [if_pos ha, if_pos hb, ← hp]
    split
    · exact ⟨nrm_go h, fun _ => ⟨ha, rfl⟩⟩
    · exact ⟨by rw [miss_odd]; exact nrm_odd h, fun he => absurd he (miss_e ts a)⟩
  · have hb : ¬ b.e = 0 := fun hb => ha ((nrm_live h).2 hb)
    unfold wordP labR
    rw [if_neg ha, if_neg hb]
    exact ⟨h, fun he => absurd he ha⟩
structure WfA (ts : List Tk) : Prop where
  w : Wf ts
  k : ∀ p, (tkAt ts p).k = 0 ∨ (tkAt ts p).k = 1 ∨ (tkAt ts p).k = 2 ∨ (tkAt ts p).k = 3
  z : ∀ p, (tkAt ts p).k = 0 → (tkAt ts p).s = []
def Alike (a : RS) (x y : Rd × RS) : Prop := x.1.known = y.1.known ∧ nrm x.2 = nrm y.2 ∧ (x.1.known = true → x.2.e = 0 → x.1.i = y.1.i ∧ x.1.lb = y.1.lb)
theorem mem_simz {L : Lg} (hL : L.ix [] < 0) {ts : List Tk} {i : In} {z : Int} {a b : RS} (h : nrm a = nrm b) : SmP a (memP L ts i z a) (memR L ts { i with sz := z } b) := mem_sim hL (ts := ts) (i := { i with sz := z }) (z := z) rfl h
theorem plusP_st (L : Lg) (ts : List Tk) (i j : In) (s : RS) : (plusP L ts i s).2 = (plusP L ts j s).2 := by
  unfold plusP ixP
  split
  · split <;> rfl
  · rfl
theorem memP_st (L : Lg) (ts : List Tk) (i j : In) (z : Int) (s : RS) : (memP L ts i z s).2 = (memP L ts j z s).2 := by
  unfold memP
  dsimp only
  split
  · rw [plusP_st L ts _ { j with loc := (ofP locI ts (markP ts [91] s)).1, sz := z }]
  · rfl
end SX
end Go.Proofs.YtlgjjklikbpcoaaGreatDoor

/- An instruction parsed, plain: from the words to the answer; the program's and the reference's are alike. -/
set_option linter.unusedVariables false
set_option maxRecDepth 100000
namespace Go.Proofs.YtlgjjklikbpcoaaGreatDoor
namespace SX
open Go Go.Proofs
structure Pr where
  i : In
  lb : List UInt8
  e : Int
  q : Int
def rs0 : RS := ⟨0, 0, 0⟩
def outF (x : Rd) (s : RS) : Pr := if s.e = 0 then ⟨x.i, x.lb, 0, 0⟩ else ⟨in0, [], s.e, s.q⟩
def moreF (ts : List Tk) (s : RS) : RS := if s.p < ts.length then failF s 25 (whF ts s.p) else s
def endP (ts : List Tk) (first : Int) (x : Rd × RS) : Pr :=
  let s4 := moreF ts (if x.1.known then x.2 else failF x.2 21 first)
  outF x.1 (if rgtF x.1.i 0 1 = 34 then failF s4 34 first else s4)
def parseP (rd : List Tk → List UInt8 → RS → Rd × RS) (ts : List Tk) : Pr := endP ts (whF ts 0) (rd ts (wordP ts rs0).1 (wordP ts rs0).2)
def to1 (i : In) : In := if i.op = 9 then { i with to := 1 } else i
def endR (ts : List Tk) (first : Int) (x : Rd × RS) : Pr :=
  if x.1.known then
    let s3 := moreF ts x.2
    outF x.1 (if s3.e = 0 ∧ rgtF (to1 x.1.i) 0 1 ≠ 0 then failF s3 34 first else s3)
  else ⟨in0, [], 21, first⟩
def parseR (rd : List Tk → List UInt8 → RS → Rd × RS) (ts : List Tk) : Pr :=
  if (tkAt ts 0).k = 1 then endR ts (whF ts 0) (rd ts (tkAt ts 0).s (goF rs0))
  else ⟨in0, [], (oddR ts true rs0).e, (oddR ts true rs0).q⟩
theorem nrm_more {ts : List Tk} {a b : RS} (h : nrm a = nrm b) : nrm (moreF ts a) = nrm (moreF ts b) ∧ ((moreF ts a).e = 0 → a.e = 0) := by
  by_cases ha : a.e = 0
  · obtain ⟨hb, hp⟩ := nrm_p h ha
    refine ⟨?_, fun _ => ha⟩
    unfold moreF
    rw [← hp]
    split
    · exact nrm_fail h (fun _ => rfl) (fun _ => rfl)
    · exact h
  · have hb : ¬ b.e = 0 := fun hb => ha ((nrm_live h).2 hb)
    have e : ∀ s : RS, ¬ s.e = 0 → moreF ts s = s := fun s hs => by unfold moreF failF; simp only [if_neg hs, ite_self]
    rw [e a ha, e b hb]
    exact ⟨h, fun he => absurd he ha⟩
theorem nrm_q {a b : RS} (h : nrm a = nrm b) (ha : ¬ a.e = 0) : a.e = b.e ∧ a.q = b.q := by
  have hb : ¬ b.e = 0 := fun hb => ha ((nrm_live h).2 hb)
  unfold nrm at h
  rw [if_neg ha, if_neg hb] at h
  simpa using h
theorem out_alike {x y : Rd} {a b : RS} (h : nrm a = nrm b) (hxy : a.e = 0 → x.i = y.i ∧ x.lb = y.lb) : outF x a = outF y b := by
  unfold outF
  by_cases ha : a.e = 0
  · rw [if_pos ha, if_pos ((nrm_live h).1 ha), (hxy ha).1, (hxy ha).2]
  · have hb : ¬ b.e = 0 := fun hb => ha ((nrm_live h).2 hb)
    rw [if_neg ha, if_neg hb, (nrm_q h ha).1, (nrm_q h ha).2]
theorem fail_dead {s : RS} (h : ¬ s.e = 0) (e q : Int) : failF s e q = s := by unfold failF; rw [if_neg h]
theorem end_unk {ts : List Tk} {first : Int} {x : Rd × RS} (hk : x.1.known = false) : endP ts first x = ⟨in0, [], (failF x.2 21 first).e, (failF x.2 21 first).q⟩ := by
  have hd : ¬ (failF x.2 21 first).e = 0 := failF_e (by decide)
  unfold endP
  dsimp only
  rw [hk]
  simp only [Bool.false_eq_true, if_false]
  have e1 : moreF ts (failF x.2 21 first) = failF x.2 21 first := by unfold moreF; split; exact fail_dead hd _ _; rfl
  rw [e1]
  have e2 : (if rgtF x.1.i 0 1 = 34 then failF (failF x.2 21 first) 34 first else failF x.2 21 first) = failF x.2 21 first := by split; exact fail_dead hd _ _; rfl
  rw [e2]
  unfold outF
  rw [if_neg hd]
theorem rgt_to (i : In) : rgtF (to1 i) 0 1 ≠ 0 ↔ rgtF i 0 1 = 34 := by
  unfold to1
  by_cases h9 : i.op = 9
  · rw [if_pos h9]
    have hj : formP { i with to := 1 } = formP i := by
      obtain ⟨op, dst, a, b, imm, loc, off, ix, sz, fn, acq, wk, rel, pr, su, to, ze⟩ := i
      simp only at h9; subst h9
      show form9 _ = form9 _
      unfold form9 eqI
      simp
    unfold rgtF
    rw [hj]
    have ht : toX { i with to := 1 } 0 1 = false := by unfold toX; simp
    rw [ht]
    cases formP i
    · simp
    · simp only [if_true, Bool.false_eq_true, if_false]
      split <;> simp
  · rw [if_neg h9]
    unfold rgtF toX
    rw [decide_eq_false h9]
    cases formP i <;> simp
theorem parse_alike {rdP rdR : List Tk → List UInt8 → RS → Rd × RS} {ts : List Tk} (hnil : ∀ s, (rdP ts [] s).1.known = false) (hun : ∀ nm s, (rdP ts nm s).1.known = false → (rdP ts nm s).2 = s) (hrd : ∀ nm a b, nrm a = nrm b → a.e = 0 → Alike a (rdP ts nm a) (rdR ts nm b)) : parseP rdP ts = parseR rdR ts := by
  unfold parseP parseR
  by_cases hk : (tkAt ts 0).k = 1
  · rw [if_pos hk]
    have e1 : wordP ts rs0 = ((tkAt ts 0).s, goF rs0) := by unfold wordP; rw [if_pos (show rs0.e = 0 from rfl)]; exact if_pos hk
    rw [e1]
    dsimp only
    obtain ⟨h1, h2, h3⟩ := hrd (tkAt ts 0).s (goF rs0) (goF rs0) rfl rfl
    have h0 := hun (tkAt ts 0).s (goF rs0)
    generalize rdP ts (tkAt ts 0).s (goF rs0) = x at *
    generalize rdR ts (tkAt ts 0).s (goF rs0) = y at *
    cases hx : x.1.known with
    | false =>
      rw [end_unk hx]
      unfold endR
      rw [if_neg (by rw [← h1, hx]; decide)]
      have hl : x.2.e = 0 := by rw [h0 hx]; rfl
      unfold failF; rw [if_pos hl]
    | true =>
      unfold endP endR
      rw [← h1, hx]
      dsimp only
      simp only [if_true]
      have hm := nrm_more (ts := ts) h2
      by_cases hl : (moreF ts x.2).e = 0
      · have hl' := (nrm_live hm.1).1 hl
        obtain ⟨e3, e4⟩ := h3 hx (hm.2 hl)
        rw [e3]
        have hq : ((moreF ts y.2).e = 0 ∧ rgtF (to1 y.1.i) 0 1 ≠ 0) ↔ rgtF y.1.i 0 1 = 34 := by rw [← rgt_to]; exact ⟨fun h => h.2, fun h => ⟨hl', h⟩⟩
        by_cases hr : rgtF y.1.i 0 1 = 34
        · rw [if_pos hr, if_pos (hq.2 hr)]
          exact out_alike (nrm_fail hm.1 (fun _ => rfl) (fun _ => rfl)) fun _ => ⟨e3, e4⟩
        · rw [if_neg hr, if_neg (fun h => hr (hq.1 h))]
          exact out_alike hm.1 fun _ => ⟨e3, e4⟩
      · have hl' : ¬ (moreF ts y.2).e = 0 := fun h => hl ((nrm_live hm.1).2 h)
        have e5 : (if rgtF x.1.i 0 1 = 34 then failF (moreF ts x.2) 34 (whF ts 0) else moreF ts x.2) = moreF ts x.2 := by split; exact fail_dead hl _ _; rfl
        rw [e5, if_neg (fun h => hl' h.1)]
        exact out_alike hm.1 fun h => absurd h hl
  · rw [if_neg hk]
    have e1 : wordP ts rs0 = ([], missP ts rs0) := by unfold wordP; rw [if_pos (show rs0.e = 0 from rfl)]; exact if_neg hk
    rw [e1]
    dsimp only
    have h1 := hnil (missP ts rs0)
    have h2 := hun _ _ h1
    rw [end_unk h1, h2, fail_dead (miss_e ts rs0), miss_odd]
    have e2 : oddR ts true rs0 = oddR ts false rs0 := by
      unfold oddR
      rw [show rs0.p = 0 from rfl, decide_eq_false hk]; rfl
    rw [e2]
end SX
end Go.Proofs.YtlgjjklikbpcoaaGreatDoor

/- Words read as a RISC-V instruction, plain: the program's and the reference's answer alike. -/
set_option linter.unusedVariables false
set_option maxRecDepth 100000
namespace Go.Proofs.YtlgjjklikbpcoaaGreatDoor
namespace SX
open Go Go.Proofs
def fnV (v : List UInt8) : Int := idx6 [] [97, 100, 100] [115, 117, 98] [120, 111, 114] [97, 110, 100] [111, 114] v
def sideI (v : List UInt8) : Int := if v = [114] then 1 else if v = [119] then 2 else if v = [114, 119] then 3 else -1
def sizV (nm : List UInt8) : List UInt8 × Int := sizP [98] [104] [119] [100] nm
def atomP (nm : List UInt8) : In × Bool :=
  let n1 := cutS nm [46, 114, 108]
  let n2 := cutS n1 [46, 97, 113]
  let z := sizP [46, 98] [46, 104] [46, 119] [46, 100] n2
  let fn : Int := if z.1 = [97, 109, 111, 115, 119, 97, 112] then 6 else if z.1 = [97, 109, 111, 97, 100, 100] then 1 else 0
  ({ none_ 6 with rel := sufB nm [46, 114, 108], acq := sufB n1 [46, 97, 113], sz := z.2, fn := fn }, decide (0 < z.2) && decide (0 < fn))
def readVP (ts : List Tk) (nm : List UInt8) (s : RS) : Rd × RS :=
  let fn := fnV nm
  let fni := fnV (cutS nm [105])
  let z := sizV nm
  if nm = [108, 105] then
    let r := regP lgR ts s
    let w := numP ts (markP ts [44] r.2)
    (⟨{ none_ 1 with dst := r.1, imm := w.1 }, true, []⟩, w.2)
  else if nm = [109, 118] then
    let r := regP lgR ts s
    let w := regP lgR ts (markP ts [44] r.2)
    (⟨{ none_ 2 with dst := r.1, a := w.1 }, true, []⟩, w.2)
  else if 0 < fn ∨ (sufB nm [105] = true ∧ 0 < fni) then
    let r := regP lgR ts s
    let w := regP lgR ts (markP ts [44] r.2)
    let s3 := markP ts [44] w.2
    if 0 < fn then (⟨{ none_ 3 with dst := r.1, a := w.1, fn := (if fn < fni then fni else fn), b := (regP lgR ts s3).1 }, true, []⟩, (regP lgR ts s3).2)
    else (⟨{ none_ 3 with dst := r.1, a := w.1, fn := (if fn < fni then fni else fn), imm := (numP ts s3).1 }, true, []⟩, (numP ts s3).2)
  else if nm = [102, 101, 110, 99, 101] then
    let w := ofP sideI ts s
    let v := ofP sideI ts (markP ts [44] w.2)
    (⟨{ none_ 7 with pr := w.1, su := v.1 }, true, []⟩, v.2)
  else if nm = [98, 101, 113, 122] ∨ nm = [98, 110, 101, 122] then
    let r := regP lgR ts s
    let w := wordP ts (markP ts [44] r.2)
    (⟨{ none_ 9 with a := r.1, ze := decide (nm = [98, 101, 113, 122]) }, true, w.1⟩, w.2)
  else if 0 < z.2 ∧ z.1 = [108] then
    let r := regP lgR ts s
    let m := memP lgR ts { none_ 4 with dst := r.1 } z.2 (markP ts [44] r.2)
    (⟨m.1, true, []⟩, m.2)
  else if 0 < z.2 ∧ z.1 = [115] then
    let r := regP lgR ts s
    let m := memP lgR ts { none_ 5 with a := r.1 } z.2 (markP ts [44] r.2)
    (⟨m.1, true, []⟩, m.2)
  else if (atomP nm).2 = true then
    let r := regP lgR ts s
    let w := regP lgR ts (markP ts [44] r.2)
    let m := memP lgR ts { (atomP nm).1 with dst := r.1, a := w.1 } (atomP nm).1.sz (markP ts [44] w.2)
    (⟨m.1, true, []⟩, m.2)
  else (⟨(atomP nm).1, false, []⟩, s)
/-! The reference's. -/
def aluV (v : List UInt8) : Int × Bool :=
  if v = [97, 100, 100] then (1, false) else if v = [97, 100, 100, 105] then (1, true) else if v = [115, 117, 98] then (2, false) else if v = [115, 117, 98, 105] then (2, true) else if v = [120, 111, 114] then (3, false) else if v = [120, 111, 114, 105] then (3, true)
  else if v = [97, 110, 100] then (4, false) else if v = [97, 110, 100, 105] then (4, true) else if v = [111, 114] then (5, false) else if v = [111, 114, 105] then (5, true) else (0, false)
def szdV (nm hd : List UInt8) : Int := szdF [98] [104] [119] [100] nm hd
structure Am where
  fn : Int
  sz : Int
  aq : Bool
  rl : Bool
def amNames : List (List UInt8 × Am) :=
  [([97, 109, 111, 115, 119, 97, 112, 46, 98], ⟨6, 1, false, false⟩), ([97, 109, 111, 115, 119, 97, 112, 46, 98, 46, 97, 113], ⟨6, 1, true, false⟩), ([97, 109, 111, 115, 119, 97, 112, 46, 98, 46, 114, 108], ⟨6, 1, false, true⟩), ([97, 109, 111, 115, 119, 97, 112, 46, 98, 46, 97, 113, 46, 114, 108], ⟨6, 1, true, true⟩),
   ([97, 109, 111, 115, 119, 97, 112, 46, 104], ⟨6, 2, false, false⟩), ([97, 109, 111, 115, 119, 97, 112, 46, 104, 46, 97, 113], ⟨6, 2, true, false⟩), ([97, 109, 111, 115, 119, 97, 112, 46, 104, 46, 114, 108], ⟨6, 2, false, true⟩), ([97, 109, 111, 115, 119, 97, 112, 46, 104, 46, 97, 113, 46, 114, 108], ⟨6, 2, true, true⟩),
   ([97, 109, 111, 115, 119, 97, 112, 46, 119], ⟨6, 4, false, false⟩), ([97, 109, 111, 115, 119, 97, 112, 46, 119, 46, 97, 113], ⟨6, 4, true, false⟩), ([97, 109, 111, 115, 119, 97, 112, 46, 119, 46, 114, 108], ⟨6, 4, false, true⟩), ([97, 109, 111, 115, 119, 97, 112, 46, 119, 46, 97, 113, 46, 114, 108], ⟨6, 4, true, true⟩),
   ([97, 109, 111, 115, 119, 97, 112, 46, 100], ⟨6, 8, false, false⟩), ([97, 109, 111, 115, 119, 97, 112, 46, 100, 46, 97, 113], ⟨6, 8, true, false⟩), ([97, 109, 111, 115, 119, 97, 112, 46, 100, 46, 114, 108], ⟨6, 8, false, true⟩), ([97, 109, 111, 115, 119, 97, 112, 46, 100, 46, 97, 113, 46, 114, 108], ⟨6, 8, true, true⟩),
   ([97, 109, 111, 97, 100, 100, 46, 98], ⟨1, 1, false, false⟩), ([97, 109, 111, 97, 100, 100, 46, 98, 46, 97, 113], ⟨1, 1, true, false⟩), ([97, 109, 111, 97, 100, 100, 46, 98, 46, 114, 108], ⟨1, 1, false, true⟩), ([97, 109, 111, 97, 100, 100, 46, 98, 46, 97, 113, 46, 114, 108], ⟨1, 1, true, true⟩),
   ([97, 109, 111, 97, 100, 100, 46, 104], ⟨1, 2, false, false⟩), ([97, 109, 111, 97, 100, 100, 46, 104, 46, 97, 113], ⟨1, 2, true, false⟩), ([97, 109, 111, 97, 100, 100, 46, 104, 46, 114, 108], ⟨1, 2, false, true⟩), ([97, 109, 111, 97, 100, 100, 46, 104, 46, 97, 113, 46, 114, 108], ⟨1, 2, true, true⟩),
   ([97, 109, 111, 97, 100, 100, 46, 119], ⟨1, 4, false, false⟩), ([97, 109, 111, 97, 100, 100, 46, 119, 46, 97, 113], ⟨1, 4, true, false⟩), ([97, 109, 111, 97, 100, 100, 46, 119, 46, 114, 108], ⟨1, 4, false, true⟩), ([97, 109, 111, 97, 100, 100, 46, 119, 46, 97, 113, 46, 114, 108], ⟨1, 4, true, true⟩),
   ([97, 109, 111, 97, 100, 100, 46, 100], ⟨1, 8, false, false⟩), ([97, 109, 111, 97, 100, 100, 46, 100, 46, 97, 113], ⟨1, 8, true, false⟩), ([97, 109, 111, 97, 100, 100, 46, 100, 46, 114, 108], ⟨1, 8, false, true⟩), ([97, 109, 111, 97, 100, 100, 46, 100, 46, 97, 113, 46, 114, 108], ⟨1, 8, true, true⟩)]
def amFind : List (List UInt8 × Am) → List UInt8 → Am
  | [], _ => ⟨0, 0, false, false⟩
  | (n, x) :: r, v => if v = n then x else amFind r v
def amoR (v : List UInt8) : Am := amFind amNames v
def bitsR (ts : List Tk) (s : RS) : Int × RS := if s.e = 0 then (if (tkAt ts s.p).k = 1 ∧ 0 ≤ sideI (tkAt ts s.p).s then (sideI (tkAt ts s.p).s, goF s) else (0, oddR ts true s)) else (0, s)
def readVR (ts : List Tk) (nm : List UInt8) (s : RS) : Rd × RS :=
  let f := aluV nm
  let ld := szdV nm [108]
  let st := szdV nm [115]
  let x := amoR nm
  if nm = [108, 105] ∨ nm = [109, 118] then
    let r := regR lgR ts s
    let s2 := markR ts [44] r.2
    if nm = [108, 105] then (⟨{ blkI with dst := r.1, op := 1, imm := (immR lgR ts s2).1 }, true, []⟩, (immR lgR ts s2).2)
    else (⟨{ blkI with dst := r.1, op := 2, a := (regR lgR ts s2).1 }, true, []⟩, (regR lgR ts s2).2)
  else if 0 < f.1 then
    let r := regR lgR ts s
    let w := regR lgR ts (markR ts [44] r.2)
    let s3 := markR ts [44] w.2
    if f.2 then (⟨{ blkI with op := 3, fn := f.1, dst := r.1, a := w.1, imm := (immR lgR ts s3).1 }, true, []⟩, (immR lgR ts s3).2)
    else (⟨{ blkI with op := 3, fn := f.1, dst := r.1, a := w.1, b := (regR lgR ts s3).1 }, true, []⟩, (regR lgR ts s3).2)
  else if 0 < ld then
    let r := regR lgR ts s
    let m := memR lgR ts { blkI with op := 4, sz := ld, dst := r.1 } (markR ts [44] r.2)
    (⟨m.1, true, []⟩, m.2)
  else if 0 < st then
    let r := regR lgR ts s
    let m := memR lgR ts { blkI with op := 5, sz := st, a := r.1 } (markR ts [44] r.2)
    (⟨m.1, true, []⟩, m.2)
  else if 0 < x.fn then
    let r := regR lgR ts s
    let w := regR lgR ts (markR ts [44] r.2)
    let m := memR lgR ts { blkI with op := 6, fn := x.fn, sz := x.sz, acq := x.aq, rel := x.rl, dst := r.1, a := w.1 } (markR ts [44] w.2)
    (⟨m.1, true, []⟩, m.2)
  else if nm = [102, 101, 110, 99, 101] then
    let w := bitsR ts s
    let v := bitsR ts (markR ts [44] w.2)
    (⟨{ blkI with op := 7, pr := w.1, su := v.1 }, true, []⟩, v.2)
  else if nm = [98, 101, 113, 122] ∨ nm = [98, 110, 101, 122] then
    let w := brR lgR ts blkI (decide (nm = [98, 101, 113, 122])) s
    (⟨w.1.1, true, w.1.2⟩, w.2)
  else (⟨blkI, false, []⟩, s)
/-! Names. -/
theorem suf_iff {s e : List UInt8} (h : sufB s e = true) : s = cutS s e ++ e := by
  unfold cutS
  rw [if_pos h]
  unfold sufB at h
  simp only [Bool.and_eq_true, decide_eq_true_eq] at h
  conv => lhs; rw [← List.take_append_drop (s.length - e.length) s, h.2]
theorem suf_no {s e : List UInt8} (h : sufB s e = false) : cutS s e = s := by
  unfold cutS
  rw [if_neg (by rw [h]; decide)]
theorem siz_cases (e0 e1 e2 e3 nm : List UInt8) : (sizP e0 e1 e2 e3 nm = (nm, 0)) ∨ (nm = (sizP e0 e1 e2 e3 nm).1 ++ e0 ∧ (sizP e0 e1 e2 e3 nm).2 = 1) ∨ (nm = (sizP e0 e1 e2 e3 nm).1 ++ e1 ∧ (sizP e0 e1 e2 e3 nm).2 = 2) ∨ (nm = (sizP e0 e1 e2 e3 nm).1 ++ e2 ∧ (sizP e0 e1 e2 e3 nm).2 = 4) ∨ (nm = (sizP e0 e1 e2 e3 nm).1 ++ e3 ∧ (sizP e0 e1 e2 e3 nm).2 = 8) := by
  unfold sizP
  split
  · rename_i h; exact .inr (.inl ⟨suf_iff h, rfl⟩)
  split
  · rename_i h; exact .inr (.inr (.inl ⟨suf_iff h, rfl⟩))
  split
  · rename_i h; exact .inr (.inr (.inr (.inl ⟨suf_iff h, rfl⟩)))
  split
  · rename_i h; exact .inr (.inr (.inr (.inr ⟨suf_iff h, rfl⟩)))
  · exact .inl rfl
def amP (nm : List UInt8) : Am := if (atomP nm).2 = true then ⟨(atomP nm).1.fn, (atomP nm).1.sz, (atomP nm).1.acq, (atomP nm).1.rel⟩ else ⟨0, 0, false, false⟩
theorem am_all : ∀ x ∈ amNames, amP x.1 = x.2 := by
  unfold amNames
  intro x hx
  simp only [List.mem_cons, List.not_mem_nil, or_false] at hx
  rcases hx with h | h | h | h | h | h | h | h | h | h | h | h | h | h | h | h | h | h | h | h | h | h | h | h | h | h | h | h | h | h | h | h <;> (subst h; rfl)
theorem amFind_mem : ∀ (l : List (List UInt8 × Am)) (v : List UInt8), (∀ x ∈ l, x.1 ≠ v) → amFind l v = ⟨0, 0, false, false⟩
  | [], _, _ => rfl
  | (n, x) :: r, v, h => by
    simp only [amFind]
    rw [if_neg (fun e => h (n, x) (by simp) e.symm)]
    exact amFind_mem r v fun y hy => h y (List.mem_cons_of_mem _ hy)
theorem amFind_hit : ∀ (l : List (List UInt8 × Am)) (v : List UInt8) (f : List UInt8 → Am), (∀ x ∈ l, f x.1 = x.2) → (∃ x ∈ l, x.1 = v) → amFind l v = f v
  | [], _, _, _, ⟨_, h, _⟩ => by cases h
  | (n, x) :: r, v, f, hf, he => by
    simp only [amFind]
    by_cases e : v = n
    · rw [if_pos e, e]; exact (hf (n, x) (by simp)).symm
    · rw [if_neg e]
      refine amFind_hit r v f (fun y hy => hf y (List.mem_cons_of_mem _ hy)) ?_
      obtain ⟨y, hy, rfl⟩ := he
      rcases List.mem_cons.1 hy with rfl | hy
      · exact absurd rfl e
      · exact ⟨y, hy, rfl⟩
theorem atom_in {nm : List UInt8} (h : (atomP nm).2 = true) : ∃ x ∈ amNames, x.1 = nm := by
  suffices hs : (amNames.any fun x => decide (x.1 = nm)) = true by
    obtain ⟨x, h1, h2⟩ := List.any_eq_true.1 hs
    exact ⟨x, h1, of_decide_eq_true h2⟩
  unfold atomP at h
  dsimp only at h
  have h1 : nm = cutS nm [46, 114, 108] ++ [46, 114, 108] ∨ nm = cutS nm [46, 114, 108] := by
    cases hq : sufB nm [46, 114, 108] with
    | true => exact .inl (suf_iff hq)
    | false => exact .inr (suf_no hq).symm
  generalize cutS nm [46, 114, 108] = n1 at *
  have h2 : n1 = cutS n1 [46, 97, 113] ++ [46, 97, 113] ∨ n1 = cutS n1 [46, 97, 113] := by
    cases hq : sufB n1 [46, 97, 113] with
    | true => exact .inl (suf_iff hq)
    | false => exact .inr (suf_no hq).symm
  generalize cutS n1 [46, 97, 113] = n2 at *
  have h3 := siz_cases [46, 98] [46, 104] [46, 119] [46, 100] n2
  generalize sizP [46, 98] [46, 104] [46, 119] [46, 100] n2 = z at *
  simp only [Bool.and_eq_true, decide_eq_true_eq] at h
  have h4 : z.1 = [97, 109, 111, 115, 119, 97, 112] ∨ z.1 = [97, 109, 111, 97, 100, 100] := by
    by_cases e1 : z.1 = [97, 109, 111, 115, 119, 97, 112]
    · exact .inl e1
    · by_cases e2 : z.1 = [97, 109, 111, 97, 100, 100]
      · exact .inr e2
      · rw [if_neg e1, if_neg e2] at h
        exact absurd h.2 (by decide)
  rcases h3 with h3 | ⟨h3, _⟩ | ⟨h3, _⟩ | ⟨h3, _⟩ | ⟨h3, _⟩
  · rw [h3] at h; exact absurd h.1 (Int.lt_irrefl 0)
  all_goals
    rcases h4 with h4 | h4 <;> rw [h4] at h3 <;> subst h3 <;> rcases h2 with h2 | h2 <;> subst h2 <;> rcases h1 with h1 | h1 <;> subst h1 <;> rfl
theorem amo_eq (nm : List UInt8) : amoR nm = amP nm := by
  unfold amoR
  by_cases h : ∃ x ∈ amNames, x.1 = nm
  · exact amFind_hit _ _ _ am_all h
  · rw [amFind_mem _ _ fun x hx e => h ⟨x, hx, e⟩]
    unfold amP
    rw [if_neg fun hq => h (atom_in hq)]
theorem side_sim {ts : List Tk} {a b : RS} (h : nrm a = nrm b) : SmP a (ofP sideI ts a) (bitsR ts b) := of_sim (by decide) h 0
theorem aluV_n {nm : List UInt8} (h : 0 < fnV nm) : aluV nm = (fnV nm, false) ∧ fnV (cutS nm [105]) = fnV nm := by
  have h1 : nm = [97, 100, 100] ∨ nm = [115, 117, 98] ∨ nm = [120, 111, 114] ∨ nm = [97, 110, 100] ∨ nm = [111, 114] := by
    unfold fnV idx6 at h
    by_cases e0 : nm = []
    · rw [if_pos e0] at h; exact absurd h (by decide)
    rw [if_neg e0] at h
    by_cases e1 : nm = [97, 100, 100]
    · exact .inl e1
    by_cases e2 : nm = [115, 117, 98]
    · exact .inr (.inl e2)
    by_cases e3 : nm = [120, 111, 114]
    · exact .inr (.inr (.inl e3))
    by_cases e4 : nm = [97, 110, 100]
    · exact .inr (.inr (.inr (.inl e4)))
    by_cases e5 : nm = [111, 114]
    · exact .inr (.inr (.inr (.inr e5)))
    rw [if_neg e1, if_neg e2, if_neg e3, if_neg e4, if_neg e5] at h
    exact absurd h (by decide)
  rcases h1 with rfl | rfl | rfl | rfl | rfl <;> exact ⟨rfl, rfl⟩
theorem fnV_pos {v : List UInt8} (h : 0 < fnV v) : v = [97, 100, 100] ∨ v = [115, 117, 98] ∨ v = [120, 111, 114] ∨ v = [97, 110, 100] ∨ v = [111, 114] := by
  unfold fnV idx6 at h
  by_cases e0 : v = []
  · rw [if_pos e0] at h; exact absurd h (by decide)
  rw [if_neg e0] at h
  by_cases e1 : v = [97, 100, 100]
  · exact .inl e1
  by_cases e2 : v = [115, 117, 98]
  · exact .inr (.inl e2)
  by_cases e3 : v = [120, 111, 114]
  · exact .inr (.inr (.inl e3))
  by_cases e4 : v = [97, 110, 100]
  · exact .inr (.inr (.inr (.inl e4)))
  by_cases e5 : v = [111, 114]
  · exact .inr (.inr (.inr (.inr e5)))
  rw [if_neg e1, if_neg e2, if_neg e3, if_neg e4, if_neg e5] at h
  exact absurd h (by decide)
theorem aluV_i {nm : List UInt8} (h0 : ¬ 0 < fnV nm) (hs : sufB nm [105] = true) (h : 0 < fnV (cutS nm [105])) : aluV nm = (fnV (cutS nm [105]), true) ∧ fnV nm < fnV (cutS nm [105]) := by
  have h1 := fnV_pos h
  have h2 := suf_iff hs
  rcases h1 with e | e | e | e | e <;> rw [e] at h2 ⊢ <;> subst h2 <;> exact ⟨rfl, by decide⟩
theorem aluV_no {nm : List UInt8} (h0 : ¬ 0 < fnV nm) (h : ¬ (sufB nm [105] = true ∧ 0 < fnV (cutS nm [105]))) : (aluV nm).1 = 0 := by
  unfold aluV
  repeat' (split; first | (rename_i e; subst e; exact absurd (by decide) h0) | (rename_i e; subst e; exact absurd ⟨by decide, by decide⟩ h))
  rfl
theorem lgR_nil : lgR.ix [] < 0 := by decide
theorem numV_sim {ts : List Tk} (hw : WfA ts) {a b : RS} (h : nrm a = nrm b) : SmP a (numP ts a) (immR lgR ts b) := num_sim hw.w h
set_option maxHeartbeats 1000000 in
theorem riscv_alike {ts : List Tk} (hw : WfA ts) (nm : List UInt8) {a b : RS} (h : nrm a = nrm b) (ha : a.e = 0) : Alike a (readVP ts nm a) (readVR ts nm b) := by
  have hr := reg_sim lgR_nil (ts := ts) h
  have hm := mark_sim (ts := ts) (m := [44]) hr.1
  have hr2 := reg_sim lgR_nil (ts := ts) hm.1
  have hm2 := mark_sim (ts := ts) (m := [44]) hr2.1
  have hsz := szd_siz (a := 98) (b := 104) (c := 119) (d := 100) (by decide) (by decide) (by decide) (by decide) (by decide) (by decide) nm
  unfold readVP readVR
  dsimp only
  by_cases h1 : nm = [108, 105]
  · rw [if_pos h1, if_pos (.inl h1), if_pos h1]
    have hn := numV_sim hw hm.1
    refine ⟨rfl, hn.1, fun _ hl => ⟨?_, rfl⟩⟩
    obtain ⟨k1, k2⟩ := hn.2 hl
    obtain ⟨k3, k4⟩ := hr.2 (hm.2 k1)
    dsimp only
    rw [k2, k4]; rfl
  rw [if_neg h1]
  by_cases h2 : nm = [109, 118]
  · rw [if_pos h2, if_pos (.inr h2), if_neg h1]
    refine ⟨rfl, hr2.1, fun _ hl => ⟨?_, rfl⟩⟩
    obtain ⟨k1, k2⟩ := hr2.2 hl
    obtain ⟨k3, k4⟩ := hr.2 (hm.2 k1)
    dsimp only
    rw [k2, k4]; rfl
  have h12 : ¬ (nm = [108, 105] ∨ nm = [109, 118]) := fun hh => hh.elim h1 h2
  rw [if_neg h2, if_neg h12]
  by_cases h3 : 0 < fnV nm
  · obtain ⟨q1, q2⟩ := aluV_n h3
    rw [if_pos (.inl h3), q1, q2, if_pos h3]
    dsimp only
    rw [if_pos h3, if_neg (by decide : ¬ (false = true)), if_neg (Int.lt_irrefl _)]
    have hr3 := reg_sim lgR_nil (ts := ts) hm2.1
    refine ⟨rfl, hr3.1, fun _ hl => ⟨?_, rfl⟩⟩
    obtain ⟨k1, k2⟩ := hr3.2 hl
    obtain ⟨k3, k4⟩ := hr2.2 (hm2.2 k1)
    obtain ⟨k5, k6⟩ := hr.2 (hm.2 k3)
    dsimp only
    rw [k2, k4, k6]; rfl
  by_cases h4 : sufB nm [105] = true ∧ 0 < fnV (cutS nm [105])
  · obtain ⟨q1, q2⟩ := aluV_i h3 h4.1 h4.2
    rw [if_pos (.inr h4), q1, if_neg h3]
    dsimp only
    rw [if_pos h4.2, if_pos rfl, if_pos q2]
    have hn := numV_sim hw hm2.1
    refine ⟨rfl, hn.1, fun _ hl => ⟨?_, rfl⟩⟩
    obtain ⟨k1, k2⟩ := hn.2 hl
    obtain ⟨k3, k4⟩ := hr2.2 (hm2.2 k1)
    obtain ⟨k5, k6⟩ := hr.2 (hm.2 k3)
    dsimp only
    rw [k2, k4, k6]; rfl
  have h34 : ¬ (0 < fnV nm ∨ (sufB nm [105] = true ∧ 0 < fnV (cutS nm [105]))) := fun hh => hh.elim h3 h4
  rw [if_neg h34, aluV_no h3 h4, if_neg (Int.lt_irrefl 0)]
  by_cases h5 : nm = [102, 101, 110, 99, 101]
  · have q1 : szdV nm [108] = 0 := by rw [h5]; rfl
    have q2 : szdV nm [115] = 0 := by rw [h5]; rfl
    have q3 : (amoR nm).fn = 0 := by rw [h5]; rfl
    rw [if_pos h5, q1, q2, q3, if_neg (Int.lt_irrefl 0), if_neg (Int.lt_irrefl 0), if_neg (Int.lt_irrefl 0), if_pos h5]
    have hs := side_sim (ts := ts) h
    have hsm := mark_sim (ts := ts) (m := [44]) hs.1
    have hs2 := side_sim (ts := ts) hsm.1
    refine ⟨rfl, hs2.1, fun _ hl => ⟨?_, rfl⟩⟩
    obtain ⟨k1, k2⟩ := hs2.2 hl
    obtain ⟨k3, k4⟩ := hs.2 (hsm.2 k1)
    dsimp only
    rw [k2, k4]; rfl
  rw [if_neg h5]
  by_cases h6 : nm = [98, 101, 113, 122] ∨ nm = [98, 110, 101, 122]
  · have q1 : szdV nm [108] = 0 := by rcases h6 with e | e <;> rw [e] <;> rfl
    have q2 : szdV nm [115] = 0 := by rcases h6 with e | e <;> rw [e] <;> rfl
    have q3 : (amoR nm).fn = 0 := by rcases h6 with e | e <;> rw [e] <;> rfl
    rw [if_pos h6, q1, q2, q3, if_neg (Int.lt_irrefl 0), if_neg (Int.lt_irrefl 0), if_neg (Int.lt_irrefl 0), if_neg h5, if_pos h6]
    unfold brR
    dsimp only
    have hl := lab_sim (ts := ts) hm.1
    refine ⟨rfl, hl.1, fun _ hd => ?_⟩
    obtain ⟨k1, k2⟩ := hl.2 hd
    obtain ⟨k3, k4⟩ := hr.2 (hm.2 k1)
    exact ⟨by dsimp only; rw [k4]; rfl, k2⟩
  rw [if_neg h6]
  have ez : ∀ hd : List UInt8, szdV nm hd = if (sizV nm).2 ≠ 0 ∧ (sizV nm).1 = hd then (sizV nm).2 else 0 := fun hd => hsz hd
  have hz0 : (sizV nm).2 ≠ 0 → 0 < (sizV nm).2 := by
    intro hne
    rcases siz_cases [98] [104] [119] [100] nm with e | ⟨_, e⟩ | ⟨_, e⟩ | ⟨_, e⟩ | ⟨_, e⟩
    · exact absurd (congrArg Prod.snd e) hne
    all_goals (show 0 < (sizP [98] [104] [119] [100] nm).2; rw [e]; decide)
  rw [ez, ez]
  generalize sizV nm = z at *
  by_cases h7 : 0 < z.2 ∧ z.1 = [108]
  · have h7' : z.2 ≠ 0 ∧ z.1 = [108] := ⟨by omega, h7.2⟩
    rw [if_pos h7, if_pos h7', if_pos h7.1]
    have hmm := mem_simz lgR_nil (ts := ts) (i := { none_ 4 with dst := (regR lgR ts b).1 }) (z := z.2) hm.1
    have est := memP_st lgR ts { none_ 4 with dst := (regP lgR ts a).1 } { none_ 4 with dst := (regR lgR ts b).1 } z.2 (markP ts [44] (regP lgR ts a).2)
    refine ⟨rfl, by rw [est]; exact hmm.1, fun _ hl => ⟨?_, rfl⟩⟩
    dsimp only at hl
    rw [est] at hl
    obtain ⟨k1, k2⟩ := hmm.2 hl
    obtain ⟨k3, k4⟩ := hr.2 (hm.2 k1)
    dsimp only
    rw [k4, k2]; rfl
  have h7' : ¬ (z.2 ≠ 0 ∧ z.1 = [108]) := fun hh => h7 ⟨hz0 hh.1, hh.2⟩
  rw [if_neg h7, if_neg h7', if_neg (Int.lt_irrefl 0)]
  by_cases h8 : 0 < z.2 ∧ z.1 = [115]
  · have h8' : z.2 ≠ 0 ∧ z.1 = [115] := ⟨by omega, h8.2⟩
    rw [if_pos h8, if_pos h8', if_pos h8.1]
    have hmm := mem_simz lgR_nil (ts := ts) (i := { none_ 5 with a := (regR lgR ts b).1 }) (z := z.2) hm.1
    have est := memP_st lgR ts { none_ 5 with a := (regP lgR ts a).1 } { none_ 5 with a := (regR lgR ts b).1 } z.2 (markP ts [44] (regP lgR ts a).2)
    refine ⟨rfl, by rw [est]; exact hmm.1, fun _ hl => ⟨?_, rfl⟩⟩
    dsimp only at hl
    rw [est] at hl
    obtain ⟨k1, k2⟩ := hmm.2 hl
    obtain ⟨k3, k4⟩ := hr.2 (hm.2 k1)
    dsimp only
    rw [k4, k2]; rfl
  have h8' : ¬ (z.2 ≠ 0 ∧ z.1 = [115]) := fun hh => h8 ⟨hz0 hh.1, hh.2⟩
  rw [if_neg h8, if_neg h8', if_neg (Int.lt_irrefl 0), amo_eq]
  unfold amP
  by_cases h9 : (atomP nm).2 = true
  · have hfn : 0 < (atomP nm).1.fn := by
      unfold atomP at h9 ⊢
      simp only [Bool.and_eq_true, decide_eq_true_eq] at h9
      exact h9.2
    have hop : ∃ fn sz aq rl, (atomP nm).1 = { none_ 6 with rel := rl, acq := aq, sz := sz, fn := fn } := ⟨_, _, _, _, rfl⟩
    rw [if_pos h9, if_pos h9, if_pos hfn]
    dsimp only
    obtain ⟨fn, sz, aq, rl, hat⟩ := hop
    rw [hat]
    have hmm := mem_simz lgR_nil (ts := ts) (i := { none_ 6 with rel := rl, acq := aq, sz := sz, fn := fn, dst := (regR lgR ts b).1, a := (regR lgR ts (markR ts [44] (regR lgR ts b).2)).1 }) (z := sz) hm2.1
    have est := memP_st lgR ts { none_ 6 with rel := rl, acq := aq, sz := sz, fn := fn, dst := (regP lgR ts a).1, a := (regP lgR ts (markP ts [44] (regP lgR ts a).2)).1 } { none_ 6 with rel := rl, acq := aq, sz := sz, fn := fn, dst := (regR lgR ts b).1, a := (regR lgR ts (markR ts [44] (regR lgR ts b).2)).1 } sz (markP ts [44] (regP lgR ts (markP ts [44] (regP lgR ts a).2)).2)
    refine ⟨rfl, by dsimp only; rw [est]; exact hmm.1, fun _ hl => ⟨?_, rfl⟩⟩
    dsimp only at hl
    rw [est] at hl
    obtain ⟨k1, k2⟩ := hmm.2 hl
    obtain ⟨k3, k4⟩ := hr2.2 (hm2.2 k1)
    obtain ⟨k5, k6⟩ := hr.2 (hm.2 k3)
    dsimp only
    rw [k4, k6, k2]; rfl
  · rw [if_neg h9, if_neg h9, if_neg (by decide : ¬ (0 : Int) < (⟨0, 0, false, false⟩ : Am).fn), if_neg h5, if_neg h6]
    exact ⟨rfl, h, fun hh => Bool.noConfusion hh⟩
theorem riscv_nil (ts : List Tk) (s : RS) : (readVP ts [] s).1.known = false := rfl
theorem riscv_un (ts : List Tk) (nm : List UInt8) (s : RS) (h : (readVP ts nm s).1.known = false) : (readVP ts nm s).2 = s := by
  unfold readVP at h ⊢
  dsimp only at h ⊢
  repeat' split at h
  all_goals first | (cases h; done) | skip
  all_goals (repeat (first | rw [if_neg (by assumption)] | rw [if_pos (by assumption)]))
theorem riscv_parse {ts : List Tk} (hw : WfA ts) : parseP readVP ts = parseR readVR ts := parse_alike (riscv_nil ts) (riscv_un ts) fun nm a b h ha => riscv_alike hw nm h ha
end SX
end Go.Proofs.YtlgjjklikbpcoaaGreatDoor

/- Words read as an Arm instruction, plain: the program's and the reference's answer alike. -/
set_option linter.unusedVariables false
set_option maxRecDepth 100000
namespace Go.Proofs.YtlgjjklikbpcoaaGreatDoor
namespace SX
open Go Go.Proofs
/-! The reference's. -/
/-! Names. -/
end SX
end Go.Proofs.YtlgjjklikbpcoaaGreatDoor

/- Words of a text: what each of them is like. -/
set_option linter.unusedVariables false
set_option maxRecDepth 100000
namespace Go.Proofs.YtlgjjklikbpcoaaGreatDoor
namespace SX
open Go Go.Proofs
theorem wrap_wrap (n : Int) : IntKind.i64.wrap (IntKind.i64.wrap n) = IntKind.i64.wrap n := by
  have h : -9223372036854775808 ≤ IntKind.i64.wrap n ∧ IntKind.i64.wrap n ≤ 9223372036854775807 := by rw [IntKind.wrap_i64]; omega
  exact w64 h.1 h.2
theorem wrap_0 : IntKind.i64.wrap 0 = 0 := by decide
structure GoodT (t : Tk) : Prop where
  k : t.k = 1 ∨ t.k = 2 ∨ t.k = 3
  nam : t.k = 1 → letB (cd t.s 0) = true ∨ cd t.s 0 = 95
  num : IntKind.i64.wrap t.n = t.n
theorem cd_take {s : List UInt8} {n : Nat} (h : 0 < n) : cd (s.take n) 0 = cd s 0 := by
  unfold cd
  rw [List.getD_eq_getElem?_getD, List.getElem?_take_of_lt h, List.getD_eq_getElem?_getD]
theorem step_good {s : List UInt8} {p : Nat} {t : Tk} (h : stepF s p = .tok t) : GoodT t := by
  unfold stepF at h
  split at h
  · cases h
  split at h
  · split at h <;> cases h
  split at h
  · split at h
    · cases h
    · cases h
      exact ⟨.inr (.inl rfl), fun hh => absurd hh (by show ¬ (2 : Int) = 1; decide), wrap_wrap _⟩
  split at h
  · rename_i hl
    cases h
    refine ⟨.inl rfl, fun _ => ?_, wrap_0⟩
    have hne : s ≠ [] := by rintro rfl; exact absurd hl (by decide)
    have hp : 0 < rowF namB s := rowF_pos hne (by
      unfold namB
      simp only [Bool.or_eq_true, decide_eq_true_eq] at hl ⊢
      rcases hl with hl | hl
      · exact .inl (.inl (.inl hl))
      · exact .inl (.inr hl))
    show letB (cd (s.take (rowF namB s)) 0) = true ∨ cd (s.take (rowF namB s)) 0 = 95
    rw [cd_take hp]
    simpa using hl
  split at h
  · cases h
    exact ⟨.inr (.inr rfl), fun hh => absurd hh (by show ¬ (3 : Int) = 1; decide), wrap_0⟩
  split at h
  · cases h
    exact ⟨.inr (.inr rfl), fun hh => absurd hh (by show ¬ (3 : Int) = 1; decide), wrap_0⟩
  · cases h
theorem tokC_good {s : List UInt8} : ∀ {f p : Nat} {out : List Tk}, (∀ t ∈ out, GoodT t) → ∀ t ∈ (tokC s f p out).1, GoodT t
  | 0, _, out, h => h
  | f + 1, p, out, h => by
    unfold tokC
    split
    · exact h
    · split
      · exact tokC_good h
      · rename_i t ht
        refine tokC_good fun x hx => ?_
        rcases List.mem_append.1 hx with hx | hx
        · exact h x hx
        · rw [List.mem_singleton.1 hx]; exact step_good ht
      · intro t ht; cases ht
theorem tokF_good (s : List UInt8) : ∀ t ∈ (tokF s).1, GoodT t := by
  unfold tokF
  split
  · intro t ht; cases ht
  · exact tokC_good fun t ht => by cases ht
theorem wfA_of {ts : List Tk} (h : ∀ t ∈ ts, GoodT t) : WfA ts := by
  have key : ∀ p, GoodT (tkAt ts p) ∨ tkAt ts p = tk0 := by
    intro p
    unfold tkAt
    rw [List.getD_eq_getElem?_getD]
    cases hx : ts[p]? with
    | none => exact .inr rfl
    | some t => exact .inl (h t (List.mem_of_getElem? hx))
  refine ⟨fun p => ?_, fun p => ?_, fun p hp => ?_⟩
  · rcases key p with g | e
    · exact ⟨g.nam, g.num⟩
    · rw [e]; exact ⟨fun hh => absurd hh (by decide), by decide⟩
  · rcases key p with g | e
    · exact .inr g.k
    · rw [e]; exact .inl rfl
  · rcases key p with g | e
    · rcases g.k with hk | hk | hk <;> rw [hk] at hp <;> exact absurd hp (by decide)
    · rw [e]; rfl
theorem tok_wf (s : List UInt8) : WfA (tokF s).1 := wfA_of (tokF_good s)
end SX
end Go.Proofs.YtlgjjklikbpcoaaGreatDoor

/- Words of a text that is put together: what they are. -/
set_option linter.unusedVariables false
set_option maxRecDepth 100000
namespace Go.Proofs.YtlgjjklikbpcoaaGreatDoor
namespace SX
open Go Go.Proofs
abbrev Ky := Int × List UInt8 × Int
def key (t : Tk) : Ky := (t.k, t.s, t.n)
/-! Digits. -/
theorem step_len {s : List UInt8} {p : Nat} {t : Tk} (h : stepF s p = .tok t) : t.s.length ≤ s.length := by
  unfold stepF at h
  split at h
  · cases h
  split at h
  · split at h <;> cases h
  split at h
  · split at h <;> cases h
    exact List.length_take_le' _ _
  split at h
  · cases h; exact List.length_take_le' _ _
  split at h
  · cases h; exact List.length_take_le' _ _
  split at h
  · cases h; exact List.length_take_le' _ _
  · cases h
end SX
end Go.Proofs.YtlgjjklikbpcoaaGreatDoor

/- Instructions' texts, word by word; read again. -/
set_option linter.unusedVariables false
set_option maxRecDepth 100000
namespace Go.Proofs.YtlgjjklikbpcoaaGreatDoor
namespace SX
open Go Go.Proofs
/-! What stands behind a place. -/
def st (p : Nat) : RS := ⟨p, 0, 0⟩
/-! Texts. -/
end SX
end Go.Proofs.YtlgjjklikbpcoaaGreatDoor

/- Words of a text, plain: blanks first. -/
set_option linter.unusedVariables false
namespace Go.Proofs.YtlgjjklikbpcoaaGreatDoor
namespace SX
open Go Go.Proofs
end SX
end Go.Proofs.YtlgjjklikbpcoaaGreatDoor

/- Words of a text: the reference's small functions. -/
set_option linter.unusedVariables false
set_option maxRecDepth 100000
namespace Go.Proofs.YtlgjjklikbpcoaaGreatDoor
namespace SX
open Go Go.Proofs
end SX
end Go.Proofs.YtlgjjklikbpcoaaGreatDoor

/- Words of a text: the reference's numbers. -/
set_option linter.unusedVariables false
set_option maxRecDepth 100000
namespace Go.Proofs.YtlgjjklikbpcoaaGreatDoor
namespace SX
open Go Go.Proofs
end SX
end Go.Proofs.YtlgjjklikbpcoaaGreatDoor

/- Words of a text: the reference's Value. Printed by rkc.py. -/
set_option linter.unusedVariables false
set_option maxRecDepth 100000
namespace Go.Proofs.YtlgjjklikbpcoaaGreatDoor
namespace SX
open Go Go.Proofs
end SX
end Go.Proofs.YtlgjjklikbpcoaaGreatDoor

/- Words of a text: where a comment ends, plain; the reference's blanks, plain. -/
set_option linter.unusedVariables false
set_option maxRecDepth 100000
namespace Go.Proofs.YtlgjjklikbpcoaaGreatDoor
namespace SX
open Go Go.Proofs
end SX
end Go.Proofs.YtlgjjklikbpcoaaGreatDoor

/- Words of a text: the reference's blanks. -/
set_option linter.unusedVariables false
set_option maxRecDepth 100000
namespace Go.Proofs.YtlgjjklikbpcoaaGreatDoor
namespace SX
open Go Go.Proofs
end SX
end Go.Proofs.YtlgjjklikbpcoaaGreatDoor

/- Words of a text: the reference's Tokens (written by tools/rkf.py). -/
set_option linter.unusedVariables false
set_option maxRecDepth 100000
namespace Go.Proofs.YtlgjjklikbpcoaaGreatDoor
namespace SX
open Go Go.Proofs
end SX
end Go.Proofs.YtlgjjklikbpcoaaGreatDoor

/- Is a text one name: the reference's answer. -/
set_option linter.unusedVariables false
set_option maxRecDepth 100000
namespace Go.Proofs.YtlgjjklikbpcoaaGreatDoor
namespace SX
open Go Go.Proofs
end SX
end Go.Proofs.YtlgjjklikbpcoaaGreatDoor

/- Readers of words: rules; the cursor's functions. -/
set_option linter.unusedVariables false
set_option maxRecDepth 100000
namespace Go.Proofs.YtlgjjklikbpcoaaGreatDoor
namespace SX
open Go Go.Proofs
section
variable {P : Program} {T : Tb}
theorem Ctr.enterH (hT : TabOk P T) {f : FuncId} {fn : Func} {c : Code} {n : Nat} (hf : P.funcs[f]? = some fn) (hb : fn.body = some c) (hn : fn.ntmps = n) (hnm : (fn.name == "runtime.NumGoroutine") = false) {args : List SV} {H H' : List SB} {r : SV}
    (hl : Nat.ble args.length n = true) (hr : Bnd H'.length r) (hH : BndH H'.length H') (hle : H.length ≤ H'.length) (h : sx P T c (retK T fn.results.toList (fun r' h => r' = r ∧ ∃ X, h = H' ++ X)) ⟨args ++ List.replicate (n - args.length) .dead, H⟩) : Ctr P f args H (fun r' h => r' = r ∧ h = H') := by
  have h1 := Ctr.enter hT hf hb hn hnm hl h
  exact h1.trim callX_m fun r' H1 ⟨e, X, hX⟩ => ⟨H', X, hX, hle, hH, by rw [e]; exact hr, e, rfl⟩
variable {ops : Array Oper} {o : Oper}
theorem OpC.callH {K : St → Prop} {t : List SV} {h : List SB} {c : Call} (hop : o.op = .call c) {fo : Operand} (hcal : c.callee = .value fo) (hg : guardOf ops t o = some []) {f : FuncId} {fst caps : List SV} (hf : calB (evG [] t fo) = some (f, fst, caps))
    (ks : List Nat) {ρ : Nat → Nat} (hρ : rho ks h.length = ρ) {args0 : List SV} {H0 H1 : List SB} {r0 : SV} (hc : Ctr P f args0 H0 (fun r h => r = r0 ∧ h = H1))
    (ha : fst ++ (c.args.toList.map (evG [] t) ++ caps) = renL ρ args0) (hl : (c.args.toList.map (evG [] t)).all live = true) (hnd : nodupB ks = true) (hks : ks.length = H0.length) (hH : Lent ρ h H0 0) (hlen : H1.length = H0.length)
    (hK : setBK h (zipB ρ H1 0) fun h2 => putK t h2 o.dst (ren ρ r0) K) : OpC P T ops o K ⟨t, h⟩ := by
  refine OpC.callL hop hcal hg hf ks 0 (ns := []) rfl (h1 := h) (by simp) (ρ := ρ) (by rw [List.append_nil]; exact hρ) hc ha hl (by rw [List.append_nil]; exact hnd) hks hH rfl (fun r H' hk => ?_) ?_
  · rw [hk.2, List.append_nil, hlen, hks]; exact ⟨Nat.le_refl _, Nat.le_refl _⟩
  · rintro r H' ⟨rfl, rfl⟩
    exact hK
end
section
variable (ts : List Tk) (ad : Option Addr) (cap : Nat)
def curB (p : Nat) : SB := .mem 208 [.imm Tk tk0 4 tkenc ts ad cap, .i .i64 p] 1 0
def rdrB (c l : Nat) (lb : List UInt8) (e q : Int) : SB := .mem 121 [.ptr c 1 0 [], .ptr l 1 0 [], .s lb, .i .i64 e, .i .i64 q] 1 0
end
variable {ts : List Tk} {ad : Option Addr} {cap : Nat}
theorem bndCur {M p : Nat} : BndB M (curB ts ad cap p) := ⟨rfl, rfl, trivial⟩
theorem wfn {p : Nat} (hp : p ≤ ts.length) (hl : ts.length ≤ 100000) : IntKind.i64.wrap ((p : Int) + 1) = ((p + 1 : Nat) : Int) := w64 (by omega) (by omega)
theorem left_ok {p : Nat} (hp : p ≤ ts.length) (hl : ts.length ≤ 100000) : Ctr Tryz.prog 87 [.ptr 0 1 0 []] [curB ts ad cap p] (fun r h => r = .i .i64 ((ts.length - p : Nat) : Int) ∧ h = [curB ts ad cap p]) := by
  have e : IntKind.i64.wrap ((ts.length : Int) - (p : Int)) = ((ts.length - p : Nat) : Int) := by rw [w64 (by omega) (by omega)]; omega
  rw [← e]
  refine Ctr.enterH tabOkF (fn := Tryz.f87) rfl rfl rfl rfl rfl rfl ⟨bndCur, trivial⟩ (Nat.le_refl _) ?_
  refine WpC.dr tabOkF mixed 0 ?_
  refine ⟨by kernel_rfl, ?_⟩
  exact ⟨rfl, _, rfl⟩
theorem peek_ok {p : Nat} (hp : p ≤ ts.length) : Ctr Tryz.prog 165 [.ptr 0 1 0 []] [curB ts ad cap p] (fun r h => r = .tup [.agg (tkenc (tkAt ts p)), .b (decide (p < ts.length))] ∧ h = [curB ts ad cap p]) := by
  refine Ctr.enterH tabOkF (fn := Tryz.f165) rfl rfl rfl rfl rfl rfl ⟨bndCur, trivial⟩ (Nat.le_refl _) ?_
  refine WpC.dr tabOkF mixed 0 ?_
  refine ⟨by kernel_rfl, ?_⟩
  refine ⟨fun h1 => ?_, fun h1 => ?_⟩
  · have h1 : (p : Int) = (ts.length : Int) := of_decide_eq_true h1
    have e1 : tkAt ts p = tk0 := by unfold tkAt; rw [List.getD_eq_getElem?_getD, List.getElem?_eq_none (by omega)]; rfl
    rw [e1, decide_eq_false (by omega)]
    exact ⟨rfl, _, rfl⟩
  · have h1 : ¬ (p : Int) = (ts.length : Int) := of_decide_eq_false h1
    rw [decide_eq_true (by omega)]
    refine WpC.dr tabOkF mixed 0 ?_
    refine ⟨fun _ => ⟨by omega, by omega⟩, ?_⟩
    refine ⟨by kernel_rfl, ?_⟩
    exact ⟨rfl, _, rfl⟩
theorem next_ok {p : Nat} (hp : p < ts.length) (hl : ts.length ≤ 100000) : Ctr Tryz.prog 189 [.ptr 0 1 0 []] [curB ts ad cap p] (fun r h => r = .tup [.agg (tkenc (tkAt ts p)), .b true] ∧ h = [curB ts ad cap (p + 1)]) := by
  have hk := peek_ok (ad := ad) (cap := cap) (p := p) (ts := ts) (by omega)
  rw [decide_eq_true hp] at hk
  have e1 := wfn (ts := ts) (p := p) (by omega) hl
  have eB : curB ts ad cap (p + 1) = .mem 208 [.imm Tk tk0 4 tkenc ts ad cap, .i .i64 (IntKind.i64.wrap ((p : Int) + 1))] 1 0 := by rw [e1]; rfl
  rw [eB]
  refine Ctr.enterH tabOkF (fn := Tryz.f189) rfl rfl rfl rfl rfl rfl ⟨⟨rfl, rfl, trivial⟩, trivial⟩ (Nat.le_refl _) ?_
  refine OpC.callH rfl rfl rfl rfl [0] rfl hk rfl rfl rfl rfl ⟨rfl, trivial⟩ rfl ?_
  refine ⟨fun _ => ?_, fun h => no_tf h⟩
  exact ⟨rfl, _, rfl⟩
theorem name_ok {p : Nat} (hp : p ≤ ts.length) (hl : ts.length ≤ 100000) : Ctr Tryz.prog 216 [.ptr 0 1 0 []] [curB ts ad cap p]
    (fun r h => r = .tup [.s (if (tkAt ts p).k = 1 then (tkAt ts p).s else []), .b (decide ((tkAt ts p).k = 1))] ∧ h = [curB ts ad cap (if (tkAt ts p).k = 1 then p + 1 else p)]) := by
  have hk := peek_ok (ad := ad) (cap := cap) hp
  by_cases h1 : (tkAt ts p).k = 1
  · have hlt := at_lt (ts := ts) (p := p) (by rw [h1]; decide)
    rw [if_pos h1, if_pos h1, decide_eq_true h1]
    rw [decide_eq_true hlt] at hk
    have e1 := wfn (ts := ts) (p := p) (by omega) hl
    have eB : curB ts ad cap (p + 1) = .mem 208 [.imm Tk tk0 4 tkenc ts ad cap, .i .i64 (IntKind.i64.wrap ((p : Int) + 1))] 1 0 := by rw [e1]; rfl
    rw [eB]
    refine Ctr.enterH tabOkF (fn := Tryz.f216) rfl rfl rfl rfl rfl rfl ⟨⟨rfl, rfl, trivial⟩, trivial⟩ (Nat.le_refl _) ?_
    refine OpC.callH rfl rfl rfl rfl [0] rfl hk rfl rfl rfl rfl ⟨rfl, trivial⟩ rfl ?_
    refine ⟨fun h => ?_, fun _ => ⟨rfl, _, rfl⟩⟩
    have h : (!decide ((tkAt ts p).k = 1)) = true := h
    rw [decide_eq_true h1] at h; cases h
  · rw [if_neg h1, if_neg h1, decide_eq_false h1]
    refine Ctr.enterH tabOkF (fn := Tryz.f216) rfl rfl rfl rfl rfl rfl ⟨bndCur, trivial⟩ (Nat.le_refl _) ?_
    refine OpC.callH rfl rfl rfl rfl [0] rfl hk rfl rfl rfl rfl ⟨rfl, trivial⟩ rfl ?_
    refine ⟨fun _ => ⟨rfl, _, rfl⟩, fun h => ?_⟩
    have h : ((!decide (p < ts.length)) || (!decide ((tkAt ts p).k = 1))) = false := h
    rw [decide_eq_false h1, Bool.not_false, Bool.or_true] at h; cases h
theorem at_ok {p : Nat} (hp : p ≤ ts.length) (hl : ts.length ≤ 100000) : Ctr Tryz.prog 85 [.ptr 0 1 0 []] [curB ts ad cap p] (fun r h => r = .i .i64 (whF ts p) ∧ h = [curB ts ad cap p]) := by
  have hk := peek_ok (ad := ad) (cap := cap) hp
  refine Ctr.enterH tabOkF (fn := Tryz.f85) rfl rfl rfl rfl rfl rfl ⟨bndCur, trivial⟩ (Nat.le_refl _) ?_
  refine OpC.callH rfl rfl rfl rfl [0] rfl hk rfl rfl rfl rfl ⟨rfl, trivial⟩ rfl ?_
  unfold whF
  refine ⟨fun h1 => ?_, fun h1 => ?_⟩
  · have h1 : p < ts.length := of_decide_eq_true h1
    rw [if_pos h1]
    exact ⟨rfl, _, rfl⟩
  · have h1 : ¬ p < ts.length := of_decide_eq_false h1
    rw [if_neg h1]
    refine ⟨fun h2 => ?_, fun h2 => ?_⟩
    · have h2 : (ts.length : Int) = 0 := of_decide_eq_true h2
      rw [if_pos (by omega)]
      exact ⟨rfl, _, rfl⟩
    · have h2 : ¬ (ts.length : Int) = 0 := of_decide_eq_false h2
      rw [if_neg (by omega)]
      have e1 : IntKind.i64.wrap ((ts.length : Int) - 1) = ((ts.length - 1 : Nat) : Int) := by rw [w64 (by omega) (by omega)]; omega
      refine WpC.dr tabOkF mixed 1 ?_
      refine ⟨fun _ => ?_, ?_⟩
      · show (0 : Int) ≤ IntKind.i64.wrap ((ts.length : Int) - 1) ∧ IntKind.i64.wrap ((ts.length : Int) - 1) < (ts.length : Int)
        rw [e1]; omega
      refine ⟨by kernel_rfl, ?_⟩
      refine ⟨i_cg ?_, _, rfl⟩
      show IntKind.i64.wrap ((ts.getD (IntKind.i64.wrap ((ts.length : Int) - 1)).toNat tk0).a + ((ts.getD (IntKind.i64.wrap ((ts.length : Int) - 1)).toNat tk0).s.length : Int)) = _
      rw [e1, Int.toNat_natCast]; rfl
end SX
end Go.Proofs.YtlgjjklikbpcoaaGreatDoor

/- Readers of words: Take of one mark. -/
set_option linter.unusedVariables false
set_option maxRecDepth 100000
namespace Go.Proofs.YtlgjjklikbpcoaaGreatDoor
namespace SX
open Go Go.Proofs
variable {ts : List Tk} {ad : Option Addr} {cap : Nat}
theorem take_in {m : List UInt8} {p : Nat} (hlt : p < ts.length) (e0 : IntKind.i64.wrap ((p : Int) + ((0 : Nat) : Int)) = (p : Int)) : ((!decide ((ts.getD (IntKind.i64.wrap ((p : Int) + ((0 : Nat) : Int))).toNat tk0).s = m)) || decide ((ts.getD (IntKind.i64.wrap ((p : Int) + ((0 : Nat) : Int))).toNat tk0).k = 2)) = !takeB ts m p := by
  rw [e0, Int.toNat_natCast]
  show ((!decide ((tkAt ts p).s = m)) || decide ((tkAt ts p).k = 2)) = _
  unfold takeB
  rw [decide_eq_true hlt]
  cases decide ((tkAt ts p).s = m) <;> cases decide ((tkAt ts p).k = 2) <;> rfl
theorem take_ok {m : List UInt8} {p : Nat} {b : Bool} {q : Nat} (hb : takeB ts m p = b) (hq : q = if b then p + 1 else p) (hp : p ≤ ts.length) (hl : ts.length ≤ 100000) : Ctr Tryz.prog 192 [.ptr 0 1 0 [], .sl 1 1 0 1 (some 1) 0] [curB ts ad cap p, strB [m]] (fun r h => r = .b b ∧ h = [curB ts ad cap q, strB [m]]) := by
  have hL := left_ok (ad := ad) (cap := cap) hp hl
  have e0 : IntKind.i64.wrap ((p : Int) + ((0 : Nat) : Int)) = (p : Int) := w64 (by omega) (by omega)
  have e1 : IntKind.i64.wrap ((p : Int) + 1) = ((p + 1 : Nat) : Int) := wfn hp hl
  have eB : ∀ x : Int, x = ((p + 1 : Nat) : Int) → .mem 208 [.imm Tk tk0 4 tkenc ts ad cap, .i .i64 x] 1 0 = curB ts ad cap (p + 1) := fun x h => by rw [h]; rfl
  refine Ctr.enterH tabOkF (fn := Tryz.f192) rfl rfl rfl rfl rfl rfl ⟨bndCur, ⟨rfl, trivial⟩, trivial⟩ (Nat.le_refl _) ?_
  refine OpC.callH rfl rfl rfl rfl [0] rfl hL rfl rfl rfl rfl ⟨rfl, trivial⟩ rfl ?_
  refine ⟨fun h1 => ?_, fun h1 => ?_⟩
  · have h1 : ((ts.length - p : Nat) : Int) < 1 := of_decide_eq_true h1
    have hbf : b = false := by
      rw [← hb]; unfold takeB; rw [decide_eq_false (by omega)]; rfl
    subst hbf
    rw [hq]
    exact ⟨rfl, _, rfl⟩
  · have h1 : ¬ ((ts.length - p : Nat) : Int) < 1 := of_decide_eq_false h1
    have hlt : p < ts.length := by omega
    have ht := take_in (m := m) hlt e0
    rw [hb] at ht
    refine WpC.loop tabOkF (β := Nat) (fun k => k = 0 ∨ (k = 1 ∧ b = true)) (fun k => [(15, .i .i64 k)]) (fun _ => [curB ts ad cap p, strB [m]]) (fun k => 1 - k) 0 (2 ^ 51 - 1 - 3 - 2 ^ 14 - 2 ^ 13) (.inl rfl) ?_ ?_
    · exact ⟨rfl, ⟨⟨rfl, rfl, rfl⟩, trivial⟩, ⟨[], rfl⟩, ⟨bndCur, ⟨rfl, trivial⟩, trivial⟩, rfl⟩
    · rintro k (rfl | ⟨rfl, hbt⟩)
      · refine ⟨fun _ => ?_, fun h => no_tf h⟩
        refine ⟨fun _ => by decide, ?_⟩
        refine WpC.dr tabOkF mixed 1 ?_
        refine ⟨fun _ => ?_, ?_⟩
        · show (0 : Int) ≤ IntKind.i64.wrap ((p : Int) + ((0 : Nat) : Int)) ∧ IntKind.i64.wrap ((p : Int) + ((0 : Nat) : Int)) < (ts.length : Int)
          rw [e0]; omega
        refine ⟨by kernel_rfl, ?_⟩
        refine ⟨fun h2 => ?_, fun h2 => ?_⟩
        · have h2 := ht.symm.trans h2
          have hbf : b = false := by cases b with | false => rfl | true => cases h2
          subst hbf
          rw [hq]
          exact ⟨rfl, _, rfl⟩
        · have h2 := ht.symm.trans h2
          have hbt : b = true := by cases b with | true => rfl | false => cases h2
          exact ⟨1, .inr ⟨rfl, hbt⟩, by decide, rfl, ⟨⟨rfl, rfl, rfl⟩, trivial⟩, ⟨_, rfl⟩, ⟨bndCur, ⟨rfl, trivial⟩, trivial⟩, rfl⟩
      · refine ⟨fun h => no_ft h, fun _ => ?_⟩
        subst hbt
        rw [hq, if_pos rfl]
        refine ⟨rfl, [], ?_⟩
        rw [← eB _ e1]
        rfl
end SX
end Go.Proofs.YtlgjjklikbpcoaaGreatDoor

/- Readers of words: the reader's small functions. -/
set_option linter.unusedVariables false
set_option maxRecDepth 100000
namespace Go.Proofs.YtlgjjklikbpcoaaGreatDoor
namespace SX
open Go Go.Proofs
structure Rc where
  L : Lg
  rd : Nat
  pr : Nat
  ts : List Tk
  ad : Option Addr
  cap : Nat
  lb : List UInt8
def hR (c : Rc) (s : RS) : List SB := [rowS c.L.s0 c.L.s1 c.L.s2 c.L.s3 c.L.s4 c.L.s5 c.L.s6 c.L.s7, langB c.L.h c.rd c.pr, curB c.ts c.ad c.cap s.p, rdrB 2 1 c.lb s.e s.q]
theorem bndR {c : Rc} {s : RS} : BndH 4 (hR c s) := ⟨⟨rfl, rfl, rfl, rfl, rfl, rfl, rfl, rfl, trivial⟩, ⟨rfl, rfl, rfl, rfl, trivial⟩, bndCur, ⟨rfl, rfl, rfl, rfl, rfl, trivial⟩, trivial⟩
structure Rk (c : Rc) (s : RS) : Prop where
  p : s.p ≤ c.ts.length
  l : c.ts.length ≤ 100000
variable {c : Rc} {s : RS}
theorem Rk.fail (h : Rk c s) (e q : Int) : Rk c (failF s e q) := by
  unfold failF; split
  · exact ⟨h.p, h.l⟩
  · exact h
theorem Rk.miss (h : Rk c s) : Rk c (missP c.ts s) := by unfold missP; split <;> exact h.fail _ _
theorem Rk.go (h : Rk c s) (hl : s.p < c.ts.length) : Rk c (goF s) := ⟨hl, h.l⟩
theorem take_lt {ts : List Tk} {m : List UInt8} {p : Nat} (h : takeB ts m p = true) : p < ts.length := by
  unfold takeB at h
  simp only [Bool.and_eq_true, decide_eq_true_eq] at h
  exact h.1
theorem Rk.mark (h : Rk c s) (m : List UInt8) : Rk c (markP c.ts m s) := by
  unfold markP
  split
  · split
    · rename_i ht; exact h.go (take_lt ht)
    · exact h.miss
  · exact h
theorem Rk.word (h : Rk c s) : Rk c (wordP c.ts s).2 := by
  unfold wordP
  split
  · split
    · rename_i hk; exact h.go (at_lt (by rw [hk]; decide))
    · exact h.miss
  · exact h
theorem Rk.of (h : Rk c s) (f : List UInt8 → Int) : Rk c (ofP f c.ts s).2 := by
  unfold ofP
  split
  · exact h.word.fail _ _
  · exact h.word
theorem rfail_ok (e q : Int) : Ctr Tryz.prog 88 [.ptr 3 1 0 [], .i .i64 e, .i .i64 q] (hR c s) (fun r h => r = .tup [] ∧ h = hR c (failF s e q)) := by
  obtain ⟨p, e0, q0⟩ := s
  by_cases he : e0 = 0
  · subst he
    refine Ctr.enterH tabOkF (fn := Tryz.f88) rfl rfl rfl rfl rfl rfl bndR (Nat.le_refl _) ?_
    refine ⟨fun _ => ?_, fun h => no_tf h⟩
    exact ⟨rfl, _, rfl⟩
  · have e1 : failF ⟨p, e0, q0⟩ e q = ⟨p, e0, q0⟩ := fail_dead he e q
    rw [e1]
    refine Ctr.enterH tabOkF (fn := Tryz.f88) rfl rfl rfl rfl rfl rfl bndR (Nat.le_refl _) ?_
    refine ⟨fun h => absurd (of_decide_eq_true h) he, fun _ => ?_⟩
    exact ⟨rfl, _, rfl⟩
theorem miss_ok (hk : Rk c s) : Ctr Tryz.prog 194 [.ptr 3 1 0 []] (hR c s) (fun r h => r = .tup [] ∧ h = hR c (missP c.ts s)) := by
  refine Ctr.enterH tabOkF (fn := Tryz.f194) rfl rfl rfl rfl rfl rfl bndR (Nat.le_refl _) ?_
  refine OpC.callH rfl rfl rfl rfl [2] rfl (left_ok (ad := c.ad) (cap := c.cap) hk.p hk.l) rfl rfl rfl rfl ⟨rfl, trivial⟩ rfl ?_
  unfold missP
  refine ⟨fun h1 => ?_, fun h1 => ?_⟩
  · have h1 : ((c.ts.length - s.p : Nat) : Int) = 0 := of_decide_eq_true h1
    have h2 : ¬ s.p < c.ts.length := by omega
    rw [if_neg h2]
    refine OpC.callH rfl rfl rfl rfl [2] rfl (at_ok (ad := c.ad) (cap := c.cap) hk.p hk.l) rfl rfl rfl rfl ⟨rfl, trivial⟩ rfl ?_
    refine OpC.callH rfl rfl rfl rfl [0, 1, 2, 3] rfl (rfail_ok 24 (whF c.ts s.p)) rfl rfl rfl rfl ⟨rfl, rfl, rfl, rfl, trivial⟩ rfl ?_
    exact ⟨rfl, _, rfl⟩
  · have h1 : ¬ ((c.ts.length - s.p : Nat) : Int) = 0 := of_decide_eq_false h1
    rw [if_pos (by have := hk.p; omega)]
    refine OpC.callH rfl rfl rfl rfl [2] rfl (at_ok (ad := c.ad) (cap := c.cap) hk.p hk.l) rfl rfl rfl rfl ⟨rfl, trivial⟩ rfl ?_
    refine OpC.callH rfl rfl rfl rfl [0, 1, 2, 3] rfl (rfail_ok 22 (whF c.ts s.p)) rfl rfl rfl rfl ⟨rfl, rfl, rfl, rfl, trivial⟩ rfl ?_
    exact ⟨rfl, _, rfl⟩
theorem rmark_w (hk : Rk c s) (m : List UInt8) : Ctr Tryz.prog 187 [.ptr 3 1 0 [], .s m] (hR c s) (fun r h => r = .tup [] ∧ h = hR c (markP c.ts m s)) := by
  obtain ⟨p, e0, q0⟩ := s
  by_cases he : e0 = 0
  · subst he
    unfold markP
    rw [if_pos rfl]
    refine Ctr.enterH tabOkF (fn := Tryz.f187) rfl rfl rfl rfl rfl rfl bndR (Nat.le_refl _) ?_
    refine OpC.open 13 rfl rfl rfl ?_
    refine OpC.open 14 rfl rfl rfl ?_
    refine OpC.guardT tabOkF rfl rfl ?_
    refine OpC.guardT tabOkF rfl rfl ?_
    cases hb : takeB c.ts m p with
    | true =>
      refine OpC.callH rfl rfl rfl rfl [2, 4] rfl (take_ok (ad := c.ad) (cap := c.cap) (m := m) hb rfl hk.p hk.l) rfl rfl rfl rfl ⟨rfl, rfl, trivial⟩ rfl ?_
      refine ⟨fun h => no_ft h, fun _ => ?_⟩
      exact ⟨rfl, _, rfl⟩
    | false =>
      refine OpC.callH rfl rfl rfl rfl [2, 4] rfl (take_ok (ad := c.ad) (cap := c.cap) (m := m) hb rfl hk.p hk.l) rfl rfl rfl rfl ⟨rfl, rfl, trivial⟩ rfl ?_
      refine ⟨fun _ => ?_, fun h => no_tf h⟩
      refine OpC.callH rfl rfl rfl rfl [0, 1, 2, 3] rfl (miss_ok (s := ⟨p, 0, q0⟩) hk) rfl rfl rfl rfl ⟨rfl, rfl, rfl, rfl, trivial⟩ rfl ?_
      exact ⟨rfl, _, rfl⟩
  · have e1 : markP c.ts m ⟨p, e0, q0⟩ = ⟨p, e0, q0⟩ := by unfold markP; rw [if_neg he]
    rw [e1]
    refine Ctr.enterH tabOkF (fn := Tryz.f187) rfl rfl rfl rfl rfl rfl bndR (Nat.le_refl _) ?_
    have hg : (decide (e0 = 0) == true) = false := by rw [decide_eq_false he]; rfl
    refine OpC.skipG rfl hg (.raw (.pointer none)) ?_
    refine OpC.skipG rfl hg (.b false) ?_
    refine ⟨fun h => ?_, fun _ => ⟨rfl, _, rfl⟩⟩
    have h : (decide (e0 = 0) && !false) = true := h
    rw [decide_eq_false he] at h; cases h
theorem rword_w (hk : Rk c s) : Ctr Tryz.prog 131 [.ptr 3 1 0 []] (hR c s) (fun r h => r = .tup [.s (wordP c.ts s).1, .i .i64 (whF c.ts s.p)] ∧ h = hR c (wordP c.ts s).2) := by
  obtain ⟨p, e0, q0⟩ := s
  have hat := at_ok (ad := c.ad) (cap := c.cap) hk.p hk.l
  by_cases he : e0 = 0
  · subst he
    unfold wordP
    rw [if_pos rfl]
    have hn := name_ok (ad := c.ad) (cap := c.cap) hk.p hk.l
    by_cases h1 : (tkAt c.ts p).k = 1
    · have h1' : (tkAt c.ts (⟨p, 0, q0⟩ : RS).p).k = 1 := h1
      rw [if_pos h1'] at hn ⊢
      rw [if_pos h1', decide_eq_true h1'] at hn
      refine Ctr.enterH tabOkF (fn := Tryz.f131) rfl rfl rfl rfl rfl rfl bndR (Nat.le_refl _) ?_
      refine OpC.callH rfl rfl rfl rfl [2] rfl hat rfl rfl rfl rfl ⟨rfl, trivial⟩ rfl ?_
      refine ⟨fun h => no_ft h, fun _ => ?_⟩
      refine OpC.callH rfl rfl rfl rfl [2] rfl hn rfl rfl rfl rfl ⟨rfl, trivial⟩ rfl ?_
      refine ⟨fun h => no_ft h, fun _ => ?_⟩
      exact ⟨rfl, _, rfl⟩
    · have h1' : ¬ (tkAt c.ts (⟨p, 0, q0⟩ : RS).p).k = 1 := h1
      rw [if_neg h1'] at hn ⊢
      rw [if_neg h1', decide_eq_false h1'] at hn
      refine Ctr.enterH tabOkF (fn := Tryz.f131) rfl rfl rfl rfl rfl rfl bndR (Nat.le_refl _) ?_
      refine OpC.callH rfl rfl rfl rfl [2] rfl hat rfl rfl rfl rfl ⟨rfl, trivial⟩ rfl ?_
      refine ⟨fun h => no_ft h, fun _ => ?_⟩
      refine OpC.callH rfl rfl rfl rfl [2] rfl hn rfl rfl rfl rfl ⟨rfl, trivial⟩ rfl ?_
      refine ⟨fun _ => ?_, fun h => no_tf h⟩
      refine OpC.callH rfl rfl rfl rfl [0, 1, 2, 3] rfl (miss_ok (s := ⟨p, 0, q0⟩) hk) rfl rfl rfl rfl ⟨rfl, rfl, rfl, rfl, trivial⟩ rfl ?_
      exact ⟨rfl, _, rfl⟩
  · have e1 : wordP c.ts ⟨p, e0, q0⟩ = ([], ⟨p, e0, q0⟩) := by unfold wordP; rw [if_neg he]
    rw [e1]
    refine Ctr.enterH tabOkF (fn := Tryz.f131) rfl rfl rfl rfl rfl rfl bndR (Nat.le_refl _) ?_
    refine OpC.callH rfl rfl rfl rfl [2] rfl hat rfl rfl rfl rfl ⟨rfl, trivial⟩ rfl ?_
    refine ⟨fun _ => ⟨rfl, _, rfl⟩, fun h => ?_⟩
    have h : (!decide (e0 = 0)) = false := h
    rw [decide_eq_false he] at h; cases h
end SX
end Go.Proofs.YtlgjjklikbpcoaaGreatDoor

/- Readers of words: names of some, numbers, places of memory. -/
set_option linter.unusedVariables false
set_option maxRecDepth 100000
namespace Go.Proofs.YtlgjjklikbpcoaaGreatDoor
namespace SX
open Go Go.Proofs
variable {c : Rc} {s : RS}
theorem of_lt {f : List UInt8 → Int} (h : f (wordP c.ts s).1 < 0) : ofP f c.ts s = (0, failF (wordP c.ts s).2 21 (whF c.ts s.p)) := by unfold ofP; rw [if_pos h]
theorem of_ge {f : List UInt8 → Int} (h : ¬ f (wordP c.ts s).1 < 0) : ofP f c.ts s = (f (wordP c.ts s).1, (wordP c.ts s).2) := by unfold ofP; rw [if_neg h]
theorem of_fn (hk : Rk c s) (fid : Nat) (f : List UInt8 → Int) (hf : ∀ v, CtrV Tryz.prog fid [.s v] (.i .i64 (f v))) : Ctr Tryz.prog 183 [.ptr 3 1 0 [], .fn fid []] (hR c s) (fun r h => r = .i .i64 (ofP f c.ts s).1 ∧ h = hR c (ofP f c.ts s).2) := by
  have hw := rword_w hk
  by_cases h0 : f (wordP c.ts s).1 < 0
  · rw [of_lt h0]
    refine Ctr.enterH tabOkF (fn := Tryz.f183) rfl rfl rfl rfl rfl rfl bndR (Nat.le_refl _) ?_
    refine OpC.callH rfl rfl rfl rfl [0, 1, 2, 3] rfl hw rfl rfl rfl rfl ⟨rfl, rfl, rfl, rfl, trivial⟩ rfl ?_
    refine OpC.callV rfl rfl rfl rfl rfl rfl rfl (fun _ => hf _) ?_
    refine ⟨fun _ => ?_, fun h => absurd h0 (of_decide_eq_false h)⟩
    refine OpC.callH rfl rfl rfl rfl [0, 1, 2, 3] rfl (rfail_ok (s := (wordP c.ts s).2) 21 (whF c.ts s.p)) rfl rfl rfl rfl ⟨rfl, rfl, rfl, rfl, trivial⟩ rfl ?_
    exact ⟨rfl, _, rfl⟩
  · rw [of_ge h0]
    refine Ctr.enterH tabOkF (fn := Tryz.f183) rfl rfl rfl rfl rfl rfl bndR (Nat.le_refl _) ?_
    refine OpC.callH rfl rfl rfl rfl [0, 1, 2, 3] rfl hw rfl rfl rfl rfl ⟨rfl, rfl, rfl, rfl, trivial⟩ rfl ?_
    refine OpC.callV rfl rfl rfl rfl rfl rfl rfl (fun _ => hf _) ?_
    refine ⟨fun h => absurd (of_decide_eq_true h) h0, fun _ => ?_⟩
    exact ⟨rfl, _, rfl⟩
theorem of_reg (hk : Rk c s) : Ctr Tryz.prog 183 [.ptr 3 1 0 [], .bm 79 (.ptr 1 1 0 [])] (hR c s) (fun r h => r = .i .i64 (regP c.L c.ts s).1 ∧ h = hR c (regP c.L c.ts s).2) := by
  have hw := rword_w hk
  have hl : ∀ v, Ctr Tryz.prog 79 [.ptr 1 1 0 [], .s v] [rowS c.L.s0 c.L.s1 c.L.s2 c.L.s3 c.L.s4 c.L.s5 c.L.s6 c.L.s7, langB c.L.h c.rd c.pr] (fun r h' => r = .i .i64 (c.L.ix v) ∧ h' = [rowS c.L.s0 c.L.s1 c.L.s2 c.L.s3 c.L.s4 c.L.s5 c.L.s6 c.L.s7, langB c.L.h c.rd c.pr]) := fun v => lreg_ok _ _ _ _ _ _ _ _ _ v _ _
  unfold regP
  by_cases h0 : c.L.ix (wordP c.ts s).1 < 0
  · rw [of_lt h0]
    refine Ctr.enterH tabOkF (fn := Tryz.f183) rfl rfl rfl rfl rfl rfl bndR (Nat.le_refl _) ?_
    refine OpC.callH rfl rfl rfl rfl [0, 1, 2, 3] rfl hw rfl rfl rfl rfl ⟨rfl, rfl, rfl, rfl, trivial⟩ rfl ?_
    refine OpC.callH rfl rfl rfl rfl [0, 1] rfl (hl _) rfl rfl rfl rfl ⟨rfl, rfl, trivial⟩ rfl ?_
    refine ⟨fun _ => ?_, fun h => absurd h0 (of_decide_eq_false h)⟩
    refine OpC.callH rfl rfl rfl rfl [0, 1, 2, 3] rfl (rfail_ok (s := (wordP c.ts s).2) 21 (whF c.ts s.p)) rfl rfl rfl rfl ⟨rfl, rfl, rfl, rfl, trivial⟩ rfl ?_
    exact ⟨rfl, _, rfl⟩
  · rw [of_ge h0]
    refine Ctr.enterH tabOkF (fn := Tryz.f183) rfl rfl rfl rfl rfl rfl bndR (Nat.le_refl _) ?_
    refine OpC.callH rfl rfl rfl rfl [0, 1, 2, 3] rfl hw rfl rfl rfl rfl ⟨rfl, rfl, rfl, rfl, trivial⟩ rfl ?_
    refine OpC.callH rfl rfl rfl rfl [0, 1] rfl (hl _) rfl rfl rfl rfl ⟨rfl, rfl, trivial⟩ rfl ?_
    refine ⟨fun h => absurd (of_decide_eq_true h) h0, fun _ => ?_⟩
    exact ⟨rfl, _, rfl⟩
theorem rreg_w (hk : Rk c s) : Ctr Tryz.prog 208 [.ptr 3 1 0 []] (hR c s) (fun r h => r = .i .i64 (regP c.L c.ts s).1 ∧ h = hR c (regP c.L c.ts s).2) := by
  refine Ctr.enterH tabOkF (fn := Tryz.f208) rfl rfl rfl rfl rfl rfl bndR (Nat.le_refl _) ?_
  refine OpC.callH rfl rfl rfl rfl [0, 1, 2, 3] rfl (of_reg hk) rfl rfl rfl rfl ⟨rfl, rfl, rfl, rfl, trivial⟩ rfl ?_
  exact ⟨rfl, _, rfl⟩
theorem Rk.reg (h : Rk c s) : Rk c (regP c.L c.ts s).2 := h.of _
theorem Rk.nm (h : Rk c s) (g : Int) : Rk c (nmP c.ts g s).2 := by
  unfold nmP
  split
  · rename_i hk; exact h.go (at_lt (by rw [hk]; decide))
  · exact h.miss
theorem Rk.num (h : Rk c s) : Rk c (numP c.ts s).2 := by
  unfold numP
  split
  · split
    · rename_i ht; exact (h.go (take_lt ht)).nm _
    · exact h.nm _
  · exact h
set_option maxHeartbeats 1000000 in
theorem rnum_w (hk : Rk c s) : Ctr Tryz.prog 191 [.ptr 3 1 0 []] (hR c s) (fun r h => r = .i .i64 (numP c.ts s).1 ∧ h = hR c (numP c.ts s).2) := by
  obtain ⟨p, e0, q0⟩ := s
  by_cases he : e0 = 0
  · subst he
    cases hb : takeB c.ts [45] p with
    | true =>
      have hp : p < c.ts.length := take_lt hb
      have hk2 : Rk c ⟨p + 1, 0, q0⟩ := ⟨hp, hk.l⟩
      have e1 : numP c.ts ⟨p, 0, q0⟩ = nmP c.ts (-1) ⟨p + 1, 0, q0⟩ := by unfold numP; rw [if_pos rfl]; exact if_pos hb
      rw [e1]
      unfold nmP
      have hpk := peek_ok (ad := c.ad) (cap := c.cap) hk2.p
      by_cases h2 : (tkAt c.ts (p + 1)).k = 2
      · have hlt := at_lt (ts := c.ts) (p := p + 1) (by rw [h2]; decide)
        have h2' : (tkAt c.ts (⟨p + 1, 0, q0⟩ : RS).p).k = 2 := h2
        rw [if_pos h2']
        rw [decide_eq_true (show (⟨p + 1, 0, q0⟩ : RS).p < c.ts.length from hlt)] at hpk
        refine Ctr.enterH tabOkF (fn := Tryz.f191) rfl rfl rfl rfl rfl rfl bndR (Nat.le_refl _) ?_
        refine ⟨fun h => no_ft h, fun _ => ?_⟩
        refine OpC.callH rfl rfl rfl rfl [2, 4] rfl (take_ok (ad := c.ad) (cap := c.cap) hb rfl hk.p hk.l) rfl rfl rfl rfl ⟨rfl, rfl, trivial⟩ rfl ?_
        refine ⟨fun _ => ?_, fun h => no_tf h⟩
        refine OpC.callH rfl rfl rfl rfl [2] rfl hpk rfl rfl rfl rfl ⟨rfl, trivial⟩ rfl ?_
        refine ⟨fun h => ?_, fun _ => ?_⟩
        · have h : (false || (!decide ((tkAt c.ts (p + 1)).k = 2))) = true := h
          rw [decide_eq_true h2] at h; cases h
        refine OpC.callH rfl rfl rfl rfl [2] rfl (next_ok (ad := c.ad) (cap := c.cap) hlt hk.l) rfl rfl rfl rfl ⟨rfl, trivial⟩ rfl ?_
        exact ⟨rfl, _, rfl⟩
      · have h2' : ¬ (tkAt c.ts (⟨p + 1, 0, q0⟩ : RS).p).k = 2 := h2
        rw [if_neg h2']
        refine Ctr.enterH tabOkF (fn := Tryz.f191) rfl rfl rfl rfl rfl rfl bndR (Nat.le_refl _) ?_
        refine ⟨fun h => no_ft h, fun _ => ?_⟩
        refine OpC.callH rfl rfl rfl rfl [2, 4] rfl (take_ok (ad := c.ad) (cap := c.cap) hb rfl hk.p hk.l) rfl rfl rfl rfl ⟨rfl, rfl, trivial⟩ rfl ?_
        refine ⟨fun _ => ?_, fun h => no_tf h⟩
        refine OpC.callH rfl rfl rfl rfl [2] rfl hpk rfl rfl rfl rfl ⟨rfl, trivial⟩ rfl ?_
        refine ⟨fun _ => ?_, fun h => ?_⟩
        · refine OpC.callH rfl rfl rfl rfl [0, 1, 2, 3] rfl (miss_ok (s := ⟨p + 1, 0, q0⟩) hk2) rfl rfl rfl rfl ⟨rfl, rfl, rfl, rfl, trivial⟩ rfl ?_
          exact ⟨rfl, _, rfl⟩
        · have h : ((!decide (p + 1 < c.ts.length)) || (!decide ((tkAt c.ts (p + 1)).k = 2))) = false := h
          rw [decide_eq_false h2, Bool.not_false, Bool.or_true] at h; cases h
    | false =>
      have e1 : numP c.ts ⟨p, 0, q0⟩ = nmP c.ts 1 ⟨p, 0, q0⟩ := by unfold numP; rw [if_pos rfl]; exact if_neg (by rw [hb]; decide)
      rw [e1]
      unfold nmP
      have hpk := peek_ok (ad := c.ad) (cap := c.cap) hk.p
      by_cases h2 : (tkAt c.ts p).k = 2
      · have hlt := at_lt (ts := c.ts) (p := p) (by rw [h2]; decide)
        have h2' : (tkAt c.ts (⟨p, 0, q0⟩ : RS).p).k = 2 := h2
        rw [if_pos h2']
        rw [decide_eq_true (show (⟨p, 0, q0⟩ : RS).p < c.ts.length from hlt)] at hpk
        refine Ctr.enterH tabOkF (fn := Tryz.f191) rfl rfl rfl rfl rfl rfl bndR (Nat.le_refl _) ?_
        refine ⟨fun h => no_ft h, fun _ => ?_⟩
        refine OpC.callH rfl rfl rfl rfl [2, 4] rfl (take_ok (ad := c.ad) (cap := c.cap) hb rfl hk.p hk.l) rfl rfl rfl rfl ⟨rfl, rfl, trivial⟩ rfl ?_
        refine ⟨fun h => no_ft h, fun _ => ?_⟩
        refine OpC.callH rfl rfl rfl rfl [2] rfl hpk rfl rfl rfl rfl ⟨rfl, trivial⟩ rfl ?_
        refine ⟨fun h => ?_, fun _ => ?_⟩
        · have h : (false || (!decide ((tkAt c.ts p).k = 2))) = true := h
          rw [decide_eq_true h2] at h; cases h
        refine OpC.callH rfl rfl rfl rfl [2] rfl (next_ok (ad := c.ad) (cap := c.cap) hlt hk.l) rfl rfl rfl rfl ⟨rfl, trivial⟩ rfl ?_
        exact ⟨rfl, _, rfl⟩
      · have h2' : ¬ (tkAt c.ts (⟨p, 0, q0⟩ : RS).p).k = 2 := h2
        rw [if_neg h2']
        refine Ctr.enterH tabOkF (fn := Tryz.f191) rfl rfl rfl rfl rfl rfl bndR (Nat.le_refl _) ?_
        refine ⟨fun h => no_ft h, fun _ => ?_⟩
        refine OpC.callH rfl rfl rfl rfl [2, 4] rfl (take_ok (ad := c.ad) (cap := c.cap) hb rfl hk.p hk.l) rfl rfl rfl rfl ⟨rfl, rfl, trivial⟩ rfl ?_
        refine ⟨fun h => no_ft h, fun _ => ?_⟩
        refine OpC.callH rfl rfl rfl rfl [2] rfl hpk rfl rfl rfl rfl ⟨rfl, trivial⟩ rfl ?_
        refine ⟨fun _ => ?_, fun h => ?_⟩
        · refine OpC.callH rfl rfl rfl rfl [0, 1, 2, 3] rfl (miss_ok (s := ⟨p, 0, q0⟩) hk) rfl rfl rfl rfl ⟨rfl, rfl, rfl, rfl, trivial⟩ rfl ?_
          exact ⟨rfl, _, rfl⟩
        · have h : ((!decide (p < c.ts.length)) || (!decide ((tkAt c.ts p).k = 2))) = false := h
          rw [decide_eq_false h2, Bool.not_false, Bool.or_true] at h; cases h
  · have e1 : numP c.ts ⟨p, e0, q0⟩ = (0, ⟨p, e0, q0⟩) := by unfold numP; rw [if_neg he]
    rw [e1]
    refine Ctr.enterH tabOkF (fn := Tryz.f191) rfl rfl rfl rfl rfl rfl bndR (Nat.le_refl _) ?_
    refine ⟨fun _ => ⟨rfl, _, rfl⟩, fun h => ?_⟩
    have h : (!decide (e0 = 0)) = false := h
    rw [decide_eq_false he] at h; cases h
end SX
end Go.Proofs.YtlgjjklikbpcoaaGreatDoor

/- Readers of words: a register or a number; a place of memory. Written by pwe.py. -/
set_option linter.unusedVariables false
set_option maxRecDepth 100000
namespace Go.Proofs.YtlgjjklikbpcoaaGreatDoor
namespace SX
open Go Go.Proofs
variable {c : Rc} {s : RS}
def insB (i : In) : SB := .mem 30 (ienc i) 1 0
def hI (c : Rc) (s : RS) (i : In) : List SB := [rowS c.L.s0 c.L.s1 c.L.s2 c.L.s3 c.L.s4 c.L.s5 c.L.s6 c.L.s7, langB c.L.h c.rd c.pr, curB c.ts c.ad c.cap s.p, rdrB 2 1 c.lb s.e s.q, insB i]
theorem bndI {c : Rc} {s : RS} {i : In} : BndH 5 (hI c s i) := ⟨⟨rfl, rfl, rfl, rfl, rfl, rfl, rfl, rfl, trivial⟩, ⟨rfl, rfl, rfl, rfl, trivial⟩, bndCur, ⟨rfl, rfl, rfl, rfl, rfl, trivial⟩, ⟨rfl, rfl, rfl, rfl, rfl, rfl, rfl, rfl, rfl, rfl, rfl, rfl, rfl, rfl, rfl, rfl, rfl, trivial⟩, trivial⟩
theorem loc_all : ∀ n : Fin 256, Lib.index [120, 121, 122] [UInt8.ofNat n.val] = locI [UInt8.ofNat n.val] := by decide +kernel
theorem loc_w (v : List UInt8) : CtrV Tryz.prog 190 [.s v] (.i .i64 (locI v)) := by
  refine Ctr.enterV tabOkF (fn := Tryz.f190) rfl rfl rfl rfl rfl rfl ?_
  refine ⟨fun h => ?_, fun h => ?_⟩
  · have h : (!decide ((v.length : Int) = 1)) = true := h
    have h : ¬ (v.length : Int) = 1 := by simpa using h
    refine i_cg ?_
    unfold locI
    rw [if_neg (by rintro rfl; exact h rfl), if_neg (by rintro rfl; exact h rfl), if_neg (by rintro rfl; exact h rfl)]
  · have h : (!decide ((v.length : Int) = 1)) = false := h
    have h : (v.length : Int) = 1 := by simpa using h
    refine OpC.callV rfl rfl rfl rfl rfl rfl rfl (fun _ => sIndex_ok [120, 121, 122] v (by decide)) ?_
    refine i_cg ?_
    match v, h with
    | [x], _ =>
      have := loc_all ⟨x.toNat, x.toNat_lt⟩
      have e : UInt8.ofNat x.toNat = x := by simp
      simp only [e] at this
      exact this
    | [], h => simp at h
    | _ :: _ :: _, h => simp at h; omega
theorem Rk.plus (h : Rk c s) (i : In) : Rk c (plusP c.L c.ts i s).2 := by
  unfold plusP ixP
  split
  · rename_i hk
    have h1 : Rk c (goF s) := h.go (at_lt (by rw [hk]; decide))
    split
    · rename_i ht; exact (h1.go (take_lt ht)).reg
    · exact h1
  · exact h.reg
theorem Rk.mem (h : Rk c s) (i : In) (z : Int) : Rk c (memP c.L c.ts i z s).2 := by
  unfold memP
  dsimp only
  have h1 := (h.mark [91]).of locI
  refine Rk.mark ?_ _
  split
  · rename_i ht
    simp only [Bool.and_eq_true] at ht
    exact (h1.go (take_lt ht.2)).plus _
  · exact h1
set_option maxHeartbeats 2000000 in
theorem rmem_w (hk : Rk c s) (i : In) (z : Int) : Ctr Tryz.prog 211 [.ptr 3 1 0 [], .ptr 4 1 0 [], .i .i64 z] (hI c s i) (fun r h => r = .tup [] ∧ h = hI c (memP c.L c.ts i z s).2 (memP c.L c.ts i z s).1) := by
  obtain ⟨op, dst, a, b, imm, loc, off, ix, sz, fn, acq, wk, rel, pr, su, to, ze⟩ := i
  have hof := of_fn (hk.mark [91]) 190 locI loc_w
  have hk1 := (hk.mark [91]).of locI
  unfold memP
  dsimp only
  generalize ofP locI c.ts (markP c.ts [91] s) = w at *
  obtain ⟨v, p, e0, q0⟩ := w
  dsimp only at hof hk1 ⊢
  by_cases he : e0 = 0
  · subst he
    cases hb : takeB c.ts [43] p with
    | true =>
      simp only [decide_true, Bool.and_self, if_true]
      have hp : p < c.ts.length := take_lt hb
      have hk2 : Rk c ⟨p + 1, 0, q0⟩ := ⟨hp, hk1.l⟩
      have hpk := peek_ok (ad := c.ad) (cap := c.cap) (show p + 1 ≤ c.ts.length from hp)
      unfold plusP
      rw [show goF (⟨p, 0, q0⟩ : RS) = ⟨p + 1, 0, q0⟩ from rfl]
      by_cases h2 : (tkAt c.ts (p + 1)).k = 2
      · have hlt := at_lt (ts := c.ts) (p := p + 1) (by rw [h2]; decide)
        have hk3 : Rk c ⟨p + 1 + 1, 0, q0⟩ := ⟨hlt, hk1.l⟩
        have h2' : (tkAt c.ts (⟨p + 1, 0, q0⟩ : RS).p).k = 2 := h2
        rw [if_pos h2', show goF (⟨p + 1, 0, q0⟩ : RS) = ⟨p + 1 + 1, 0, q0⟩ from rfl]
        rw [decide_eq_true hlt] at hpk
        cases hb2 : takeB c.ts [43] (p + 1 + 1) with
        | true =>
          have hk4 : Rk c ⟨p + 1 + 1 + 1, 0, q0⟩ := ⟨take_lt hb2, hk1.l⟩
          rw [if_pos rfl, show goF (⟨p + 1 + 1, 0, q0⟩ : RS) = ⟨p + 1 + 1 + 1, 0, q0⟩ from rfl]
          unfold ixP
          dsimp only
          refine Ctr.enterH tabOkF (fn := Tryz.f211) rfl rfl rfl rfl rfl rfl bndI (Nat.le_refl _) ?_
          refine OpC.callH rfl rfl rfl rfl [0, 1, 2, 3] rfl (rmark_w hk [91]) rfl rfl rfl rfl ⟨rfl, rfl, rfl, rfl, trivial⟩ rfl ?_
          refine OpC.callH rfl rfl rfl rfl [0, 1, 2, 3] rfl (hof) rfl rfl rfl rfl ⟨rfl, rfl, rfl, rfl, trivial⟩ rfl ?_
          refine OpC.open 28 rfl rfl rfl ?_
          refine OpC.guardT tabOkF rfl rfl ?_
          refine OpC.guardT tabOkF rfl rfl ?_
          refine OpC.callH rfl rfl rfl rfl [2, 5] rfl (take_ok (ad := c.ad) (cap := c.cap) (m := [43]) hb rfl (Nat.le_of_lt hp) hk1.l) rfl rfl rfl rfl ⟨rfl, rfl, trivial⟩ rfl ?_
          refine ⟨fun _ => ?_, fun h => no_tf h⟩
          refine OpC.callH rfl rfl rfl rfl [2] rfl (hpk) rfl rfl rfl rfl ⟨rfl, trivial⟩ rfl ?_
          refine ⟨fun _ => ?_, fun h => ?_⟩
          rotate_left
          · have h : (true && decide ((tkAt c.ts (p + 1)).k = 2)) = false := h
            rw [decide_eq_true h2] at h; cases h
          refine OpC.callH rfl rfl rfl rfl [2] rfl (next_ok (ad := c.ad) (cap := c.cap) hlt hk1.l) rfl rfl rfl rfl ⟨rfl, trivial⟩ rfl ?_
          refine OpC.callH rfl rfl rfl rfl [2, 7] rfl (take_ok (ad := c.ad) (cap := c.cap) (m := [43]) hb2 rfl hk3.p hk1.l) rfl rfl rfl rfl ⟨rfl, rfl, trivial⟩ rfl ?_
          refine ⟨fun _ => ?_, fun h => no_tf h⟩
          refine OpC.callH rfl rfl rfl rfl [0, 1, 2, 3] rfl (rreg_w hk4) rfl rfl rfl rfl ⟨rfl, rfl, rfl, rfl, trivial⟩ rfl ?_
          refine OpC.callH rfl rfl rfl rfl [0, 1, 2, 3] rfl (rmark_w hk4.reg [93]) rfl rfl rfl rfl ⟨rfl, rfl, rfl, rfl, trivial⟩ rfl ?_
          exact ⟨rfl, _, rfl⟩
        | false =>
          rw [if_neg (by decide)]
          dsimp only
          refine Ctr.enterH tabOkF (fn := Tryz.f211) rfl rfl rfl rfl rfl rfl bndI (Nat.le_refl _) ?_
          refine OpC.callH rfl rfl rfl rfl [0, 1, 2, 3] rfl (rmark_w hk [91]) rfl rfl rfl rfl ⟨rfl, rfl, rfl, rfl, trivial⟩ rfl ?_
          refine OpC.callH rfl rfl rfl rfl [0, 1, 2, 3] rfl (hof) rfl rfl rfl rfl ⟨rfl, rfl, rfl, rfl, trivial⟩ rfl ?_
          refine OpC.open 28 rfl rfl rfl ?_
          refine OpC.guardT tabOkF rfl rfl ?_
          refine OpC.guardT tabOkF rfl rfl ?_
          refine OpC.callH rfl rfl rfl rfl [2, 5] rfl (take_ok (ad := c.ad) (cap := c.cap) (m := [43]) hb rfl (Nat.le_of_lt hp) hk1.l) rfl rfl rfl rfl ⟨rfl, rfl, trivial⟩ rfl ?_
          refine ⟨fun _ => ?_, fun h => no_tf h⟩
          refine OpC.callH rfl rfl rfl rfl [2] rfl (hpk) rfl rfl rfl rfl ⟨rfl, trivial⟩ rfl ?_
          refine ⟨fun _ => ?_, fun h => ?_⟩
          rotate_left
          · have h : (true && decide ((tkAt c.ts (p + 1)).k = 2)) = false := h
            rw [decide_eq_true h2] at h; cases h
          refine OpC.callH rfl rfl rfl rfl [2] rfl (next_ok (ad := c.ad) (cap := c.cap) hlt hk1.l) rfl rfl rfl rfl ⟨rfl, trivial⟩ rfl ?_
          refine OpC.callH rfl rfl rfl rfl [2, 7] rfl (take_ok (ad := c.ad) (cap := c.cap) (m := [43]) hb2 rfl hk3.p hk1.l) rfl rfl rfl rfl ⟨rfl, rfl, trivial⟩ rfl ?_
          refine ⟨fun h => no_ft h, fun _ => ?_⟩
          refine OpC.callH rfl rfl rfl rfl [0, 1, 2, 3] rfl (rmark_w hk3 [93]) rfl rfl rfl rfl ⟨rfl, rfl, rfl, rfl, trivial⟩ rfl ?_
          exact ⟨rfl, _, rfl⟩
      · have h2' : ¬ (tkAt c.ts (⟨p + 1, 0, q0⟩ : RS).p).k = 2 := h2
        rw [if_neg h2']
        unfold ixP
        dsimp only
        refine Ctr.enterH tabOkF (fn := Tryz.f211) rfl rfl rfl rfl rfl rfl bndI (Nat.le_refl _) ?_
        refine OpC.callH rfl rfl rfl rfl [0, 1, 2, 3] rfl (rmark_w hk [91]) rfl rfl rfl rfl ⟨rfl, rfl, rfl, rfl, trivial⟩ rfl ?_
        refine OpC.callH rfl rfl rfl rfl [0, 1, 2, 3] rfl (hof) rfl rfl rfl rfl ⟨rfl, rfl, rfl, rfl, trivial⟩ rfl ?_
        refine OpC.open 28 rfl rfl rfl ?_
        refine OpC.guardT tabOkF rfl rfl ?_
        refine OpC.guardT tabOkF rfl rfl ?_
        refine OpC.callH rfl rfl rfl rfl [2, 5] rfl (take_ok (ad := c.ad) (cap := c.cap) (m := [43]) hb rfl (Nat.le_of_lt hp) hk1.l) rfl rfl rfl rfl ⟨rfl, rfl, trivial⟩ rfl ?_
        refine ⟨fun _ => ?_, fun h => no_tf h⟩
        refine OpC.callH rfl rfl rfl rfl [2] rfl (hpk) rfl rfl rfl rfl ⟨rfl, trivial⟩ rfl ?_
        refine ⟨fun h => ?_, fun _ => ?_⟩
        · have h : (decide (p + 1 < c.ts.length) && decide ((tkAt c.ts (p + 1)).k = 2)) = true := h
          rw [decide_eq_false h2, Bool.and_false] at h; cases h
        refine OpC.callH rfl rfl rfl rfl [0, 1, 2, 3] rfl (rreg_w hk2) rfl rfl rfl rfl ⟨rfl, rfl, rfl, rfl, trivial⟩ rfl ?_
        refine OpC.callH rfl rfl rfl rfl [0, 1, 2, 3] rfl (rmark_w hk2.reg [93]) rfl rfl rfl rfl ⟨rfl, rfl, rfl, rfl, trivial⟩ rfl ?_
        exact ⟨rfl, _, rfl⟩
    | false =>
      simp only [Bool.and_false, Bool.false_eq_true, if_false]
      refine Ctr.enterH tabOkF (fn := Tryz.f211) rfl rfl rfl rfl rfl rfl bndI (Nat.le_refl _) ?_
      refine OpC.callH rfl rfl rfl rfl [0, 1, 2, 3] rfl (rmark_w hk [91]) rfl rfl rfl rfl ⟨rfl, rfl, rfl, rfl, trivial⟩ rfl ?_
      refine OpC.callH rfl rfl rfl rfl [0, 1, 2, 3] rfl (hof) rfl rfl rfl rfl ⟨rfl, rfl, rfl, rfl, trivial⟩ rfl ?_
      refine OpC.open 28 rfl rfl rfl ?_
      refine OpC.guardT tabOkF rfl rfl ?_
      refine OpC.guardT tabOkF rfl rfl ?_
      refine OpC.callH rfl rfl rfl rfl [2, 5] rfl (take_ok (ad := c.ad) (cap := c.cap) (m := [43]) hb rfl hk1.p hk1.l) rfl rfl rfl rfl ⟨rfl, rfl, trivial⟩ rfl ?_
      refine ⟨fun h => no_ft h, fun _ => ?_⟩
      refine OpC.callH rfl rfl rfl rfl [0, 1, 2, 3] rfl (rmark_w hk1 [93]) rfl rfl rfl rfl ⟨rfl, rfl, rfl, rfl, trivial⟩ rfl ?_
      exact ⟨rfl, _, rfl⟩
  · rw [decide_eq_false he]
    simp only [Bool.false_and, Bool.false_eq_true, if_false]
    have hg : (decide (e0 = 0) == true) = false := by rw [decide_eq_false he]; rfl
    refine Ctr.enterH tabOkF (fn := Tryz.f211) rfl rfl rfl rfl rfl rfl bndI (Nat.le_refl _) ?_
    refine OpC.callH rfl rfl rfl rfl [0, 1, 2, 3] rfl (rmark_w hk [91]) rfl rfl rfl rfl ⟨rfl, rfl, rfl, rfl, trivial⟩ rfl ?_
    refine OpC.callH rfl rfl rfl rfl [0, 1, 2, 3] rfl (hof) rfl rfl rfl rfl ⟨rfl, rfl, rfl, rfl, trivial⟩ rfl ?_
    refine OpC.skipG rfl hg (.raw (.pointer none)) ?_
    refine OpC.skipG rfl hg (.b false) ?_
    refine ⟨fun h => ?_, fun _ => ?_⟩
    · have h : (decide (e0 = 0) && false) = true := h
      rw [Bool.and_false] at h; cases h
    refine OpC.callH rfl rfl rfl rfl [0, 1, 2, 3] rfl (rmark_w hk1 [93]) rfl rfl rfl rfl ⟨rfl, rfl, rfl, rfl, trivial⟩ rfl ?_
    exact ⟨rfl, _, rfl⟩
end SX
end Go.Proofs.YtlgjjklikbpcoaaGreatDoor
