/- Proved: for every number of moves and every row of picks, belatedlaw14.MachPlays returns true and leaves its arguments as they were; no further condition. -/
import Derived.IntWalk
import Derived.ChangeSame
import Derived.ChangeReads
import Derived.ProofKit
import Derived.Deep.Fields
import Derived.Test.YthggmiiipochiaaRows
import Derived.LaidMore
import Derived.OpenShut
import Derived.Stop.Joined
import Derived.Test.YthggmiiipochiaaXE
set_option linter.unusedVariables false
set_option linter.unusedSimpArgs false
set_option linter.unusedSectionVars false
/- A run of the program, as a memo. Made by memo.py. -/
set_option maxRecDepth 100000
namespace Go.Proofs.Ythggmiiipochiaa
namespace SX
open Go Go.Proofs
def MpAble : Memo := ⟨4,
  [],
  [],
  (.b
  .true),
  [(.mem 30 [(.i .i64 1), (.i .i64 1), (.i .i64 (-1)), (.i .i64 (-1)), (.i .i64 5), (.i .i64 0), (.i .i64 0), (.i .i64 (-1)), (.i .i64 0), (.i .i64 0), (.b .false), (.b .false), (.b
  .false), (.i .i64 0), (.i .i64 0), (.i .i64 0), (.b .false), (.i .i64 5), (.i .i64 (-1)), (.i .i64 1), (.i .i64 (-1)), (.i .i64 0), (.i .i64 0), (.i .i64 0), (.i .i64 (-1)), (.i
  .i64 8), (.i .i64 0), (.b .false), (.b .false), (.b .false), (.i .i64 0), (.i .i64 0), (.i .i64 0), (.b .false)] 1 0), (.mem 31 [(.sl 0 1 0 2 (.some 2) 0)] 1 0), (.mem 34 [(.i .i64
  2), (.i .i64 0), (.i .i64 0), (.i .i64 0), (.i .i64 0)] 1 0), (.mem 40 [(.i .i64 2), (.s [97]), (.i .i64 0), (.i .i64 0), (.i .i64 0), (.i .i64 0), (.i .i64 0), (.i .i64 0), (.i
  .i64 0), (.i .i64 0), (.i .i64 0), (.i .i64 0), (.i .i64 0), (.i .i64 0), (.i .i64 0), (.i .i64 0), (.i .i64 0), (.i .i64 0), (.i .i64 0), (.i .i64 0), (.i .i64 0), (.i .i64 0),
  (.i .i64 0), (.i .i64 0), (.i .i64 0), (.i .i64 0), (.i .i64 0), (.i .i64 0), (.i .i64 0), (.sl 1 1 0 1 (.some 1) 0), (.i .i64 1), (.sl 2 1 0 1 (.some 1) 0)] 1 0), (.mem 44 [(.i
  .i64 0), (.i .i64 255)] 1 0), (.mem 55 [(.sl 38 1 0 1 .none 0)] 1 0), (.mem 30 [(.i .i64 5), (.i .i64 (-1)), (.i .i64 1), (.i .i64 (-1)), (.i .i64 0), (.i .i64 0), (.i .i64 0), (.i
  .i64 (-1)), (.i .i64 8), (.i .i64 0), (.b .false), (.b .false), (.b .false), (.i .i64 0), (.i .i64 0), (.i .i64 0), (.b .false)] 1 0), (.mem 30 [(.i .i64 5), (.i .i64 (-1)), (.i
  .i64 1), (.i .i64 (-1)), (.i .i64 0), (.i .i64 0), (.i .i64 0), (.i .i64 (-1)), (.i .i64 8), (.i .i64 0), (.b .false), (.b .false), (.b .false), (.i .i64 0), (.i .i64 0), (.i .i64
  0), (.b .false)] 1 0), (.mem 30 [(.i .i64 5), (.i .i64 (-1)), (.i .i64 1), (.i .i64 (-1)), (.i .i64 0), (.i .i64 0), (.i .i64 0), (.i .i64 (-1)), (.i .i64 8), (.i .i64 0), (.b
  .false), (.b .false), (.b .false), (.i .i64 0), (.i .i64 0), (.i .i64 0), (.b .false)] 1 0), (.mem 30 [(.i .i64 5), (.i .i64 (-1)), (.i .i64 1), (.i .i64 (-1)), (.i .i64 0), (.i
  .i64 0), (.i .i64 0), (.i .i64 (-1)), (.i .i64 8), (.i .i64 0), (.b .false), (.b .false), (.b .false), (.i .i64 0), (.i .i64 0), (.i .i64 0), (.b .false)] 1 0), (.mem 30 [(.i .i64
  5), (.i .i64 (-1)), (.i .i64 1), (.i .i64 (-1)), (.i .i64 0), (.i .i64 0), (.i .i64 0), (.i .i64 (-1)), (.i .i64 8), (.i .i64 0), (.b .false), (.b .false), (.b .false), (.i .i64
  0), (.i .i64 0), (.i .i64 0), (.b .false)] 1 0), (.mem 30 [(.i .i64 5), (.i .i64 (-1)), (.i .i64 1), (.i .i64 (-1)), (.i .i64 0), (.i .i64 0), (.i .i64 0), (.i .i64 (-1)), (.i .i64
  8), (.i .i64 0), (.b .false), (.b .false), (.b .false), (.i .i64 0), (.i .i64 0), (.i .i64 0), (.b .false)] 1 0), (.mem 44 [(.i .i64 0), (.i .i64 255)] 1 0), (.mem 30 [(.i .i64 5),
  (.i .i64 (-1)), (.i .i64 1), (.i .i64 (-1)), (.i .i64 0), (.i .i64 0), (.i .i64 0), (.i .i64 (-1)), (.i .i64 8), (.i .i64 0), (.b .false), (.b .false), (.b .false), (.i .i64 0),
  (.i .i64 0), (.i .i64 0), (.b .false)] 1 0), (.mem 30 [(.i .i64 5), (.i .i64 (-1)), (.i .i64 1), (.i .i64 (-1)), (.i .i64 0), (.i .i64 0), (.i .i64 0), (.i .i64 (-1)), (.i .i64 8),
  (.i .i64 0), (.b .false), (.b .false), (.b .false), (.i .i64 0), (.i .i64 0), (.i .i64 0), (.b .false)] 1 0), (.mem 30 [(.i .i64 5), (.i .i64 (-1)), (.i .i64 1), (.i .i64 (-1)),
  (.i .i64 0), (.i .i64 0), (.i .i64 0), (.i .i64 (-1)), (.i .i64 8), (.i .i64 0), (.b .false), (.b .false), (.b .false), (.i .i64 0), (.i .i64 0), (.i .i64 0), (.b .false)] 1 0),
  (.mem 30 [(.i .i64 0), (.i .i64 0), (.i .i64 0), (.i .i64 0), (.i .i64 0), (.i .i64 0), (.i .i64 0), (.i .i64 0), (.i .i64 0), (.i .i64 0), (.b .false), (.b .false), (.b .false),
  (.i .i64 0), (.i .i64 0), (.i .i64 0), (.b .false)] 1 0), (.mem 30 [(.i .i64 0), (.i .i64 0), (.i .i64 0), (.i .i64 0), (.i .i64 0), (.i .i64 0), (.i .i64 0), (.i .i64 0), (.i .i64
  0), (.i .i64 0), (.b .false), (.b .false), (.b .false), (.i .i64 0), (.i .i64 0), (.i .i64 0), (.b .false)] 1 0), .fresh, .fresh, .fresh, .fresh, .fresh, .fresh, .fresh, .fresh,
  .fresh, .fresh, (.mem 30 [(.i .i64 1), (.i .i64 1), (.i .i64 (-1)), (.i .i64 (-1)), (.i .i64 5), (.i .i64 0), (.i .i64 0), (.i .i64 (-1)), (.i .i64 0), (.i .i64 0), (.b .false),
  (.b .false), (.b .false), (.i .i64 0), (.i .i64 0), (.i .i64 0), (.b .false), (.i .i64 5), (.i .i64 (-1)), (.i .i64 1), (.i .i64 (-1)), (.i .i64 0), (.i .i64 0), (.i .i64 0), (.i
  .i64 (-1)), (.i .i64 8), (.i .i64 0), (.b .false), (.b .false), (.b .false), (.i .i64 0), (.i .i64 0), (.i .i64 0), (.b .false)] 1 17), .fresh, .fresh, .fresh, .fresh, .fresh,
  .fresh, .fresh, .fresh, .fresh, (.mem 61 [(.sl 28 1 0 2 .none 0), (.i .i64 2), (.i .i64 0), (.i .i64 5), (.i .i64 0), (.i .i64 0), (.i .i64 0), (.i .i64 0), (.i .i64 0), (.i .i64
  0)] 1
  10)]⟩
theorem MpAble_ok : MemoOk Try.prog MpAble := memo_of (tr := treeF) (ft := ftree) (ms := []) (n := 40) tabOkF ftOk mixed (by intro m hm; cases hm) (by decide +kernel)
end SX
end Go.Proofs.Ythggmiiipochiaa

/- MachPlays: able. -/
set_option linter.unusedVariables false
set_option maxRecDepth 100000
namespace Go.Proofs.Ythggmiiipochiaa
namespace SX
open Go Go.Proofs
theorem able_ok : CtrV Try.prog 4 [] (.b true) := by
  have h := fin_ok callX_m true MpAble_ok
  have e : fin true MpAble.H MpAble.r MpAble.H' = (.b true, []) := by kernel_rfl
  rw [e] at h
  exact h
end SX
end Go.Proofs.Ythggmiiipochiaa

/- MachPlays: ladder.Do. -/
set_option linter.unusedVariables false
set_option maxRecDepth 100000
namespace Go.Proofs.Ythggmiiipochiaa
namespace SX
open Go Go.Proofs
theorem wrap64 {x : Int} (h1 : -9223372036854775808 ≤ x) (h2 : x ≤ 9223372036854775807) : IntKind.i64.wrap x = x := IntWalk.i64_in x ⟨h1, h2⟩
/-- May the ladder go this way? -/
def canL (l p : Int) : Bool := decide (l ≠ 0) && decide (0 ≤ p) && decide (p ≤ 1)
theorem do_ok (l a p : Int) (hl : 0 ≤ l) (hl2 : l ≤ 15) (ha : 0 ≤ a) (ha2 : a ≤ 100) :
    Ctr Try.prog 52 [.ptr 0 1 0 [], .i .i64 p] [.mem 26 [.i .i64 l, .i .i64 a] 1 0]
      (fun r h => (canL l p = true → r = .b true ∧ h = [.mem 26 [.i .i64 (l - 1), .i .i64 (a + (1 + p))] 1 0]) ∧ (canL l p = false → r = .b false ∧ h = [.mem 26 [.i .i64 l, .i .i64 a] 1 0])) := by
  refine Ctr.enter tabOk (fn := Try.f52) rfl rfl rfl rfl rfl ?_
  refine ⟨fun h1 => ?_, fun h1 => ?_⟩
  · have hc : canL l p = false := by
      simp only [Bool.or_eq_true, decide_eq_true_eq] at h1
      unfold canL
      by_cases h2 : l = 0
      · simp [h2]
      · rcases h1 with (h1 | h1) | h1
        · exact absurd h1 h2
        · have : ¬ 0 ≤ p := by omega
          simp [this]
        · have : ¬ p ≤ 1 := by omega
          simp [this]
    exact ⟨fun h => absurd h (by simp [hc]), fun _ => ⟨rfl, rfl⟩⟩
  · have hc : canL l p = true := by
      simp only [Bool.or_eq_false_iff, decide_eq_false_iff_not] at h1
      unfold canL
      have h2 : 0 ≤ p := by omega
      have h3 : p ≤ 1 := by omega
      simp [h1.1.1, h2, h3]
    have hp : 0 ≤ p ∧ p ≤ 1 := by
      simp only [Bool.or_eq_false_iff, decide_eq_false_iff_not] at h1
      omega
    refine ⟨fun _ => ⟨rfl, ?_⟩, fun h => absurd h (by simp [hc])⟩
    show [SB.mem 26 [.i .i64 (IntKind.i64.wrap (l - 1)), .i .i64 (IntKind.i64.wrap (a + IntKind.i64.wrap (1 + p)))] 1 0] = _
    rw [wrap64 (x := l - 1) (by omega) (by omega), wrap64 (x := 1 + p) (by omega) (by omega), wrap64 (x := a + (1 + p)) (by omega) (by omega)]
end SX
end Go.Proofs.Ythggmiiipochiaa

/- MachPlays: mach.Play on a ladder. -/
set_option linter.unusedVariables false
set_option maxRecDepth 100000
namespace Go.Proofs.Ythggmiiipochiaa
namespace SX
open Go Go.Proofs
def atOf (ys : List Int) : Nat → Int
  | 0 => 0
  | i + 1 => atOf ys i + (1 + ys.getD i 0)
def okTo (l : Int) (ys : List Int) (i : Nat) : Prop := (i : Int) ≤ l ∧ ∀ j, j < i → 0 ≤ ys.getD j 0 ∧ ys.getD j 0 ≤ 1
def Stop (l : Int) (ys : List Int) (n k : Nat) : Prop := k ≤ n ∧ okTo l ys k ∧ (k = n ∨ canL (l - k) (ys.getD k 0) = false)
theorem atOf_le {l : Int} {ys : List Int} : ∀ {i : Nat}, okTo l ys i → 0 ≤ atOf ys i ∧ atOf ys i ≤ 2 * i
  | 0, _ => by simp [atOf]
  | i + 1, h => by
    obtain ⟨h1, h2⟩ := atOf_le (l := l) (ys := ys) (i := i) ⟨by have := h.1; omega, fun j hj => h.2 j (by omega)⟩
    have h3 := h.2 i (by omega)
    simp only [atOf]
    omega
theorem okTo_succ {l : Int} {ys : List Int} {i : Nat} (h : okTo l ys i) (hc : canL (l - i) (ys.getD i 0) = true) : okTo l ys (i + 1) := by
  unfold canL at hc
  simp only [Bool.and_eq_true, decide_eq_true_eq] at hc
  refine ⟨by have := h.1; omega, fun j hj => ?_⟩
  rcases Nat.lt_succ_iff_lt_or_eq.1 hj with hj | rfl
  · exact h.2 j hj
  · exact ⟨hc.1.2, hc.2⟩
theorem Stop.unique {l : Int} {ys : List Int} {n k k' : Nat} (h : Stop l ys n k) (h' : Stop l ys n k') : k = k' := by
  have key : ∀ {k k' : Nat}, Stop l ys n k → Stop l ys n k' → ¬ k < k' := by
    intro k k' h h' hlt
    rcases h.2.2 with h1 | h1
    · have := h'.1; omega
    · have h2 := h'.2.1.2 k hlt
      have h3 := h'.2.1.1
      have h4 : canL (l - k) (ys.getD k 0) = true := by
        unfold canL
        rw [decide_eq_true (p := l - (k : Int) ≠ 0) (by omega), decide_eq_true h2.1, decide_eq_true h2.2]
        rfl
      rw [h4] at h1
      cases h1
  have a := key h h'
  have b := key h' h
  omega
theorem do_mt : MtOk Try.prog 24 "Do" 52 := fun v w => by kernel_rfl
def subN (l : Int) : Nat → Int
  | 0 => l
  | i + 1 => subN l i - 1
theorem subN_eq (l : Int) : ∀ i : Nat, subN l i = l - i
  | 0 => by simp [subN]
  | i + 1 => by simp only [subN, subN_eq l i]; omega
set_option maxHeartbeats 1000000 in
theorem play_ok (l : Int) (hl : 0 ≤ l) (hl2 : l ≤ 15) (ys : List Int) (n ver dc : Nat) (hn : n ≤ ys.length) (hn2 : n ≤ 1000) :
    Ctr Try.prog 5 [.iface 24 (.ptr 0 1 0 []), .sl 1 ver 0 n none dc] [.mem 26 [.i .i64 l, .i .i64 0] 1 0, .mem 3 [.ints .i64 ys.length ys] ver 1]
      (fun r h => ∃ k : Nat, Stop l ys n k ∧ r = .i .i64 k ∧ h = [.mem 26 [.i .i64 (subN l k), .i .i64 (atOf ys k)] 1 0, .mem 3 [.ints .i64 ys.length ys] ver 1]) := by
  refine Ctr.enter tabOk (fn := Try.f5) rfl rfl rfl rfl rfl ?_
  refine WpC.loop tabOk (β := Nat) (fun i => i ≤ n ∧ okTo l ys i) (fun i => [(9, .i .i64 i)]) (fun i => [.mem 26 [.i .i64 (subN l i), .i .i64 (atOf ys i)] 1 0, .mem 3 [.ints .i64 ys.length ys] ver 1]) (fun i => n - i) 0 1048176 ⟨Nat.zero_le _, by omega, fun j hj => by omega⟩ ?_ ?_
  · exact ⟨rfl, ⟨⟨rfl, rfl, rfl⟩, trivial⟩, ⟨[], rfl⟩, ⟨⟨rfl, rfl, trivial⟩, ⟨rfl, trivial⟩, trivial⟩, rfl⟩
  · rintro i ⟨hi, ho⟩
    have hb := atOf_le ho
    have hs := subN_eq l i
    have hs0 := ho.1
    refine ⟨fun h1 => ?_, fun h1 => ?_⟩
    · have h2 : i < n := by simpa using h1
      refine ⟨fun _ => ⟨by omega, by omega⟩, ?_⟩
      refine ⟨fun _ => by simp; omega, ?_⟩
      refine OpC.invokeL rfl rfl rfl rfl do_mt [0] 0 rfl rfl rfl (do_ok (subN l i) (atOf ys i) (ys.getD i 0) (by omega) (by omega) (by omega) (by omega)) rfl rfl rfl rfl ⟨rfl, trivial⟩ rfl (fun r H' hk => ?_) ?_
      · cases hc : canL (subN l i) (ys.getD i 0) with
        | true => rw [(hk.1 hc).2]; exact ⟨Nat.le_refl _, Nat.le_refl _⟩
        | false => rw [(hk.2 hc).2]; exact ⟨Nat.le_refl _, Nat.le_refl _⟩
      · intro r H' hk
        cases hc : canL (subN l i) (ys.getD i 0) with
        | true =>
          obtain ⟨rfl, rfl⟩ := hk.1 hc
          rw [hs] at hc
          refine ⟨fun h => absurd h (by decide), fun _ => ⟨i + 1, ⟨h2, okTo_succ ho hc⟩, by omega, rfl, ⟨⟨?_, rfl, rfl⟩, trivial⟩, ⟨[], rfl⟩, ⟨⟨rfl, rfl, trivial⟩, ⟨rfl, trivial⟩, trivial⟩, rfl⟩⟩
          show SV.i .i64 (IntKind.i64.wrap ((i : Int) + 1)) = SV.i .i64 ((i + 1 : Nat) : Int)
          rw [wrap64 (by omega) (by omega)]; rfl
        | false =>
          obtain ⟨rfl, rfl⟩ := hk.2 hc
          rw [hs] at hc
          exact ⟨fun _ => ⟨i, ⟨hi, ho, .inr hc⟩, rfl, rfl⟩, fun h => by cases h⟩
    · have h2 : i = n := by simp at h1; omega
      exact ⟨i, ⟨hi, ho, .inl h2⟩, by rw [h2]; rfl, rfl⟩
end SX
end Go.Proofs.Ythggmiiipochiaa

/- MachPlays: the law's contract. -/
set_option linter.unusedVariables false
set_option maxRecDepth 100000
namespace Go.Proofs.Ythggmiiipochiaa
namespace SX
open Go Go.Proofs
def ienc (x : Int) : List SV := [.i .i64 x]
/-- moves & 15 -/
def m15 (mv : Int) : Int := bits .and .i64 mv 15
theorem range_map_getD (xs : List Int) (f : Int → Value) : (List.range xs.length).flatMap (fun j => [f (xs.getD j 0)]) = xs.map f := by
  apply List.ext_getElem?
  intro j
  rw [← List.map_eq_flatMap, List.getElem?_map, List.getElem?_map]
  by_cases h : j < xs.length
  · rw [List.getElem?_range h, List.getElem?_eq_getElem h]
    simp [List.getD_eq_getElem?_getD, List.getElem?_eq_getElem h]
  · rw [List.getElem?_eq_none (by simpa using h), List.getElem?_eq_none (by simpa using h)]
    rfl
theorem joins_imm (xs : List Int) : Joins [] [.arr xs.length Int 0 1 ienc xs] [.ints .i64 xs.length xs] := by
  refine ⟨fun E => ?_, fun m V h1 h2 => ?_⟩
  · simp only [cellsL, SX.cells, List.append_nil, List.nil_append, ienc]
    exact (range_map_getD xs (Value.int .i64)).symm
  · simp [OkL, Ok, isUnit]
theorem getD_app {xs zs : List Int} {j : Nat} (h : j < xs.length) : (xs ++ zs).getD j 0 = xs.getD j 0 := by
  simp only [List.getD_eq_getElem?_getD, List.getElem?_append_left h]
theorem atOf_app {xs zs : List Int} : ∀ {k : Nat}, k ≤ xs.length → atOf (xs ++ zs) k = atOf xs k
  | 0, _ => rfl
  | k + 1, h => by simp only [atOf]; rw [atOf_app (by omega), getD_app (by omega)]
theorem stop_app {l : Int} {xs zs : List Int} {k : Nat} (h : Stop l (xs ++ zs) xs.length k) : Stop l xs xs.length k := by
  obtain ⟨h1, ⟨h2, h3⟩, h4⟩ := h
  refine ⟨h1, ⟨h2, fun j hj => by have := h3 j hj; rwa [getD_app (by omega)] at this⟩, ?_⟩
  rcases h4 with h4 | h4
  · exact .inl h4
  · rcases Nat.lt_or_ge k xs.length with h5 | h5
    · right; rwa [getD_app h5] at h4
    · left; omega
theorem fin_true {mv : Int} {xs : List Int} {k : Nat} (h0 : 0 ≤ m15 mv) (h15 : m15 mv ≤ 15) (hk : (k : Int) ≤ m15 mv) :
    (decide ((k : Int) = k) && decide (atOf xs k = atOf xs k) && decide (subN (m15 mv) k = IntKind.i64.wrap (m15 mv - k)) && decide ((xs ++ [-77]).getD xs.length 0 = -77)) = true := by
  rw [wrap64 (x := m15 mv - k) (by omega) (by omega), subN_eq]
  simp [List.getD_eq_getElem?_getD]
set_option maxHeartbeats 4000000 in
theorem law_ok (mv : Int) (xs : List Int) (a : Option Addr) (cap : Nat) (h0 : 0 ≤ m15 mv) (h15 : m15 mv ≤ 15) : CtrV Try.prog 3 [.i .i64 mv, .imm Int 0 1 ienc xs a cap] (.b true) := by
  refine Ctr.enterV tabOk (fn := Try.f3) rfl rfl rfl rfl rfl rfl ?_
  refine OpC.callV rfl rfl rfl rfl rfl rfl rfl (fun _ => able_ok) ?_
  refine ⟨fun h => absurd h (by decide), fun _ => ?_⟩
  refine ⟨fun h1 => rfl, fun h1 => ?_⟩
  have hn : xs.length ≤ 1000 := by simp at h1; omega
  refine WpC.loop tabOk (β := Nat) (fun i => i ≤ xs.length ∧ okTo (m15 mv) xs i) (fun i => [(6, .i .i64 i), (7, .i .i64 (atOf xs i))]) (fun i => [.mem 26 [.i .i64 (m15 mv), .i .i64 0] 1 0]) (fun i => xs.length - i) 0 9007199253692608 ⟨Nat.zero_le _, by omega, fun j hj => by omega⟩ ?_ ?_
  · exact ⟨rfl, ⟨⟨rfl, rfl, rfl⟩, ⟨rfl, rfl, rfl⟩, trivial⟩, ⟨[], rfl⟩, ⟨⟨rfl, rfl, trivial⟩, trivial⟩, rfl⟩
  · rintro i ⟨hi, ho⟩
    have hb := atOf_le ho
    have hs0 := ho.1
    refine ⟨fun hg => ?_, ?_⟩
    · have hg' : ((decide ((i : Int) < xs.length) && decide ((i : Int) < m15 mv)) == true) = true := hg
      simp at hg'
      omega
    refine ⟨fun hg => ?_, ?_⟩
    · have hg' : ((decide ((i : Int) < xs.length) && decide ((i : Int) < m15 mv) && decide (0 ≤ xs.getD i 0)) == true) = true := hg
      simp at hg'
      omega
    have hst : (decide ((i : Int) < xs.length) && decide ((i : Int) < m15 mv) && decide (0 ≤ xs.getD i 0) && decide (xs.getD i 0 ≤ 1)) = false → Stop (m15 mv) xs xs.length i := fun h => by
      refine ⟨hi, ho, ?_⟩
      rcases Nat.lt_or_ge i xs.length with h2 | h2
      · right
        unfold canL
        rw [decide_eq_true (p := (i : Int) < xs.length) (by omega), Bool.true_and] at h
        by_cases h3 : (i : Int) < m15 mv
        · rw [decide_eq_true h3, Bool.true_and] at h
          rw [Bool.and_assoc, h, Bool.and_false]
        · have : m15 mv - (i : Int) = 0 := by omega
          simp [this]
      · left; omega
    refine ⟨fun hc => ?_, fun hc => ?_⟩
    · have hc' : (decide ((i : Int) < xs.length) && decide ((i : Int) < m15 mv) && decide (0 ≤ xs.getD i 0) && decide (xs.getD i 0 ≤ 1)) = true := hc
      simp only [Bool.and_eq_true, decide_eq_true_eq] at hc'
      obtain ⟨⟨⟨c1, c2⟩, c3⟩, c4⟩ := hc'
      have hcan : canL (m15 mv - i) (xs.getD i 0) = true := by
        unfold canL
        rw [decide_eq_true (p := m15 mv - (i : Int) ≠ 0) (by omega), decide_eq_true c3, decide_eq_true c4]; rfl
      refine ⟨fun _ => ⟨by omega, by omega⟩, ?_⟩
      refine ⟨i + 1, ⟨by omega, okTo_succ ho hcan⟩, by omega, rfl, ⟨⟨?_, rfl, rfl⟩, ⟨?_, rfl, rfl⟩, trivial⟩, ⟨[], rfl⟩, ⟨⟨rfl, rfl, trivial⟩, trivial⟩, rfl⟩
      · show SV.i .i64 (IntKind.i64.wrap ((i : Int) + 1)) = SV.i .i64 ((i + 1 : Nat) : Int)
        rw [wrap64 (by omega) (by omega)]; rfl
      · show SV.i .i64 (IntKind.i64.wrap (atOf xs i + IntKind.i64.wrap (1 + xs.getD i 0))) = SV.i .i64 (atOf xs (i + 1))
        rw [wrap64 (x := 1 + xs.getD i 0) (by omega) (by omega), wrap64 (x := atOf xs i + (1 + xs.getD i 0)) (by omega) (by omega)]; rfl
    · replace hst := hst hc
      clear hc hb hs0 hi ho
      by_cases hz : xs = []
      · subst hz
        have hi0 : i = 0 := Nat.le_zero.1 hst.1
        subst hi0
        refine OpC.yld 0 rfl (yld_app_zero tabOk rfl rfl rfl rfl rfl (rb := []) rfl (.inr (.inl ⟨_, _, _, _, _, _, rfl, Nat.le_refl _⟩)) (SrcA.imm (α := Int) (d := 0) (enc := ienc) (xs := []) (a := a) (cap := cap) rfl rfl rfl)) (fun d hd => by cases hd; rfl) ?_
        refine OpC.yld 1 rfl (yld_app_new tabOk rfl rfl rfl rfl rfl rfl (BaseA.sl0 rfl) (SrcA.sl rfl rfl rfl rfl (by decide) rfl) (p := 3) rfl (segs' := [.ints .i64 1 [-77]]) ⟨fun E => rfl, fun m V h1 h2 => h2⟩ (by decide) (by decide) (by decide)) (fun d hd => by cases hd; rfl) ?_
        refine ⟨fun _ => ⟨⟨⟨rfl, rfl, by decide⟩, (Nat.zero_mul _).symm, by decide⟩, by decide, by decide⟩, ?_⟩
        refine OpC.callL rfl rfl rfl rfl [0, 3] 0 rfl rfl rfl (play_ok (m15 mv) h0 h15 [-77] 0 1 _ (by decide) (by decide)) rfl rfl rfl rfl ⟨rfl, rfl, trivial⟩ rfl (fun r H' hk => ?_) ?_
        · obtain ⟨k, _, rfl, rfl⟩ := hk
          exact ⟨Nat.le_refl _, Nat.le_refl _⟩
        · rintro r H' ⟨k, hk, rfl, rfl⟩
          have hk0 : k = 0 := Nat.le_zero.1 hk.1
          subst hk0
          refine WpC.loop tabOk (β := Nat) (fun j => j = 0) (fun j => [(10, .i .i64 j)]) (fun _ => [.mem 26 [.i .i64 (m15 mv), .i .i64 0] 1 0, .mem 3 [.ints .i64 0 []] 1 0, .mem 3 [.ints .i64 1 [-77]] 1 0, .mem 3 [.ints .i64 1 [-77]] 1 1]) (fun j => 0) 0 1208888926126481755603984 rfl ?_ ?_
          · exact ⟨rfl, ⟨⟨rfl, rfl, rfl⟩, trivial⟩, ⟨[], rfl⟩, ⟨⟨rfl, rfl, trivial⟩, ⟨rfl, trivial⟩, ⟨rfl, trivial⟩, ⟨rfl, trivial⟩, trivial⟩, rfl⟩
          · rintro j rfl
            refine ⟨fun hc => absurd hc (by decide), fun hc => ?_⟩
            refine ⟨fun _ => ⟨by decide, by decide⟩, ?_⟩
            refine ⟨fun _ => ⟨rfl, by decide⟩, ?_⟩
            exact congrArg SV.b (fin_true (xs := []) (k := 0) h0 h15 h0)
      · have hpos : 0 < xs.length := List.length_pos_iff.2 hz
        refine OpC.yld 1 rfl (yld_app_new tabOk rfl rfl rfl rfl rfl rfl (BaseA.sl0 rfl) (SrcA.imm rfl rfl rfl) (p := 2) rfl (joins_imm xs) (by omega) (Nat.le_trans (show 0 + xs.length ≤ 1000 by omega) (by decide)) (by show (0 + xs.length) * 8 ≤ 140737488355328; omega)) (fun d hd => by cases hd; rfl) ?_
        refine OpC.yld 0 rfl (yld_app_row tabOk rfl rfl rfl rfl rfl rfl rfl rfl (by simp only [wdL, wd, Nat.add_zero, Nat.zero_add]; exact (Nat.mul_one _).symm) (SrcA.sl rfl rfl rfl rfl (by decide) rfl) Joins.ints (by decide) (Nat.le_trans (show 0 + xs.length + 1 ≤ 1001 by omega) (by decide)) (by show (0 + xs.length + 1) * 8 ≤ 140737488355328; omega)) (fun d hd => by cases hd; rfl) ?_
        refine ⟨fun _ => ⟨⟨⟨rfl, rfl, by decide⟩, (Nat.zero_mul _).symm, by show (0 + (0 + xs.length + 1)) * 1 ≤ (xs ++ [-77]).length + 0; simp⟩, by omega, by omega⟩, ?_⟩
        refine OpC.callL rfl rfl rfl rfl [0, 2] 0 rfl rfl rfl (play_ok (m15 mv) h0 h15 (xs ++ [-77]) xs.length 2 _ (by simp) hn) rfl rfl rfl rfl ⟨rfl, rfl, trivial⟩ rfl (fun r H' hk => ?_) ?_
        · obtain ⟨k, _, rfl, rfl⟩ := hk
          exact ⟨Nat.le_refl _, Nat.le_refl _⟩
        · rintro r H' ⟨k, hk, rfl, rfl⟩
          have hki := (stop_app hk).unique hst
          subst hki
          rw [atOf_app hst.1]
          refine WpC.loop tabOk (β := Nat) (fun j => j ≤ xs.length) (fun j => [(10, .i .i64 j)]) (fun _ => [.mem 26 [.i .i64 (subN (m15 mv) k), .i .i64 (atOf xs k)] 1 0, .mem 3 [.ints .i64 0 []] 1 0, .mem 3 [.ints .i64 (xs ++ [-77]).length (xs ++ [-77])] 2 1, .mem 3 [.ints .i64 1 [-77]] 1 0]) (fun j => xs.length - j) 0 1208888926126481755603984 (Nat.zero_le _) ?_ ?_
          · exact ⟨rfl, ⟨⟨rfl, rfl, rfl⟩, trivial⟩, ⟨[], rfl⟩, ⟨⟨rfl, rfl, trivial⟩, ⟨rfl, trivial⟩, ⟨rfl, trivial⟩, ⟨rfl, trivial⟩, trivial⟩, rfl⟩
          · intro j hj
            refine ⟨fun hc => ?_, fun hc => ?_⟩
            · have hj2 : j < xs.length := by simpa using hc
              refine WpC.dr tabOk mixed 0 ?_
              refine ⟨fun _ => ⟨by omega, by omega⟩, ?_⟩
              refine ⟨fun _ => ⟨rfl, by show j < (xs ++ [-77]).length; simp; omega⟩, ?_⟩
              refine ⟨fun _ => ⟨by omega, by omega⟩, ?_⟩
              refine ⟨by kernel_rfl, ?_⟩
              refine ⟨fun hb => ?_, fun _ => ?_⟩
              · exfalso
                have hb' : decide ((xs ++ [-77]).getD j 0 = xs.getD j 0) = false := by simpa using hb
                rw [getD_app hj2] at hb'
                simp at hb'
              · refine ⟨j + 1, hj2, by omega, rfl, ⟨⟨?_, rfl, rfl⟩, trivial⟩, ⟨[], rfl⟩, ⟨⟨rfl, rfl, trivial⟩, ⟨rfl, trivial⟩, ⟨rfl, trivial⟩, ⟨rfl, trivial⟩, trivial⟩, rfl⟩
                show SV.i .i64 (IntKind.i64.wrap ((j : Int) + 1)) = SV.i .i64 ((j + 1 : Nat) : Int)
                rw [wrap64 (by omega) (by omega)]; rfl
            · refine ⟨fun _ => ⟨by omega, by omega⟩, ?_⟩
              refine ⟨fun _ => ⟨rfl, by show xs.length < (xs ++ [-77]).length; simp⟩, ?_⟩
              exact congrArg SV.b (fin_true h0 h15 hst.2.1.1)
theorem m15_bd (mv : Int) : 0 ≤ m15 mv ∧ m15 mv ≤ 15 := by
  have h : (BitVec.ofInt 64 mv &&& BitVec.ofInt 64 15).toNat ≤ 15 := by
    rw [BitVec.toNat_and]
    exact Nat.and_le_right
  have e : m15 mv = IntKind.i64.wrap ((BitVec.ofInt 64 mv &&& BitVec.ofInt 64 15).toNat : Int) := rfl
  rw [e, wrap64 (by omega) (by omega)]
  omega
end SX
end Go.Proofs.Ythggmiiipochiaa

/- SX: rows: what was read is read again when no old block has changed. -/
set_option linter.unusedVariables false
set_option linter.unusedSimpArgs false
namespace Go.Proofs.Ythggmiiipochiaa
namespace SX
open Go Go.ChangeShapes Go.WideShapes
theorem mapM_to {α β : Type} {f g : α → Option β} : ∀ {l : List α} {r : List β}, l.mapM f = some r → (∀ x ∈ l, ∀ y, f x = some y → g x = some y) → l.mapM g = some r
  | [], r, h, hr => by simpa using h
  | a :: as1, r, h, hr => by
    rw [List.mapM_cons] at h ⊢
    cases ha : f a with
    | none => simp [ha] at h
    | some b =>
      cases has : as1.mapM f with
      | none => simp [ha, has] at h
      | some bs =>
        simp [ha, has] at h
        subst h
        rw [hr a (by simp) b ha, mapM_to has fun x hx y hy => hr x (by simp [hx]) y hy]
        rfl
theorem mapM_at {α β : Type} {f : α → Option β} : ∀ {l : List α} {r : List β}, l.mapM f = some r → ∀ {x}, x ∈ l → ∃ y, f x = some y
  | [], r, h, x, hx => by simp at hx
  | a :: as1, r, h, x, hx => by
    rw [List.mapM_cons] at h
    cases ha : f a with
    | none => simp [ha] at h
    | some b =>
      cases has : as1.mapM f with
      | none => simp [ha, has] at h
      | some bs =>
        rcases List.mem_cons.1 hx with rfl | hx
        · exact ⟨b, ha⟩
        · exact mapM_at has hx
/-- No block of the first world has changed in the second one. -/
def Kept (w w' : World) : Prop := ∀ b, b < w.heap.size → w'.heap[b]? = w.heap[b]?
section
variable {H : Type} {enc : TypeId × Value → H} {P : Program} {w w' : World} {base : Nat} {sp sp' : Nat → Bool} {held : Bool}
theorem Kept.cell (hk : Kept w w') {a : Addr} {v : Value} (h : w.cell? a = some v) : w'.cell? a = some v := by
  have hb := World.block_lt_of_cell? w _ h
  have := hk a.block hb
  unfold World.cell? at h ⊢
  rw [this]
  exact h
theorem Kept.cells (hk : Kept w w') {a : Addr} {n : Nat} {cs : List Value} (h : w.cells? base a n = some cs) : w'.cells? base a n = some cs := by
  unfold World.cells? at h ⊢
  split at h
  · rename_i hb
    rw [if_pos hb]
    exact mapM_to h fun i _ y hy => hk.cell hy
  · cases h
/-- What a type is made of is among these types; the elements of slices have cells. -/
def CompsOk (P : Program) (S : TypeId → Prop) (t : TypeId) : Prop := match P.underlying t with
  | some (.pointer e) => S e
  | some (.slice e) => S e ∧ 0 < P.cellsOf e
  | some (.struct fs) => ∀ f ∈ fs.toList, S f.type
  | some (.array _ e) => S e
  | some (.map _ e) => S e
  | _ => True
def compsB (P : Program) (n : Nat) (t : TypeId) : Bool := match P.underlying t with
  | some (.pointer e) => Nat.blt e n
  | some (.slice e) => Nat.blt e n && Nat.blt 0 (P.cellsOf e)
  | some (.struct fs) => fs.toList.all fun f => Nat.blt f.type n
  | some (.array _ e) => Nat.blt e n
  | some (.map _ e) => Nat.blt e n
  | _ => true
theorem compsOk_of {P : Program} {n : Nat} (h : ((List.range n).all (compsB P n)) = true) : ∀ t, t < n → CompsOk P (· < n) t := by
  intro t ht
  have := List.all_eq_true.1 h t (List.mem_range.2 ht)
  unfold compsB at this
  unfold CompsOk
  split <;> rename_i hu <;> first | trivial | (rw [hu] at this; simp only at this)
  · exact Nat.le_of_ble_eq_true this
  · rw [Bool.and_eq_true] at this
    exact ⟨Nat.le_of_ble_eq_true this.1, Nat.le_of_ble_eq_true this.2⟩
  · intro f hf
    exact Nat.le_of_ble_eq_true (List.all_eq_true.1 this f hf)
  · exact Nat.le_of_ble_eq_true this
  · exact Nat.le_of_ble_eq_true this
theorem trodStep_grow {S : TypeId → Prop} {r r' : TypeId → List Value → Option (DataW H × List MemPlace)} (hk : Kept w w') (hsp : ∀ b, b < w.heap.size → sp' b = true) (hz : ∀ t, S t → CompsOk P S t)
    (hr : ∀ t, S t → ∀ cs x, r t cs = some x → r' t cs = some x) {t : TypeId} (hS : S t) {cs : List Value} {x : DataW H × List MemPlace}
    (h : DataW.trodStep enc P w base (fun _ => true) true r t cs = some x) : DataW.trodStep enc P w' base sp' true r' t cs = some x := by
  have hcp := hz t hS
  unfold CompsOk at hcp
  unfold DataW.trodStep at h ⊢
  split at h
  case h_1 => exact h
  case h_2 => exact h
  case h_3 => exact h
  case h_4 => exact h
  case h_5 => exact h
  case h_6 e a ht =>
    rw [ht] at hcp
    simp only [Option.map_eq_some_iff, Option.bind_eq_some_iff] at h ⊢
    obtain ⟨y, ⟨cs', hc, hy⟩, rfl⟩ := h
    exact ⟨y, ⟨cs', hk.cells hc, hr _ hcp _ _ hy⟩, rfl⟩
  case h_7 => exact h
  case h_8 e a len cap ht =>
    rw [ht] at hcp
    simp only at h ⊢
    split at h
    · rename_i hc
      rw [if_pos hc]
      simp only [Option.map_eq_some_iff, Option.bind_eq_some_iff] at h ⊢
      obtain ⟨elems, he, rest, hrest, rfl⟩ := h
      have one : ∀ i y, (w.cells? base (a.add (i * P.cellsOf e)) (P.cellsOf e)).bind (r e) = some y → (w'.cells? base (a.add (i * P.cellsOf e)) (P.cellsOf e)).bind (r' e) = some y := fun i y hy => by
        simp only [Option.bind_eq_some_iff] at hy ⊢
        obtain ⟨cs', hc', hy'⟩ := hy
        exact ⟨cs', hk.cells hc', hr _ hcp.1 _ _ hy'⟩
      refine ⟨elems, mapM_to he fun i _ y hy => one i y hy, rest, ?_, rfl⟩
      by_cases hcap : cap - len = 0
      · rw [hcap] at hrest ⊢
        simp only [List.range_zero, List.mapM_nil] at hrest ⊢
        revert hrest
        cases sp' a.block <;> simp
      · rw [if_pos trivial] at hrest
        obtain ⟨y, hy⟩ := mapM_at hrest (List.mem_range.2 (Nat.pos_of_ne_zero hcap))
        simp only [Option.bind_eq_some_iff] at hy
        obtain ⟨cs', hc', _⟩ := hy
        have hb : (a.add ((len + 0) * P.cellsOf e)).block < w.heap.size := World.cells?_block hc' hcp.2
        have hb : a.block < w.heap.size := by
          have e1 : (a.add ((len + 0) * P.cellsOf e)).block = a.block := by unfold Addr.add; split <;> rfl
          rw [← e1]; exact hb
        rw [if_pos (hsp _ hb)]
        exact mapM_to hrest fun i _ y hy => one _ y hy
    · cases h
  case h_9 fs ht =>
    rw [ht] at hcp
    split at h
    · rename_i hc
      rw [if_pos hc]
      simp only [Option.map_eq_some_iff] at h ⊢
      obtain ⟨xs, hx, rfl⟩ := h
      exact ⟨xs, mapM_to hx fun f hf y hy => hr _ (hcp f hf) _ _ hy, rfl⟩
    · cases h
  case h_10 n e ht =>
    rw [ht] at hcp
    split at h
    · rename_i hc
      rw [if_pos hc]
      simp only [Option.map_eq_some_iff] at h ⊢
      obtain ⟨xs, hx, rfl⟩ := h
      exact ⟨xs, mapM_to hx fun f _ y hy => hr _ hcp _ _ hy, rfl⟩
    · cases h
  case h_11 => exact h
  case h_12 => exact h
  case h_13 => exact h
  case h_14 k e b ht =>
    rw [ht] at hcp
    split at h
    · rename_i es clock hb
      have hlt : b < w.heap.size := by
        rcases Nat.lt_or_ge b w.heap.size with h1 | h1
        · exact h1
        · rw [Array.getElem?_eq_none h1] at hb; cases hb
      have hb' : w'.heap[b]? = some (.map es clock) := by rw [hk b hlt]; exact hb
      rw [hb']
      simp only
      split at h
      · rename_i hc
        rw [if_pos hc]
        simp only [Option.bind_eq_some_iff] at h ⊢
        obtain ⟨entries, he, hd⟩ := h
        refine ⟨entries, mapM_to he fun x _ y hy => ?_, hd⟩
        simp only [Option.bind_eq_some_iff] at hy ⊢
        obtain ⟨key, hk, hz⟩ := hy
        refine ⟨key, hk, ?_⟩
        split at hz
        · rename_i hf
          rw [if_pos hf]
          simp only [Option.map_eq_some_iff] at hz ⊢
          obtain ⟨q, hq, rfl⟩ := hz
          exact ⟨q, hr _ hcp _ _ hq, rfl⟩
        · cases hz
      · cases h
    · cases h
  all_goals exact h
variable {S : TypeId → Prop} (hk : Kept w w') (hz : ∀ t, S t → CompsOk P S t)
include hk hz
theorem trod_grow (hsp : ∀ b, b < w.heap.size → sp' b = true) : ∀ (n : Nat) (t : TypeId), S t → ∀ (cs : List Value) (x : DataW H × List MemPlace), DataW.trod enc P w base (fun _ => true) true n t cs = some x → DataW.trod enc P w' base sp' true n t cs = some x := by
  intro n
  induction n with
  | zero => intro t _ cs x h; simp [DataW.trod] at h
  | succ n ih =>
    intro t hS cs x h
    rw [DataW.trod_step] at h ⊢
    exact trodStep_grow hk hsp hz ih hS h
theorem trodAll_grow (hsp : ∀ b, b < w.heap.size → sp' b = true) : ∀ {ts : List TypeId} {vs : List Value} {ds : List (DataW H)} {ps : List MemPlace}, (∀ t ∈ ts, S t) →
    DataW.TrodAll enc P w base (fun _ => true) true ts vs ds ps → DataW.TrodAll enc P w' base sp' true ts vs ds ps
  | [], [], [], _, _, h => h
  | _ :: _, _ :: _, _ :: _, _, hS, ⟨p, q, ⟨n, h⟩, hs, e⟩ => ⟨p, q, ⟨n, trod_grow hk hz hsp n _ (hS _ (List.mem_cons_self ..)) _ _ h⟩, trodAll_grow hsp (fun t ht => hS t (List.mem_cons_of_mem _ ht)) hs, e⟩
theorem trodVars_grow (hsp : ∀ b, b < w.heap.size → sp' b = true) (hv : ∀ n cs, w.var? P n = some cs → w'.var? P n = some cs) : ∀ {ns : List String} {ds : List (DataW H)} {ps : List MemPlace}, (∀ n ∈ ns, ∀ g t, P.globalNamed n = some g → (P.globals[g]?).map (·.type) = some t → S t) →
    DataW.TrodVars enc P w (fun _ => true) ns ds ps → DataW.TrodVars enc P w' sp' ns ds ps
  | [], [], _, _, h => h
  | n :: _, _ :: _, _, hS, ⟨g, t, cs, fuel, p, q, h1, h2, h3, h4, hs, e⟩ =>
    ⟨g, t, cs, fuel, p, q, h1, h2, hv _ _ h3, trod_grow hk hz hsp _ _ (hS n (List.mem_cons_self ..) g t h1 h2) _ _ h4, trodVars_grow hsp hv (fun n hn => hS n (List.mem_cons_of_mem _ hn)) hs, e⟩
omit hz in
theorem Kept.var {n : String} {cs : Array Value} (h : w.var? P n = some cs) : w'.var? P n = some cs := by
  unfold World.var? at h ⊢
  cases hg : P.globalNamed n with
  | none => rw [hg] at h; cases h
  | some g =>
    rw [hg] at h
    simp only [Option.bind_some] at h ⊢
    rcases Nat.lt_or_ge g w.heap.size with h1 | h1
    · rw [hk g h1]; exact h
    · rw [Array.getElem?_eq_none h1] at h; cases h
omit hz in
theorem Kept.noneFrozen {ps : List MemPlace} (hl : ∀ p ∈ ps, p.block < w.heap.size) (h : w.noneFrozen ps) : w'.noneFrozen ps := by
  intro b off hp
  have h1 := h b off hp
  have h2 := hl _ hp
  unfold World.frozen? at h1 ⊢
  rw [hk b h2]
  exact h1
/-- A law that keeps all old memory: what it hands back is what the row wants. -/
theorem post_kept {f : Func} {s : ChangeSpec} {apart fresh handsOn again : Bool} {args : Array Value} {v : Value} {ds gs : List (DataW H)} {before : List MemPlace} {res : List (DataW H)}
    (hS : ∀ t ∈ f.params.toList, S t) (hSv : ∀ n ∈ s.vars, ∀ g t, P.globalNamed n = some g → (P.globals[g]?).map (·.type) = some t → S t)
    (hW : DataW.Whole enc P f.params.toList s.vars apart w args.toList ds gs before) (hos : w'.os = w.os) (hout : w'.output = w.output)
    (hr : (s.fn H (ds ++ gs)).results = res) (ha : (s.fn H (ds ++ gs)).args = ds) (hvv : (s.fn H (ds ++ gs)).vars = gs)
    (hres : ∀ (b : Nat) (sp : Nat → Bool) (hd : Bool), DataW.TrodAll enc P w' b sp hd f.resultTypes.toList (v.resultList f.resultTypes.size) res [])
    (hok : ∀ (j : Nat) (t : TypeId) (r : Value), f.resultTypes[j]? = some t → (v.resultList f.resultTypes.size)[j]? = some r → Value.okWide P w' .any 0 t r) :
    s.post enc P f apart fresh handsOn again w args v w' := by
  have hlt := hW.lt
  have hW0 := hW
  obtain ⟨p, q, h1, h2, rfl, h4, h5⟩ := hW
  have hsp : ∀ b, b < w.heap.size → (fun b => decide (b < w.heap.size)) b = true := fun b hb => by simpa using hb
  refine ⟨ds, gs, p ++ q, [], p, q, hW0, by rw [hr]; exact hres _ _ _, by rw [ha]; exact trodAll_grow hk hz hsp hS h1, by rw [hvv]; exact trodVars_grow hk hz hsp (fun n cs => hk.var) hSv h2, ⟨hos, hout, fun i hi => ?_⟩, fun _ => ⟨hok, _, _, ([] ++ p) ++ q, ⟨[] ++ p, q, trodAll_append (trodAll_grow hk hz (fun _ _ => rfl) hS h1) (hres _ _ _), trodVars_grow hk hz (fun _ _ => rfl) (fun n cs => hk.var) hSv h2, rfl, ?_, ?_⟩, ?_⟩⟩
  · rw [hk i hi]
    cases w.heap[i]? with
    | none => rfl
    | some o => cases o <;> simp
  · simpa using hk.noneFrozen hlt h4
  · simpa using h5
  · intro p hp _
    simpa using hp
end
end SX
end Go.Proofs.Ythggmiiipochiaa

/- SX: rows: from a contract to the law's call. -/
set_option linter.unusedVariables false
set_option linter.unusedSimpArgs false
namespace Go.Proofs.Ythggmiiipochiaa
namespace SX
open Go Go.ChangeShapes Go.WideShapes Go.Deep
section
variable {P : Program}
/-- A contract, as a call. -/
theorem Ctr.calls {f : FuncId} {fn : Func} {c : Code} (hf : P.funcs[f]? = some fn) (hb : fn.body = some c) (hnm : (fn.name == "runtime.NumGoroutine") = false) {args : List SV} {H : List SB} {K : SV → List SB → Prop} (h : Ctr P f args H K)
    {C : Fr} {E : Env} {m : Mem} {w : World} (hr : Rel E C m H w) (ho : OkA m (vers H) args) :
    Calls P f (denL E args).toArray w (fun e w' => ∃ v, e = .returned v ∧ ∃ r H' E' m', v = den E' r ∧ K r H' ∧ (Ok m' (vers H') r ∧ live r = true) ∧ Ext E m (vers H) E' m' (vers H') ∧ Rel E' C m' H' w') := by
  have h1 := h.out C E m w hr ho
  have hrun : (callFunc f (denL E args).toArray).run P w = .ok (.enter f (denL E args).toArray) w := by
    have h1 : fn.name ≠ "runtime.NumGoroutine" := by simpa using hnm
    simp [callFunc, hf, h1, hb]
  unfold callX at h1
  rw [hrun] at h1
  exact h1
/-- The frame that holds all that is there. -/
def frAll (w : World) : Fr := ⟨w.os, w.tape, w.output, fun b => w.heap[b]?⟩
theorem rel_all (w : World) (E : Env) : Rel E (frAll w) (fun _ => none) [] w where
  os := rfl
  tape := rfl
  output := rfl
  im := fun b o h => by cases h
  fr := fun b o h => h
  mf := fun b o h => rfl
  bl := fun k B h => by simp at h
  nn := fun k v h hv => by
    exfalso
    unfold Vle at h
    simp [vers] at h
  sp := fun k b ⟨B, h, _⟩ => by simp at h
  inj := fun j k b ⟨B, h, _⟩ => by simp at h
theorem Rel.kept {w w' : World} {E : Env} {m : Mem} {H : List SB} (h : Rel E (frAll w) m H w') : Kept w w' ∧ w'.os = w.os ∧ w'.output = w.output := by
  refine ⟨fun b hb => ?_, h.os, h.output⟩
  have hg : w.heap[b]? = some w.heap[b] := Array.getElem?_eq_getElem hb
  rw [h.fr b _ hg, hg]
/-- A law of plain values. -/
theorem law_calls {f : FuncId} {fn : Func} {c : Code} (hf : P.funcs[f]? = some fn) (hb : fn.body = some c) (hnm : (fn.name == "runtime.NumGoroutine") = false) {args : List SV} (h : CtrV P f args (.b true))
    (ho : OkA (fun _ => none) [] args) (w : World) {vs : Array Value} (hvs : vs = (denL (fun _ _ => none) args).toArray) :
    Calls P f vs w (fun e w' => e = .returned (.bool true) ∧ Kept w w' ∧ w'.os = w.os ∧ w'.output = w.output) := by
  subst hvs
  refine (h.calls hf hb hnm (rel_all w _) ho).mono fun e w' he => ?_
  obtain ⟨v, rfl, r, H', E', m', rfl, ⟨rfl, rfl⟩, _, _, hrel⟩ := he
  exact ⟨rfl, hrel.kept⟩
/-- The blocks that the arguments lean on, and the rest. -/
def memOf (w : World) (S : Nat → Bool) : Mem := fun b => if S b then w.heap[b]? else none
def frOf (w : World) (S : Nat → Bool) : Fr := ⟨w.os, w.tape, w.output, fun b => if S b then none else w.heap[b]?⟩
theorem rel_of (w : World) (S : Nat → Bool) (E : Env) : Rel E (frOf w S) (memOf w S) [] w where
  os := rfl
  tape := rfl
  output := rfl
  im := fun b o h => by
    unfold memOf at h
    split at h
    · exact h
    · cases h
  fr := fun b o h => by
    simp only [frOf] at h
    split at h
    · cases h
    · exact h
  mf := fun b o h => by
    simp only [frOf] at h
    unfold memOf
    split at h
    · cases h
    · rename_i hs; rw [if_neg hs]
  bl := fun k B h => by simp at h
  nn := fun k v h hv => by
    exfalso
    unfold Vle at h
    simp [vers] at h
  sp := fun k b ⟨B, h, _⟩ => by simp at h
  inj := fun j k b ⟨B, h, _⟩ => by simp at h
theorem Rel.keptOf {w w' : World} {S : Nat → Bool} {E : Env} {m : Mem} {H : List SB} (hm : ∀ b o, memOf w S b = some o → m b = some o) (h : Rel E (frOf w S) m H w') : Kept w w' ∧ w'.os = w.os ∧ w'.output = w.output := by
  refine ⟨fun b hb => ?_, h.os, h.output⟩
  have hg : w.heap[b]? = some w.heap[b] := Array.getElem?_eq_getElem hb
  cases hs : S b with
  | true =>
    have := h.im b _ (hm b w.heap[b] (by unfold memOf; rw [hs]; exact hg))
    rw [this, hg]
  | false =>
    have := h.fr b w.heap[b] (by simp only [frOf, hs]; exact hg)
    rw [this, hg]
/-- A law whose arguments lean on memory that it only reads. -/
theorem law_callsM {f : FuncId} {fn : Func} {c : Code} (hf : P.funcs[f]? = some fn) (hb : fn.body = some c) (hnm : (fn.name == "runtime.NumGoroutine") = false) {args : List SV} (h : CtrV P f args (.b true))
    (w : World) (S : Nat → Bool) (ho : OkA (memOf w S) [] args) {vs : Array Value} (hvs : vs = (denL (fun _ _ => none) args).toArray) :
    Calls P f vs w (fun e w' => e = .returned (.bool true) ∧ Kept w w' ∧ w'.os = w.os ∧ w'.output = w.output) := by
  subst hvs
  refine (h.calls hf hb hnm (rel_of w S _) ho).mono fun e w' he => ?_
  obtain ⟨v, rfl, r, H', E', m', rfl, ⟨rfl, rfl⟩, _, hx, hrel⟩ := he
  exact ⟨rfl, hrel.keptOf hx.mm⟩
end
section
variable {H : Type} {enc : TypeId × Value → H} {P : Program} {w : World} {base : Nat} {spare : Nat → Bool} {held : Bool}
/-- A struct of integers and bools, by value, opened. -/
theorem open_flat {r : Reach} {b0 : Nat} {t : TypeId} {fs : Array Field} {v : Value} {d : DataW H} {p : List MemPlace} (hs : P.underlying t = some (.struct fs)) (hone : oneCellFields P fs = true) (hC : P.cellsOf t = fs.size)
    (hv : Value.okWide P w r b0 t v) (h : DataW.Trod enc P w base spare held t v d p) :
    ∃ cs : List Value, v = .agg cs.toArray ∧ cs.length = fs.size ∧ ∀ (i : Nat) (f : Field), fs[i]? = some f → (∀ k, P.underlying f.type = some (.int k) → ∃ n, cs[i]? = some (.int k n)) ∧ (P.underlying f.type = some .bool → ∃ b, cs[i]? = some (.bool b)) := by
  obtain ⟨cs, rfl, hsz⟩ := okWide_struct hs hv
  obtain ⟨fuel, hf⟩ := h
  obtain ⟨xs, n, _, _, hl, hlen, hg⟩ := DataW.trod_struct hs hf
  refine ⟨cs.toList, by simp, by simpa [hC] using hsz, fun i f hi => ?_⟩
  obtain ⟨o0, k0⟩ := hone_of hone i f hi
  have h1 := hg i f hi
  rw [o0, k0] at h1
  have hilt : i < cs.size := by
    rw [hsz, hC]
    rcases Nat.lt_or_ge i fs.size with h | h
    · exact h
    · rw [Array.getElem?_eq_none h] at hi; cases hi
  have hcell : ((Value.agg cs).cells.toList.drop i).take 1 = [cs[i]] := by
    simp only [Value.cells]
    rw [List.drop_eq_getElem_cons (by simpa using hilt)]
    simp
  rw [hcell] at h1
  have hx : ∃ y, xs[i]? = some y := by
    have : i < xs.length := by rw [hlen]; rw [hsz, hC] at hilt; exact hilt
    exact ⟨_, List.getElem?_eq_getElem this⟩
  obtain ⟨y, hy⟩ := hx
  rw [hy] at h1
  have hci : cs.toList[i]? = some cs[i] := by simp [hilt]
  refine ⟨fun k hk => ?_, fun hk => ?_⟩
  · obtain ⟨n, e, _⟩ := DataW.trod_int hk h1
    simp only [List.cons.injEq, and_true] at e
    exact ⟨n, by rw [hci, e]⟩
  · obtain ⟨b, e, _⟩ := DataW.trod_bool hk h1
    simp only [List.cons.injEq, and_true] at e
    exact ⟨b, by rw [hci, e]⟩
end
end SX
end Go.Proofs.Ythggmiiipochiaa

/- MachPlays: the row. -/
set_option linter.unusedVariables false
set_option maxRecDepth 100000
namespace Go.Proofs.Ythggmiiipochiaa
open Go Go.ChangeShapes Go.WideShapes Go.ChangeAt Go.RowKit
theorem own : ownKnob Try.prog.godebug = none := by kernel_rfl
theorem laidOut : laidOutB Try.prog = true := by kernel_rfl
theorem compsOk : ∀ t, t < Try.prog.types.size → SX.CompsOk Try.prog (· < Try.prog.types.size) t := SX.compsOk_of (by kernel_rfl)
theorem params_in : ∀ t ∈ Try.f3.params.toList, t < Try.prog.types.size := by
  have : (Try.f3.params.toList.all fun t => Nat.blt t Try.prog.types.size) = true := by kernel_rfl
  exact fun t ht => Nat.le_of_ble_eq_true (List.all_eq_true.1 this t ht)
theorem picks_open {H : Type} {enc : TypeId × Value → H} {W : World} {b0 : Nat} {v : Value} {d : DataW H} {p : List MemPlace} (hv : Value.okWide Try.prog W .any b0 22 v) (h : DataW.Trod enc Try.prog W 0 (fun _ => true) true 22 v d p) :
    ∃ (xs : List Int) (a : Option Addr) (cap : Nat) (S : Nat → Bool), v = SX.den (fun _ _ => none) (.imm Int 0 1 SX.ienc xs a cap) ∧ SX.Ok (SX.memOf W S) [] (.imm Int 0 1 SX.ienc xs a cap) := by
  obtain ⟨n, hn⟩ := h
  obtain ⟨a0, l0, c0, rfl⟩ := okWide_slice Try.underlying22 hv
  rcases open_ints Try.underlying22 Try.underlying3 (by kernel_rfl) hn with ⟨e1, _⟩ | ⟨a, len, cap, zs, e1, _, hl, hm, hzl, _, hc, _⟩
  · simp only [Value.cells, List.cons.injEq, Value.slice.injEq, and_true] at e1
    obtain ⟨rfl, rfl, rfl⟩ := e1
    refine ⟨[], none, 0, fun _ => false, rfl, ?_⟩
    simp only [SX.Ok]
    exact ⟨Nat.le_refl _, fun h => absurd rfl h, fun x => rfl, fun j hj => by simp at hj⟩
  · simp only [Value.cells, List.cons.injEq, Value.slice.injEq, and_true] at e1
    obtain ⟨rfl, rfl, rfl⟩ := e1
    rw [if_pos rfl] at hzl
    have hxl : (zs.take l0).length = l0 := by simp; omega
    refine ⟨zs.take l0, some a, c0, fun b => decide (b = a.block), ?_, ?_⟩
    · show _ = Value.slice (some a) (zs.take l0).length c0
      rw [hxl]
    · simp only [SX.Ok]
      refine ⟨by omega, fun hne => ?_, fun x => rfl, fun j hj => ⟨⟨rfl, by simp [SX.Ok]⟩, trivial⟩⟩
      have hlen0 : 0 < (zs.take l0).length := List.length_pos_iff.2 hne
      have h00 := hc 0 (by omega)
      have ha0 : a.add 0 = a := by simp [Addr.add]
      rw [ha0] at h00
      have hsp := World.cell?_spot h00
      have hat : ∀ j, W.cell? (a.add j) = (match W.heap[a.block]? with | some (.cells c _ _) => c[a.off + j]? | _ => none) := fun j => by
        cases j with
        | zero => rw [ha0]; unfold World.cell?; rw [hsp]; rfl
        | succ j =>
          have hadd : a.add (j + 1) = ⟨a.block, a.off + (j + 1), none⟩ := by unfold Addr.add; rw [if_neg (by omega)]
          rw [hadd]
          rfl
      unfold World.cell? at h00
      split at h00
      · rename_i arr ty fr hblk
        refine ⟨a, arr, ty, fr, rfl, hsp, by unfold SX.memOf; rw [if_pos (by simp)]; exact hblk, fun j hj u c hu => ?_⟩
        have hcj := hc j (by omega)
        rw [hat, hblk] at hcj
        simp only at hcj
        cases u with
        | zero =>
          have hu' : Value.int .i64 ((zs.take l0).getD j 0) = c := Option.some.inj hu
          rw [← hu', Nat.mul_one, Nat.add_zero, hcj]
          have : (zs.take l0).getD j 0 = zs.getD j 0 := by
            simp only [List.getD_eq_getElem?_getD, List.getElem?_take, if_pos (show j < l0 by omega)]
          rw [this]
        | succ u => simp [SX.ienc, SX.cellsL, SX.cells] at hu
      · cases h00
theorem lifted (os : Os) (started : os.Started) (H : Type) (enc : TypeId × Value → H) :
    ReturnsInHanded {} Try.checked os 3 .any (Rows.machPlaysSpec.pre6 enc Try.prog Try.f3 Rows.machPlaysRow.domain false) (Rows.machPlaysSpec.post enc Try.prog Try.f3 false true false false) := by
  refine returnsInHanded_of_change (C := Try.checked) own started (by kernel_rfl) Try.func3
    (ChangeSpec.witness6 (enc := enc) (C := Try.checked) false ⟨#[], #[.int .i64 0, .slice none 0 0], []⟩ 8 (by kernel_rfl) (by kernel_rfl) (by kernel_rfl) (by kernel_rfl)) ?_
  intro W base args ds gs before hval0 hW hcnd _
  have hval : ∀ (j : Nat) t v, Try.f3.params[j]? = some t → args[j]? = some v → Value.okWide Try.prog W .any base t v := hval0
  have hW' := hW
  obtain ⟨p, q, hA0, hV, rfl, hfz, hnd⟩ := hW
  have hA : DataW.TrodAll enc Try.prog W 0 (fun _ => true) true Try.f3.params.toList args.toList ds p := hA0
  rw [Try.params3] at hA hval
  obtain ⟨v0, v1, d0, d1, p0, p1, rfl, rfl, rfl, h0, h1⟩ := trodAll_two hA
  obtain ⟨rfl, rfl⟩ := trodVars_none hV
  obtain ⟨a, rfl, rfl, rfl, wa⟩ := open_int Try.underlying3 (hval 0 3 v0 rfl rfl) h0
  obtain ⟨xs, ad, cap, S, rfl, hok⟩ := picks_open (hval 1 22 v1 rfl rfl) h1
  clear hA0 hval0
  refine (SX.law_callsM (args := [.i .i64 a, .imm Int 0 1 SX.ienc xs ad cap]) Try.func3 rfl rfl (SX.law_ok a xs ad cap (SX.m15_bd a).1 (SX.m15_bd a).2) W S ?_ rfl).mono fun e W' ⟨he, hk, ho, hu⟩ => ?_
  · exact ⟨⟨rfl, trivial⟩, ⟨rfl, hok⟩, trivial⟩
  subst he
  exact ⟨_, rfl, SX.post_kept hk compsOk params_in (fun n hn => by cases hn) hW' ho hu rfl rfl rfl (fun _ _ _ => trodAll_mk1 (shut_bool Try.underlying4 _)) (ok_one (by kernel_rfl) rfl (okWide_bool_mk Try.underlying4 _))⟩
theorem machPlays_holds : Rows.MachPlaysSaid :=
  OpenClaim.holds_of_wide 3 Try.f3 rfl rfl rfl rfl rfl rfl rfl ⟨rfl, rfl, rfl, rfl, rfl⟩ rfl rfl rfl rfl rfl (by kernel_rfl) Try.func3 (by kernel_rfl)
    (of_decide_eq_true (by kernel_rfl)) (by unfold Func.isWrapper; first | (rw [if_pos (by decide +kernel)]; kernel_rfl) | (rw [if_neg (by decide +kernel)]; exact ⟨rfl, rfl⟩))
    (fun os started H enc _ => lifted os started H enc)
end Go.Proofs.Ythggmiiipochiaa
