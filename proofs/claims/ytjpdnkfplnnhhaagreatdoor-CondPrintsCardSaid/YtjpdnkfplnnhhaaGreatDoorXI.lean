/- The printed text of any row as a condition, or why it has none, is that of the reference, for every architecture and row of nodes. -/
import Derived.IntWalk
import Derived.ChangeSame
import Derived.ChangeReads
import Derived.ProofKit
import Derived.Deep.Fields
import Derived.Lib.LaidTab
import Derived.Sort.Grow
import Derived.Deep.Draws
import Derived.Test.YtjpdnkfplnnhhaaGreatDoorChecked
import Derived.Shelf.LaysM
import Derived.Lib.ItoaNum
import Derived.Shelf.Strconv.Itoa3
import Derived.Lib.ItoaLen
import Derived.OpenShut
import Derived.Test.YtjpdnkfplnnhhaaGreatDoorRows
import Derived.LaidMore
import Derived.Stop.Joined
import Derived.Test.YtjpdnkfplnnhhaaGreatDoorCards
import Derived.Test.YtjpdnkfplnnhhaaGreatDoorTie
import Derived.SevenTiedAt
import Derived.Test.YtjpdnkfplnnhhaaGreatDoorXH
set_option linter.unusedVariables false
set_option linter.unusedSimpArgs false
set_option linter.unusedSectionVars false
/- Conditions: what they are, what they say, in plain terms. -/
set_option linter.unusedVariables false
namespace Go.Proofs.YtjpdnkfplnnhhaaGreatDoor
namespace SX
open Go Go.Proofs
theorem wrap64 {x : Int} (h1 : -9223372036854775808 ≤ x) (h2 : x ≤ 9223372036854775807) : IntKind.i64.wrap x = x := IntWalk.i64_in x ⟨h1, h2⟩
theorem Joins.nil {new : List SV} : Joins [] new new := ⟨fun E => rfl, fun m V _ h => h⟩
/-- A node. -/
structure Cn where
  k : Int
  t : Int
  r : Int
  l : Int
  v : Int
  deriving DecidableEq
def cn0 : Cn := ⟨0, 0, 0, 0, 0⟩
def cenc (c : Cn) : List SV := [.i .i64 c.k, .i .i64 c.t, .i .i64 c.r, .i .i64 c.l, .i .i64 c.v]
def partsF (c : Cn) : Int :=
  if c.k = 1 then (if c.l = 0 ∧ 0 ≤ c.t ∧ c.t < 3 ∧ 0 ≤ c.r ∧ c.r < 8 then 0 else -1)
  else if c.k = 2 then (if c.t = 0 ∧ c.r = 0 ∧ 0 ≤ c.l ∧ c.l < 3 then 0 else -1)
  else if c.k = 3 then (if c.t = 0 ∧ c.r = 0 ∧ c.l = 0 ∧ c.v = 0 then 1 else -1)
  else if c.k = 4 ∨ c.k = 5 then (if c.t = 0 ∧ c.r = 0 ∧ c.l = 0 ∧ c.v = 0 then 2 else -1)
  else -1
theorem partsF_le (c : Cn) : -1 ≤ partsF c ∧ partsF c ≤ 2 := by
  unfold partsF
  repeat' split
  all_goals omega
/-- How many stand whole behind the first i nodes. -/
def nAt (cs : List Cn) : Nat → Int
  | 0 => 0
  | i + 1 => nAt cs i + (1 - partsF (cs.getD i cn0))
/-- The first i nodes are as they may be. -/
def okAt (cs : List Cn) (i : Nat) : Prop := ∀ j, j < i → 0 ≤ partsF (cs.getD j cn0) ∧ partsF (cs.getD j cn0) ≤ nAt cs j
def rightP (cs : List Cn) : Prop := (1 ≤ cs.length ∧ cs.length ≤ 32) ∧ okAt cs cs.length ∧ nAt cs cs.length = 1
open Classical in
noncomputable def rightB (cs : List Cn) : Bool := decide (rightP cs)
theorem okAt_succ {cs : List Cn} {i : Nat} (h : okAt cs i) (h1 : 0 ≤ partsF (cs.getD i cn0)) (h2 : partsF (cs.getD i cn0) ≤ nAt cs i) : okAt cs (i + 1) := by
  intro j hj
  rcases Nat.lt_succ_iff_lt_or_eq.1 hj with hj | rfl
  · exact h j hj
  · exact ⟨h1, h2⟩
theorem nAt_bd {cs : List Cn} : ∀ {i : Nat}, okAt cs i → 0 ≤ nAt cs i ∧ nAt cs i ≤ i ∧ (0 < i → 1 ≤ nAt cs i)
  | 0, _ => by simp [nAt]
  | i + 1, h => by
    have ih := nAt_bd (cs := cs) (i := i) fun j hj => h j (by omega)
    have h1 := h i (by omega)
    simp only [nAt]
    omega
/-- A final state: registers, 8 a thread, then memory. -/
structure Oc where
  l : List Int
  h : l.length = 27
def oc0 : Oc := ⟨List.replicate 27 0, by simp⟩
def Oc.at (o : Oc) (j : Nat) : Int := o.l.getD j 0
theorem Oc.ext' {a b : Oc} (h : a.l = b.l) : a = b := by cases a; cases b; cases h; rfl
def oenc (o : Oc) : List SV := [.i .i64 (o.at 0), .i .i64 (o.at 1), .i .i64 (o.at 2), .i .i64 (o.at 3), .i .i64 (o.at 4), .i .i64 (o.at 5), .i .i64 (o.at 6), .i .i64 (o.at 7),
  .i .i64 (o.at 8), .i .i64 (o.at 9), .i .i64 (o.at 10), .i .i64 (o.at 11), .i .i64 (o.at 12), .i .i64 (o.at 13), .i .i64 (o.at 14), .i .i64 (o.at 15),
  .i .i64 (o.at 16), .i .i64 (o.at 17), .i .i64 (o.at 18), .i .i64 (o.at 19), .i .i64 (o.at 20), .i .i64 (o.at 21), .i .i64 (o.at 22), .i .i64 (o.at 23),
  .i .i64 (o.at 24), .i .i64 (o.at 25), .i .i64 (o.at 26)]
theorem oc_cells (E : Env) (o : Oc) : cellsL E (oenc o) = o.l.map (.int .i64) := by
  obtain ⟨l, h⟩ := o
  match l, h with
  | [x0, x1, x2, x3, x4, x5, x6, x7, x8, x9, x10, x11, x12, x13, x14, x15, x16, x17, x18, x19, x20, x21, x22, x23, x24, x25, x26], _ => rfl
theorem oenc_w (o : Oc) : wdL (oenc o) = 27 := by unfold oenc; simp only [wdL, wd]
theorem oenc_ok (o : Oc) (m : Mem) : OkL m [] (oenc o) := by
  unfold oenc
  simp only [OkL, Ok, isUnit, and_self]
/-- What a node holds of, its parts at hand. -/
def nodeF (o : Oc) (c : Cn) (l : List Bool) : Bool :=
  if c.k = 1 then decide (o.at (c.t.toNat * 8 + c.r.toNat) = c.v)
  else if c.k = 2 then decide (o.at (24 + c.l.toNat) = c.v)
  else if c.k = 3 then !(l.getD 0 false)
  else if c.k = 4 then l.getD 0 false && l.getD 1 false
  else l.getD 0 false || l.getD 1 false
def stk (o : Oc) (cs : List Cn) : Nat → List Bool
  | 0 => []
  | i + 1 => (stk o cs i).take ((stk o cs i).length - (partsF (cs.getD i cn0)).toNat) ++ [nodeF o (cs.getD i cn0) ((stk o cs i).drop ((stk o cs i).length - (partsF (cs.getD i cn0)).toNat))]
noncomputable def evalF (o : Oc) (cs : List Cn) : Bool := if rightB cs then (stk o cs cs.length).getD 0 false else false
theorem stk_len {o : Oc} {cs : List Cn} : ∀ {i : Nat}, okAt cs i → ((stk o cs i).length : Int) = nAt cs i
  | 0, _ => rfl
  | i + 1, h => by
    have ih := stk_len (o := o) (i := i) fun j hj => h j (by omega)
    have h1 := h i (by omega)
    simp only [stk, nAt, List.length_append, List.length_take, List.length_singleton]
    omega
end SX
end Go.Proofs.YtjpdnkfplnnhhaaGreatDoor

/- Conditions: parts, one, Right. -/
set_option linter.unusedVariables false
set_option maxRecDepth 100000
namespace Go.Proofs.YtjpdnkfplnnhhaaGreatDoor
namespace SX
open Go Go.Proofs
theorem i64_congr {x y : Int} (h : x = y) : SV.i .i64 x = SV.i .i64 y := congrArg (SV.i .i64) h
theorem parts_ok (c : Cn) : CtrV Tryz.prog 28 [.agg (cenc c)] (.i .i64 (partsF c)) := by
  refine Ctr.enterV tabOk (fn := Tryz.f28) rfl rfl rfl rfl rfl rfl ?_
  refine ⟨fun h1 => ⟨fun h2 => ?_, fun h2 => ?_⟩, fun h1 => ⟨fun h2 => ⟨fun h3 => ?_, fun h3 => ?_⟩, fun h2 => ⟨fun h3 => ⟨fun h4 => ?_, fun h4 => ?_⟩, fun h3 => ⟨fun h4 => ⟨fun h5 => ⟨fun h6 => ?_, fun h6 => ?_⟩, fun h5 => Bool.noConfusion (h4.symm.trans h5)⟩, fun h4 => ⟨fun h5 => ⟨fun h6 => ?_, fun h6 => ?_⟩, fun h5 => ?_⟩⟩⟩⟩⟩
  · refine i64_congr (y := partsF c) ?_
    simp at h1 h2; unfold partsF; simp [h1, h2]
  · refine i64_congr (y := partsF c) ?_
    simp at h1 h2; unfold partsF; simp [h1]; intros; omega
  · refine i64_congr (y := partsF c) ?_
    simp at h1 h2 h3; unfold partsF; simp [h1, h2, h3]
  · refine i64_congr (y := partsF c) ?_
    simp at h1 h2 h3; unfold partsF; simp [h1, h2]; intros; omega
  · refine i64_congr (y := partsF c) ?_
    simp at h1 h2 h3 h4; unfold partsF; simp [h1, h2, h3, h4]
  · refine i64_congr (y := partsF c) ?_
    simp at h1 h2 h3 h4; unfold partsF; simp [h1, h2, h3]; intros; omega
  · refine i64_congr (y := partsF c) ?_
    simp at h1 h2 h3 h4 h6; unfold partsF; simp [h1, h2, h3, h4, h6]
  · refine i64_congr (y := partsF c) ?_
    simp at h1 h2 h3 h4 h6; unfold partsF; simp [h1, h2, h3, h4]; intros; omega
  · refine i64_congr (y := partsF c) ?_
    simp at h1 h2 h3 h4 h5 h6; unfold partsF; simp [h1, h2, h3, h4, h5, h6]
  · refine i64_congr (y := partsF c) ?_
    simp at h1 h2 h3 h4 h5 h6; unfold partsF; simp [h1, h2, h3, h4, h5]; intros; omega
  · refine i64_congr (y := partsF c) ?_
    simp at h1 h2 h3 h4 h5; unfold partsF; simp [h1, h2, h3, h4, h5]
theorem one_ok (c : Cn) : CtrV Tryz.prog 31 [.agg (cenc c)] (.i .i64 (partsF c)) := by
  refine Ctr.enterV tabOk (fn := Tryz.f31) rfl rfl rfl rfl rfl rfl ?_
  refine ⟨fun h1 => ⟨fun h2 => ⟨fun h9 => ?_, fun h9 => ?_⟩, fun h2 => ⟨fun h9 => ?_, fun h9 => ?_⟩⟩, fun h1 => ⟨fun h2 => ⟨fun h3 => ⟨fun h9 => ?_, fun h9 => ?_⟩, fun h3 => ⟨fun h9 => ?_, fun h9 => ?_⟩⟩, fun h2 => ⟨fun h3 => ⟨fun h9 => ?_, fun h9 => ?_⟩, fun h3 => ⟨fun h4 => ⟨fun h5 => ⟨fun h9 => ?_, fun h9 => ?_⟩, fun h5 => Bool.noConfusion (h4.symm.trans h5)⟩, fun h4 => ⟨fun h5 => ⟨fun h9 => ?_, fun h9 => ?_⟩, fun h5 => ⟨fun h9 => ?_, fun h9 => ?_⟩⟩⟩⟩⟩⟩
  all_goals refine i64_congr (y := partsF c) ?_
  · simp at h1 h2 h9; unfold partsF; simp [h1]; intros; omega
  · simp at h1 h2 h9; unfold partsF; simp [h1, h2, h9]
  · simp at h1 h2 h9; unfold partsF; simp [h1]; intros; omega
  · simp at h1 h2 h9; unfold partsF; simp [h1]; intros; omega
  · simp at h1 h2 h3 h9; unfold partsF; simp [h1, h2]; intros; omega
  · simp at h1 h2 h3 h9; unfold partsF; simp [h1, h2, h3, h9]
  · simp at h1 h2 h3 h9; unfold partsF; simp [h1, h2]; intros; omega
  · simp at h1 h2 h3 h9; unfold partsF; simp [h1, h2]; intros; omega
  · simp at h1 h2 h3 h9; unfold partsF; simp [h1, h2, h3]; intros; omega
  · simp at h1 h2 h3 h9; unfold partsF; simp [h1, h2, h3, h9]
  · simp at h1 h2 h3 h4 h9; unfold partsF; simp [h1, h2, h3, h4]; intros; omega
  · simp at h1 h2 h3 h4 h9; unfold partsF; simp [h1, h2, h3, h4, h9]
  · simp at h1 h2 h3 h4 h5 h9; unfold partsF; simp [h1, h2, h3, h4, h5]; intros; omega
  · simp at h1 h2 h3 h4 h5 h9; unfold partsF; simp [h1, h2, h3, h4, h5, h9]
  · simp at h1 h2 h3 h4 h5 h9; unfold partsF; simp [h1, h2, h3, h4, h5]
  · simp at h1 h2 h3 h4 h5 h9; unfold partsF; simp [h1, h2, h3, h4, h5]
end SX
end Go.Proofs.YtjpdnkfplnnhhaaGreatDoor

/- Conditions: Right. -/
set_option linter.unusedVariables false
set_option maxRecDepth 100000
namespace Go.Proofs.YtjpdnkfplnnhhaaGreatDoor
namespace SX
open Go Go.Proofs
theorem b_congr {x y : Bool} (h : x = y) : SV.b x = SV.b y := congrArg SV.b h
theorem right_false {cs : List Cn} (h : ¬ rightP cs) : rightB cs = false := by unfold rightB; simp [h]
theorem right_true {cs : List Cn} (h : rightP cs) : rightB cs = true := by unfold rightB; simp [h]
theorem right_len {cs : List Cn} (h1 : (decide ((cs.length : Int) < 1) || decide ((32 : Int) < cs.length)) = true) : rightB cs = false := by
  refine right_false fun h => ?_
  have h2 := h.1
  simp at h1
  omega
theorem right_bad {cs : List Cn} {i : Nat} (hi : i < cs.length) (h : partsF (cs.getD i cn0) < 0 ∨ nAt cs i < partsF (cs.getD i cn0)) : rightB cs = false := by
  refine right_false fun hr => ?_
  have := hr.2.1 i hi
  omega
theorem right_end {cs : List Cn} (h0 : 1 ≤ cs.length ∧ cs.length ≤ 32) (hk : okAt cs cs.length) : decide (nAt cs cs.length = 1) = rightB cs := by
  unfold rightB rightP
  rw [Bool.eq_iff_iff]
  simp only [decide_eq_true_eq]
  exact ⟨fun h => ⟨h0, hk, h⟩, fun h => h.2.2⟩
theorem right_ok (cs : List Cn) (a : Option Addr) (cap : Nat) : CtrV Tryz.prog 12 [.imm Cn cn0 5 cenc cs a cap] (.b (rightB cs)) := by
  refine Ctr.enterV tabOk (fn := Tryz.f12) rfl rfl rfl rfl rfl rfl ?_
  refine ⟨fun h1 => b_congr (right_len h1).symm, fun h1 => ?_⟩
  have hl : 1 ≤ cs.length ∧ cs.length ≤ 32 := by
    have h1 : (decide ((cs.length : Int) < 1) || decide ((32 : Int) < cs.length)) = false := h1
    simp at h1; omega
  refine WpC.loop tabOk (β := Nat) (fun i => i ≤ cs.length ∧ okAt cs i) (fun i => [(17, .i .i64 i), (3, .i .i64 (nAt cs i))]) (fun _ => []) (fun i => cs.length - i) 0 34359607404 ⟨Nat.zero_le _, fun j hj => by omega⟩ ?_ ?_
  · exact ⟨rfl, ⟨⟨rfl, rfl, rfl⟩, ⟨rfl, rfl, rfl⟩, trivial⟩, ⟨[], rfl⟩, trivial, rfl⟩
  · rintro i ⟨hi, ho⟩
    have hb := nAt_bd ho
    have hp := partsF_le (cs.getD i cn0)
    refine ⟨fun h2 => ?_, fun h2 => ?_⟩
    · have h2 : i < cs.length := by simpa using h2
      refine ⟨fun _ => ⟨by omega, by omega⟩, ?_⟩
      refine OpC.callV rfl rfl rfl rfl rfl rfl rfl (fun _ => parts_ok (cs.getD i cn0)) ?_
      refine ⟨fun h3 => ?_, fun h3 => ?_⟩
      · refine b_congr (right_bad h2 ?_).symm
        have h3 : (decide (partsF (cs.getD i cn0) < 0) || decide (nAt cs i < partsF (cs.getD i cn0))) = true := h3
        simpa only [Bool.or_eq_true, decide_eq_true_eq] using h3
      · have h3 : (decide (partsF (cs.getD i cn0) < 0) || decide (nAt cs i < partsF (cs.getD i cn0))) = false := h3
        simp only [Bool.or_eq_false_iff, decide_eq_false_iff_not] at h3
        refine ⟨i + 1, ⟨h2, okAt_succ ho (by omega) (by omega)⟩, by omega, rfl, ⟨⟨?_, rfl, rfl⟩, ⟨?_, rfl, rfl⟩, trivial⟩, ⟨_, rfl⟩, trivial, rfl⟩
        · show SV.i .i64 (IntKind.i64.wrap ((i : Int) + 1)) = SV.i .i64 ((i + 1 : Nat) : Int)
          rw [wrap64 (by omega) (by omega)]; rfl
        · show SV.i .i64 (IntKind.i64.wrap (nAt cs i + IntKind.i64.wrap (1 - partsF (cs.getD i cn0)))) = SV.i .i64 (nAt cs i + (1 - partsF (cs.getD i cn0)))
          rw [wrap64 (x := 1 - partsF (cs.getD i cn0)) (by omega) (by omega), wrap64 (by omega) (by omega)]
    · have h2 : i = cs.length := by simp at h2; omega
      subst h2
      exact b_congr (right_end hl ho)
theorem rright_ok (cs : List Cn) (a : Option Addr) (cap : Nat) : CtrV Tryz.prog 14 [.imm Cn cn0 5 cenc cs a cap] (.b (rightB cs)) := by
  refine Ctr.enterV tabOk (fn := Tryz.f14) rfl rfl rfl rfl rfl rfl ?_
  refine ⟨fun h1 => b_congr (right_len h1).symm, fun h1 => ?_⟩
  have hl : 1 ≤ cs.length ∧ cs.length ≤ 32 := by
    have h1 : (decide ((cs.length : Int) < 1) || decide ((32 : Int) < cs.length)) = false := h1
    simp at h1; omega
  refine WpC.loop tabOk (β := Nat) (fun i => i ≤ cs.length ∧ okAt cs i) (fun i => [(4, .i .i64 i), (3, .i .i64 (nAt cs i))]) (fun _ => []) (fun i => cs.length - i) 0 68719460412 ⟨Nat.zero_le _, fun j hj => by omega⟩ ?_ ?_
  · exact ⟨rfl, ⟨⟨rfl, rfl, rfl⟩, ⟨rfl, rfl, rfl⟩, trivial⟩, ⟨[], rfl⟩, trivial, rfl⟩
  · rintro i ⟨hi, ho⟩
    have hb := nAt_bd ho
    have hp := partsF_le (cs.getD i cn0)
    refine ⟨fun h2 => ?_, fun h2 => ?_⟩
    · have h2 : i < cs.length := by simpa using h2
      refine ⟨fun _ => ⟨by omega, by omega⟩, ?_⟩
      refine OpC.callV rfl rfl rfl rfl rfl rfl rfl (fun _ => one_ok (cs.getD i cn0)) ?_
      refine ⟨fun h3 => ?_, fun h3 => ?_⟩
      · refine b_congr (right_bad h2 ?_).symm
        have h3 : (decide (partsF (cs.getD i cn0) < 0) || decide (nAt cs i < partsF (cs.getD i cn0))) = true := h3
        simpa only [Bool.or_eq_true, decide_eq_true_eq] using h3
      · have h3 : (decide (partsF (cs.getD i cn0) < 0) || decide (nAt cs i < partsF (cs.getD i cn0))) = false := h3
        simp only [Bool.or_eq_false_iff, decide_eq_false_iff_not] at h3
        refine ⟨i + 1, ⟨h2, okAt_succ ho (by omega) (by omega)⟩, by omega, rfl, ⟨⟨?_, rfl, rfl⟩, ⟨?_, rfl, rfl⟩, trivial⟩, ⟨_, rfl⟩, trivial, rfl⟩
        · show SV.i .i64 (IntKind.i64.wrap ((i : Int) + 1)) = SV.i .i64 ((i + 1 : Nat) : Int)
          rw [wrap64 (by omega) (by omega)]; rfl
        · show SV.i .i64 (IntKind.i64.wrap (IntKind.i64.wrap (nAt cs i - partsF (cs.getD i cn0)) + 1)) = SV.i .i64 (nAt cs i + (1 - partsF (cs.getD i cn0)))
          rw [wrap64 (x := nAt cs i - partsF (cs.getD i cn0)) (by omega) (by omega), wrap64 (by omega) (by omega)]
          exact i64_congr (by omega)
    · have h2 : i = cs.length := by simp at h2; omega
      subst h2
      exact b_congr (right_end hl ho)
theorem decide_cn (x y : Cn) : (decide (x.k = y.k) && (decide (x.t = y.t) && (decide (x.r = y.r) && (decide (x.l = y.l) && decide (x.v = y.v))))) = decide (x = y) := by
  rw [Bool.eq_iff_iff]
  cases x; cases y
  simp
theorem conds_ok (xs ys : List Cn) (a : Option Addr) (cap : Nat) (a' : Option Addr) (cap' : Nat) (hlen : (xs.length : Int) < 9223372036854775807) : CtrV Tryz.prog 16 [.imm Cn cn0 5 cenc xs a cap, .imm Cn cn0 5 cenc ys a' cap'] (.b (decide (xs = ys))) := by
  refine Ctr.enterV tabOk (fn := Tryz.f16) rfl rfl rfl rfl rfl rfl ?_
  refine ⟨fun h1 => b_congr ?_, fun h1 => ?_⟩
  · have h1 : ¬ (xs.length : Int) = ys.length := by simpa using h1
    exact (decide_eq_false fun e => h1 (by rw [e])).symm
  have hl : xs.length = ys.length := by
    have h1 : (xs.length : Int) = ys.length := by simpa using h1
    omega
  refine WpC.loop tabOk (β := Nat) (fun i => i ≤ xs.length ∧ ∀ j, j < i → xs.getD j cn0 = ys.getD j cn0) (fun i => [(5, .i .i64 i)]) (fun _ => []) (fun i => xs.length - i) 0 67106864 ⟨Nat.zero_le _, fun j hj => by omega⟩ ?_ ?_
  · exact ⟨rfl, ⟨⟨rfl, rfl, rfl⟩, trivial⟩, ⟨[], rfl⟩, trivial, rfl⟩
  · rintro i ⟨hi, ho⟩
    refine ⟨fun h2 => ?_, fun h2 => ?_⟩
    · have h2 : i < xs.length := by simpa using h2
      refine WpC.dr tabOk mixed 0 ?_
      refine ⟨fun _ => ⟨by omega, by omega⟩, ?_⟩
      refine ⟨fun _ => ⟨by omega, by omega⟩, ?_⟩
      refine ⟨by kernel_rfl, ?_⟩
      refine ⟨fun h3 => ?_, fun h3 => ?_⟩
      · have h3 : (!(decide ((xs.getD i cn0).k = (ys.getD i cn0).k) && (decide ((xs.getD i cn0).t = (ys.getD i cn0).t) && (decide ((xs.getD i cn0).r = (ys.getD i cn0).r) && (decide ((xs.getD i cn0).l = (ys.getD i cn0).l) && decide ((xs.getD i cn0).v = (ys.getD i cn0).v)))))) = true := h3
        rw [decide_cn] at h3
        refine b_congr (decide_eq_false fun e => ?_).symm
        simp [e] at h3
      · have h3 : (!(decide ((xs.getD i cn0).k = (ys.getD i cn0).k) && (decide ((xs.getD i cn0).t = (ys.getD i cn0).t) && (decide ((xs.getD i cn0).r = (ys.getD i cn0).r) && (decide ((xs.getD i cn0).l = (ys.getD i cn0).l) && decide ((xs.getD i cn0).v = (ys.getD i cn0).v)))))) = false := h3
        rw [decide_cn] at h3
        have h4 : xs.getD i cn0 = ys.getD i cn0 := by simpa only [Bool.not_eq_false', decide_eq_true_eq] using h3
        refine ⟨i + 1, ⟨h2, fun j hj => ?_⟩, by omega, rfl, ⟨⟨?_, rfl, rfl⟩, trivial⟩, ⟨_, rfl⟩, trivial, rfl⟩
        · rcases Nat.lt_succ_iff_lt_or_eq.1 hj with hj | rfl
          · exact ho j hj
          · exact h4
        · show SV.i .i64 (IntKind.i64.wrap ((i : Int) + 1)) = SV.i .i64 ((i + 1 : Nat) : Int)
          rw [wrap64 (by omega) (by omega)]; rfl
    · have h2 : i = xs.length := by simp at h2; omega
      subst h2
      refine b_congr (decide_eq_true ?_).symm
      apply List.ext_getElem hl
      intro j h5 h6
      have := ho j h5
      simpa [List.getD_eq_getElem?_getD, List.getElem?_eq_getElem h5, List.getElem?_eq_getElem h6] using this
end SX
end Go.Proofs.YtjpdnkfplnnhhaaGreatDoor

/- Conditions: what a node says, the closure of Eval, fold. -/
set_option linter.unusedVariables false
set_option maxRecDepth 100000
namespace Go.Proofs.YtjpdnkfplnnhhaaGreatDoor
namespace SX
open Go Go.Proofs
section
variable {P : Program} {T : Tb}
/-- A function that hands back a value, and leaves what it is lent as it was. -/
theorem Ctr.enterG (hT : TabOk P T) {f : FuncId} {fn : Func} {c : Code} {n : Nat} (hf : P.funcs[f]? = some fn) (hb : fn.body = some c) (hn : fn.ntmps = n) (hnm : (fn.name == "runtime.NumGoroutine") = false) {args : List SV} {H : List SB} {r : SV}
    (hl : Nat.ble args.length n = true) (hr : Bnd H.length r) (hH : BndH H.length H) (h : sx P T c (retK T fn.results.toList (fun r' h => r' = r ∧ ∃ X, h = H ++ X)) ⟨args ++ List.replicate (n - args.length) .dead, H⟩) : Ctr P f args H (fun r' h => r' = r ∧ h = H) := by
  have h1 := Ctr.enter hT hf hb hn hnm hl h
  exact h1.trim callX_m fun r' H1 ⟨e, X, hX⟩ => ⟨H, X, hX, Nat.le_refl _, hH, by rw [e]; exact hr, e, rfl⟩
end
def benc (b : Bool) : List SV := [.b b]
theorem nodeF_reg {o : Oc} {c : Cn} {l : List Bool} (h : c.k = 1) : nodeF o c l = decide (o.at (c.t.toNat * 8 + c.r.toNat) = c.v) := by unfold nodeF; rw [if_pos h]
theorem nodeF_loc {o : Oc} {c : Cn} {l : List Bool} (h : c.k = 2) : nodeF o c l = decide (o.at (24 + c.l.toNat) = c.v) := by unfold nodeF; rw [if_neg (by omega), if_pos h]
theorem nodeF_not {o : Oc} {c : Cn} {l : List Bool} (h : c.k = 3) : nodeF o c l = !(l.getD 0 false) := by unfold nodeF; rw [if_neg (by omega), if_neg (by omega), if_pos h]
theorem nodeF_and {o : Oc} {c : Cn} {l : List Bool} (h : c.k = 4) : nodeF o c l = (l.getD 0 false && l.getD 1 false) := by unfold nodeF; rw [if_neg (by omega), if_neg (by omega), if_neg (by omega), if_pos h]
theorem nodeF_or {o : Oc} {c : Cn} {l : List Bool} (h : c.k ≠ 1 ∧ c.k ≠ 2 ∧ c.k ≠ 3 ∧ c.k ≠ 4) : nodeF o c l = (l.getD 0 false || l.getD 1 false) := by unfold nodeF; rw [if_neg h.1, if_neg h.2.1, if_neg h.2.2.1, if_neg h.2.2.2]
theorem parts_reg {c : Cn} (hp : 0 ≤ partsF c) (h : c.k = 1) : (c.t = 0 ∨ c.t = 1 ∨ c.t = 2) ∧ (c.r = 0 ∨ c.r = 1 ∨ c.r = 2 ∨ c.r = 3 ∨ c.r = 4 ∨ c.r = 5 ∨ c.r = 6 ∨ c.r = 7) := by
  unfold partsF at hp
  rw [if_pos h] at hp
  split at hp
  · omega
  · omega
theorem parts_loc {c : Cn} (hp : 0 ≤ partsF c) (h : c.k = 2) : c.l = 0 ∨ c.l = 1 ∨ c.l = 2 := by
  unfold partsF at hp
  rw [if_neg (by omega), if_pos h] at hp
  split at hp
  · omega
  · omega
theorem parts_not {c : Cn} (hp : 0 ≤ partsF c) (h : c.k = 3) : partsF c = 1 := by
  unfold partsF at hp ⊢
  rw [if_neg (by omega), if_neg (by omega), if_pos h] at *
  split at hp
  · rename_i h2; rw [if_pos h2]
  · omega
theorem parts_two {c : Cn} (hp : 0 ≤ partsF c) (h : c.k ≠ 1 ∧ c.k ≠ 2 ∧ c.k ≠ 3) : partsF c = 2 ∧ (c.k = 4 ∨ c.k = 5) := by
  unfold partsF at hp ⊢
  rw [if_neg h.1, if_neg h.2.1, if_neg h.2.2] at *
  split at hp
  · rename_i h1
    split at hp
    · rename_i h2; rw [if_pos h1, if_pos h2]; exact ⟨rfl, h1⟩
    · omega
  · omega
set_option maxHeartbeats 4000000 in
/-- The closure of Eval, at a node that may stand there, its parts at hand. -/
theorem evalC_ok (o : Oc) (c : Cn) (l : List Bool) (a : Option Addr) (cap : Nat) (hp : 0 ≤ partsF c) (hl : (l.length : Int) = partsF c) :
    Ctr Tryz.prog 30 [.agg (cenc c), .imm Bool false 1 benc l a cap, .ptr 0 1 0 []] [.mem 26 (oenc o) 1 0] (fun r h => r = .b (nodeF o c l) ∧ h = [.mem 26 (oenc o) 1 0]) := by
  refine Ctr.enterG tabOkF (fn := Tryz.f30) rfl rfl rfl rfl rfl rfl ⟨⟨rfl, rfl, rfl, rfl, rfl, rfl, rfl, rfl, rfl, rfl, rfl, rfl, rfl, rfl, rfl, rfl, rfl, rfl, rfl, rfl, rfl, rfl, rfl, rfl, rfl, rfl, rfl, trivial⟩, trivial⟩ ?_
  refine ⟨fun h1 => ?_, fun h1 => ⟨fun h2 => ?_, fun h2 => ⟨fun h3 => ?_, fun h3 => ⟨fun h4 => ?_, fun h4 => ?_⟩⟩⟩⟩
  · have h1 : c.k = 1 := of_decide_eq_true h1
    rw [nodeF_reg h1]
    obtain ⟨ht, hr⟩ := parts_reg hp h1
    obtain ⟨ck, ct, cr, cl, cv⟩ := c
    simp only at ht hr
    clear hp hl h1
    refine WpC.dr tabOkF mixed 0 ?_
    rcases ht with rfl | rfl | rfl <;> rcases hr with rfl | rfl | rfl | rfl | rfl | rfl | rfl | rfl
    all_goals exact ⟨fun _ => by simp, ⟨fun _ => by simp, ⟨by kernel_rfl, ⟨rfl, _, rfl⟩⟩⟩⟩
  · have h2 : c.k = 2 := of_decide_eq_true h2
    rw [nodeF_loc h2]
    have ht := parts_loc hp h2
    obtain ⟨ck, ct, cr, cl, cv⟩ := c
    simp only at ht
    clear hp hl h1 h2
    refine WpC.dr tabOkF mixed 0 ?_
    rcases ht with rfl | rfl | rfl
    all_goals exact ⟨fun _ => by simp, ⟨by kernel_rfl, ⟨rfl, _, rfl⟩⟩⟩
  · have h1 : ¬ c.k = 1 := of_decide_eq_false h1
    have h2 : ¬ c.k = 2 := of_decide_eq_false h2
    have h3 : c.k = 3 := of_decide_eq_true h3
    have := parts_not hp h3
    rw [nodeF_not h3]
    exact ⟨fun _ => ⟨by decide, by omega⟩, ⟨rfl, _, rfl⟩⟩
  · have h1 : ¬ c.k = 1 := of_decide_eq_false h1
    have h2 : ¬ c.k = 2 := of_decide_eq_false h2
    have h3 : ¬ c.k = 3 := of_decide_eq_false h3
    have h4 : c.k = 4 := of_decide_eq_true h4
    have := parts_two hp ⟨h1, h2, h3⟩
    rw [nodeF_and h4]
    exact ⟨fun _ => ⟨by decide, by omega⟩, ⟨fun _ => ⟨by decide, by omega⟩, ⟨rfl, _, rfl⟩⟩⟩
  · have h1 : ¬ c.k = 1 := of_decide_eq_false h1
    have h2 : ¬ c.k = 2 := of_decide_eq_false h2
    have h3 : ¬ c.k = 3 := of_decide_eq_false h3
    have h4 : ¬ c.k = 4 := of_decide_eq_false h4
    have := parts_two hp ⟨h1, h2, h3⟩
    rw [nodeF_or ⟨h1, h2, h3, h4⟩]
    exact ⟨fun _ => ⟨by decide, by omega⟩, ⟨fun _ => ⟨by decide, by omega⟩, ⟨rfl, _, rfl⟩⟩⟩
end SX
end Go.Proofs.YtjpdnkfplnnhhaaGreatDoor

/- SX: clear of a row's end; what is known of slices that stay. -/
set_option linter.unusedVariables false
set_option linter.unusedSimpArgs false
namespace Go.Proofs.YtjpdnkfplnnhhaaGreatDoor
namespace SX
open Go

/-- An immutable slice that is not empty is not nil. -/
theorem Cp.immSome {X : List Value → World → (Value → World → Prop) → Prop} {A B : List SV} {α : Type} {d : α} {n : Nat} {enc : α → List SV} {xs : List α} {a : Option Addr} {cap : Nat} {H : List SB} {K : SV → List SB → Prop}
    (h : (a = none → xs = []) → Cp X (A ++ .imm α d n enc xs a cap :: B) H K) : Cp X (A ++ .imm α d n enc xs a cap :: B) H K := by
  refine ⟨fun C E m w hr ha => (h ?_).out C E m w hr ha⟩
  have := (OkA_split ha).2
  simp only [OkA, Ok] at this
  rintro rfl
  by_cases hx : xs = []
  · exact hx
  · obtain ⟨ad, _, _, _, h1, _⟩ := this.1.2.2.1 hx
    cases h1
theorem zeroCells_toList (c : Array Value) : ∀ n : Nat, (Builtin.zeroCells c n).toList = (List.range n).flatMap fun _ => c.toList
  | 0 => by simp [Builtin.zeroCells]
  | n + 1 => by
    have ih := zeroCells_toList c n
    simp only [Builtin.zeroCells, Array.toList_map, Array.toList_range] at ih ⊢
    rw [show (n + 1) * c.size = c.size + n * c.size by rw [Nat.succ_mul, Nat.add_comm], List.range_add, List.map_append, List.map_map, List.range_succ_eq_map, List.flatMap_cons, List.flatMap_map, ← ih]
    congr 1
    · apply List.ext_getElem?
      intro j
      by_cases hj : j < c.size
      · rw [List.getElem?_map, List.getElem?_range hj]
        simp [Nat.mod_eq_of_lt hj, getElem!_pos, hj]
      · rw [List.getElem?_eq_none (by simpa using hj), List.getElem?_eq_none (by simpa using hj)]
    · apply List.map_congr_left
      intro i _
      simp [Nat.add_mod_left]
section
variable {P : Program} {T : Tb} {ops : Array Oper} {o : Oper}
theorem cells_append {α : Type} {d : α} {n : Nat} {enc : α → List SV} (E : Env) (xs ys : List α) : cellsL E [.arr (xs ++ ys).length α d n enc (xs ++ ys)] = cellsL E [.arr xs.length α d n enc xs] ++ cellsL E [.arr ys.length α d n enc ys] := by
  induction ys generalizing xs with
  | nil => simp [cellsL, cells]
  | cons y ys ih =>
    have h1 := ih (xs ++ [y])
    rw [List.append_assoc, List.singleton_append] at h1
    rw [h1]
    simp only [cellsL, cells, List.append_nil]
    rw [range_append_one xs y d fun x => cellsL E (enc x), List.append_assoc]
    congr 1
    rw [List.length_cons, List.range_succ_eq_map, List.flatMap_cons, List.flatMap_map]
    rfl
theorem splV_mid0 (A B Z S : List Value) (h : B.length = Z.length) : splV (A ++ B ++ S) A.length Z = A ++ Z ++ S := by
  unfold splV
  rw [List.append_assoc A B S, List.take_left, ← h, List.drop_append, List.drop_of_length_le (by omega), List.nil_append, Nat.add_sub_cancel_left, List.drop_left]
/-- 'clear' of a row's end. -/
theorem OpC.clearRow (hT : TabOk P T) {K : St → Prop} {t : List SV} {h : List SB} {x : Operand} {ty e : TypeId} (hop : o.op = .call { callee := .builtin .clear, args := #[x], argTypes := #[ty] }) (hd : o.dst = none) (hg : guardOf ops t o = some []) {ti te : TI} (ht : T ty = some ti) (hk : ti.k = .slice e) (hte : T e = some te)
    {k ver off len dc N n g : Nat} {α : Type} {d z : α} {enc : α → List SV} {xs : List α} (hx : evG [] t x = .sl k ver off len none dc) (hh : h[k]? = some (.mem e [.arr N α d n enc xs] ver (g + 1))) (hn : n = g + 1) (hsz : te.size = n) (hoff : off = dc * n) (hlen : dc + len = N) (hw : ∀ x, wdL (enc x) = n) (hok : ∀ x m, OkL m [] (enc x))
    (hz : cellsL E0 te.zero = cellsL E0 (enc z)) (hK : K ⟨t, h.set k (.mem e [.arr N α d n enc (xs.take dc ++ List.replicate len z)] ver (g + 1))⟩) : OpC P T ops o K ⟨t, h⟩ := by
  refine ⟨fun C E m a w hr => ?_⟩
  unfold opW
  rw [show Region.wanted o (yielded ops a.tmps) = true by simp [Region.wanted, guard_none hg], if_pos rfl]
  have hti := hT.ti ty ti ht
  obtain ⟨i, zz, hi, hsi, hbi, hzz, hzc⟩ := (hT.ti e te hte).inf
  obtain ⟨gx, ex⟩ := (hr.evs .nil).live (o := x) (by rw [hx]; rfl)
  rw [hx] at gx ex
  obtain ⟨o1, o2, o3⟩ := hr.rel.bl k _ hh
  have hxl : xs.length = N := by simp only [OkL, Ok] at o1; exact o1.1.2.1
  have hvs : ∀ B', B'.lim = (SB.mem e [.arr N α d n enc xs] ver (g + 1)).lim → vers (h.set k B') = vers h := fun B' hl => vers_set hh hl
  have hok2 : OkL m (vers h) [.arr N α d n enc (xs.take dc ++ List.replicate len z)] := by
    simp only [OkL, Ok, isUnit]
    exact ⟨⟨trivial, by simp; omega, hw, fun j hj => OkL.mono (fun _ _ h => h) _ _ _ (fun k v hv => (Vle_nil hv).elim) (hok _ m)⟩, trivial⟩
  have hlx : (cellsL E [.arr N α d n enc xs]).length = N * n := by rw [length_cellsL E _ _ o1]; simp [wdL, wd]
  have hly : (cellsL E [.arr N α d n enc (xs.take dc ++ List.replicate len z)]).length = N * n := by rw [length_cellsL E _ _ hok2]; simp [wdL, wd]
  have fin : ∀ w', (execOp a.eval o).run P w = .ok (.value (.tuple #[])) w' → Rel E C m (h.set k (.mem e [.arr N α d n enc (xs.take dc ++ List.replicate len z)] ver (g + 1))) w' →
      o.wp P a w (fun a' w' => ∃ E' m' S', K S' ∧ Ext E m (vers h) E' m' (vers S'.h) ∧ Rep E' C m' S' a' w') (onlyN fun a' w' => ∃ E' m' S', K S' ∧ Ext E m (vers h) E' m' (vers S'.h) ∧ Rep E' C m' S' a' w') := fun w' h1 h2 => by
    have hx2 : Ext E m (vers h) E m (vers (h.set k (.mem e [.arr N α d n enc (xs.take dc ++ List.replicate len z)] ver (g + 1)))) := by rw [hvs (.mem e [.arr N α d n enc (xs.take dc ++ List.replicate len z)] ver (g + 1)) rfl]; exact .refl ..
    simp only [Oper.wp, h1, Oper.upon]
    have := (hr.up hx2 h2).put o.dst (x := .dead) (v := .tuple #[]) fun d' hd' => by rw [hd] at hd'; cases hd'
    rw [hd] at this ⊢
    exact ⟨E, m, _, hK, hx2, this⟩
  by_cases hl0 : len = 0
  · subst hl0
    have hv : ∃ ad cp, a.eval x = .slice ad 0 cp := by
      rw [ex]
      simp only [den, wrapV, cells, List.headD_cons]
      cases E k ver with
      | none => exact ⟨_, _, rfl⟩
      | some q => exact ⟨_, _, rfl⟩
    obtain ⟨ad, cp, hv⟩ := hv
    have hr0 : (Builtin.clear_ #[ty] o.type #[.slice ad 0 cp]).run P w = .ok (.tuple #[]) w := by
      cases ad <;> simp [Builtin.clear_, run_underlying' (hti.slice hk)]
    refine fin w (by simp only [execOp, hop, resolve, Go.invoke, builtin, Sem.run_bind, Sem.run_pure, Result.andThen_ok, List.map_toArray, List.map_cons, List.map_nil, hv, hr0]) ?_
    have e9 : xs.take dc ++ List.replicate 0 z = xs := by rw [List.replicate_zero, List.append_nil, List.take_of_length_le (by omega)]
    rw [e9]
    have : h.set k (.mem e [.arr N α d n enc xs] ver (g + 1)) = h := by
      apply List.ext_getElem?
      intro j
      by_cases hj : j = k
      · subst hj; rw [hh]; simp [List.getElem?_set, (List.getElem?_eq_some_iff.1 hh).1]
      · rw [List.getElem?_set_ne (Ne.symm hj)]
    rw [this]; exact hr.rel
  · have hv0 : ver ≠ 0 := fun e => by
      have := gx.1
      simp only [Ok] at this
      exact hl0 (this.2 e)
    obtain ⟨b, c, sp, e1, e2, e3, e4⟩ := o3 hv0
    have hv : a.eval x = .slice (some ⟨b, off, none⟩) len (c - dc) := by
      rw [ex]
      simp [den, wrapV, cells, e1, hl0]
    have hzl : (Builtin.zeroCells zz.cells len).toList = cellsL E [.arr len α d n enc (List.replicate len z)] := by
      have hst : ∀ x, cellsL E (enc x) = cellsL E0 (enc x) := fun x => cellsL_stable (m := fun _ => none) (V := []) (fun k v hv => (Vle_nil hv).elim) _ (hok x _)
      simp only [cellsL, cells, List.append_nil]
      have h1 : (List.range len).flatMap (fun j => cellsL E (enc ((List.replicate len z).getD j d))) = (List.range len).flatMap (fun _ => zz.cells.toList) := by
        rw [List.flatMap_def, List.flatMap_def]
        congr 1
        apply List.map_congr_left
        intro j hj
        have hj' : j < len := by simpa using hj
        rw [hzc, hz, ← hst z]
        simp [List.getD_eq_getElem?_getD, List.getElem?_replicate, hj']
      rw [h1]
      exact zeroCells_toList zz.cells len
    have hzlen : (Builtin.zeroCells zz.cells len).toList.length = len * n := by
      rw [hzl, length_cellsL E (m := m) (V := []) _ (by simp only [OkL, Ok, isUnit]; exact ⟨⟨trivial, by simp, hw, fun j hj => hok _ m⟩, trivial⟩)]
      simp [wdL, wd]
    have hone : ∀ v ∈ (Builtin.zeroCells zz.cells len).toList, v.oneCell' = true := by
      rw [hzl]
      exact oneCell_cellsL E (m := m) (V := []) _ (by simp only [OkL, Ok, isUnit]; exact ⟨⟨trivial, by simp, hw, fun j hj => hok _ m⟩, trivial⟩)
    have hNn : N * n = dc * n + len * n := by rw [← hlen, Nat.add_mul]
    have hst := run_storeCells (P := P) (Builtin.zeroCells zz.cells len).toList w b off 0 (cellsL E [.arr N α d n enc xs] ++ sp) e e2 hone (by rw [hzlen, List.length_append, hlx, hoff]; omega)
    have hz2 : ∀ w, (zeroValue e).run P w = .ok zz w := fun w => by simp [zeroValue, typeInfo, hi, hzz]
    have hr0 : (Builtin.clear_ #[ty] o.type #[.slice (some ⟨b, off, none⟩) len (c - dc)]).run P w = .ok (.tuple #[]) (setBlk w b (.cells (splV (cellsL E [.arr N α d n enc xs] ++ sp) (off + 0) (Builtin.zeroCells zz.cells len).toList).toArray e (0, 0))) := by
      obtain ⟨l', rfl⟩ : ∃ l', len = l' + 1 := ⟨len - 1, by omega⟩
      simp only [Builtin.clear_, Sem.run_bind, run_underlying' (hti.slice hk), Result.andThen_ok, List.getElem?_toArray, List.getElem?_cons_zero, hz2, hst, Sem.run_pure]
    refine fin (setBlk w b (.cells (splV (cellsL E [.arr N α d n enc xs] ++ sp) (off + 0) (Builtin.zeroCells zz.cells len).toList).toArray e (0, 0))) (by simp only [execOp, hop, resolve, Go.invoke, builtin, Sem.run_bind, Sem.run_pure, Result.andThen_ok, List.map_toArray, List.map_cons, List.map_nil, hv, hr0]) ?_
    have hlt := size_of_heap e2
    refine hr.rel.set (B' := .mem e [.arr N α d n enc (xs.take dc ++ List.replicate len z)] ver (g + 1)) hh rfl ⟨hv0, c, e1⟩ (fun c2 hc => by obtain ⟨_, c3, he2⟩ := hc; rw [e1] at he2; cases he2; rfl) ⟨rfl, rfl, rfl, Nat.le_refl _⟩ (fun i hi => setBlk_ne hi _) ⟨hok2, fun e => absurd e hv0, fun _ => ⟨b, c, sp, e1, ?_, by rw [hly, ← hlx]; exact e3, e4⟩⟩
    rw [setBlk_same hlt]
    congr 2
    apply Array.ext'
    simp only
    have hsp1 : cellsL E [.arr N α d n enc xs] = cellsL E [.arr (xs.take dc).length α d n enc (xs.take dc)] ++ cellsL E [.arr (xs.drop dc).length α d n enc (xs.drop dc)] := by
      rw [← cells_append, List.take_append_drop, hxl]
    have hsp2 : cellsL E [.arr N α d n enc (xs.take dc ++ List.replicate len z)] = cellsL E [.arr (xs.take dc).length α d n enc (xs.take dc)] ++ cellsL E [.arr (List.replicate len z).length α d n enc (List.replicate len z)] := by
      rw [← cells_append]
      congr 3
      simp; omega
    have hlt1 : (cellsL E [.arr (xs.take dc).length α d n enc (xs.take dc)]).length = dc * n := by
      rw [length_cellsL E (m := m) (V := []) _ (by simp only [OkL, Ok, isUnit]; exact ⟨⟨trivial, trivial, hw, fun j hj => hok _ m⟩, trivial⟩)]
      simp only [wdL, wd, Nat.add_zero, List.length_take]
      rw [Nat.min_eq_left (by omega)]
    have hlt2 : (cellsL E [.arr (xs.drop dc).length α d n enc (xs.drop dc)]).length = len * n := by
      have := congrArg List.length hsp1
      rw [List.length_append, hlx, hlt1] at this
      omega
    rw [hsp2, hsp1, Nat.add_zero, hoff, ← hlt1, splV_mid0 _ _ _ _ (by rw [hlt2, hzlen]), hzl, List.length_replicate]
end
end SX
end Go.Proofs.YtjpdnkfplnnhhaaGreatDoor

/- SX: more of guarded operations in a drawn order; rows joined. -/
set_option linter.unusedVariables false
set_option linter.unusedSimpArgs false
namespace Go.Proofs.YtjpdnkfplnnhhaaGreatDoor
namespace SX
open Go
theorem Joins.trans {a b c b' c' : List SV} (h1 : Joins a b c) (h2 : Joins c b' c') : Joins a (b ++ b') c' :=
  ⟨fun E => by rw [h2.cells, h1.cells, cellsL_append, List.append_assoc], fun m V ha hb => h2.ok m V (h1.ok m V ha (OkL_append.1 hb).1) (OkL_append.1 hb).2⟩
theorem Joins.cat {α : Type} {d : α} {n N M : Nat} {enc : α → List SV} {xs ys : List α} (hN : xs.length = N) (hM : ys.length = M) (hw : ∀ x, wdL (enc x) = n) (hok : ∀ x m V, OkL m V (enc x)) : Joins [.arr N α d n enc xs] [.arr M α d n enc ys] [.arr (N + M) α d n enc (xs ++ ys)] := by
  subst hN hM
  refine ⟨fun E => ?_, fun m V h1 h2 => ?_⟩
  · rw [← List.length_append]; exact cells_append E xs ys
  · exact ⟨⟨rfl, by simp, hw, fun j hj => hok _ _ _⟩, trivial⟩
section
variable {P : Program} {T : Tb} {ops : Array Oper} {o : Oper}
/-- Its guards say yes, and so do those of a slot that it reads. -/
theorem OpD.openT (hT : TabOk P T) {n : Nat} {K : Eff → Nat → St → Prop} {t : List SV} {h : List SB} (j : Nat) {p q : List (Nat × Bool)} {y : SV} {e0 : Eff} (n0 : Nat) (hj : t[j]? = some (.grd q y)) (hq : gB t q = true) (hy : notB y = true) (hg : guardOf ops t o = some p) (hp : gB t p = true)
    (h0 : dop P T ops { o with guard := none } n (fun e n' _ => e = e0 ∧ n' = n0) ⟨t.set j y, h⟩) (hK : K { e0 with rs := (e0.rs ++ j :: q.map (·.1)) ++ p.map (·.1) } n0 (e0.put ⟨t, h⟩)) : OpD P ops o n K ⟨t, h⟩ := by
  obtain ⟨e, n', h1, h2, h3, h4, rfl, rfl⟩ := (dop_sound hT h0).out
  exact ⟨⟨{ e with rs := (e.rs ++ j :: q.map (·.1)) ++ p.map (·.1) }, n', h1, (h2.open j hj hq hy).bare hg hp, fun n hn => List.mem_append_left _ (List.mem_append_left _ (h3 n hn)), h4, hK⟩⟩
end
end SX
end Go.Proofs.YtjpdnkfplnnhhaaGreatDoor

/- A run of the program, as a memo. Made by memo.py. -/
set_option maxRecDepth 100000
namespace Go.Proofs.YtjpdnkfplnnhhaaGreatDoor
namespace SX
open Go Go.Proofs
def CdXLang : Memo := ⟨92,
  [],
  [],
  (.ptr 1 1 0
  []),
  [(.mem 9 [(.s [82, 65, 88]), (.s [82, 66, 88]), (.s [82, 67, 88]), (.s [82, 68, 88]), (.s [82, 83, 73]), (.s [82, 68, 73]), (.s [82, 56]), (.s [82, 57])] 1 0), (.mem 103 [(.sl 0 1
  0 8 (.some 8) 0), (.s [36]), (.fn 125 []), (.fn 126 [])] 1
  0)]⟩
theorem CdXLang_ok : MemoOk Tryz.prog CdXLang := memo_of (tr := treeF) (ft := ftree) (ms := []) (n := 40) tabOkF ftOk mixed (by intro m hm; cases hm) (by decide +kernel)
end SX
end Go.Proofs.YtjpdnkfplnnhhaaGreatDoor

/- A run of the program, as a memo. Made by memo.py. -/
set_option maxRecDepth 100000
namespace Go.Proofs.YtjpdnkfplnnhhaaGreatDoor
namespace SX
open Go Go.Proofs
def CdRLang : Memo := ⟨95,
  [],
  [],
  (.ptr 1 1 0
  []),
  [(.mem 9 [(.s [97, 48]), (.s [97, 49]), (.s [97, 50]), (.s [97, 51]), (.s [97, 52]), (.s [97, 53]), (.s [97, 54]), (.s [97, 55])] 1 0), (.mem 103 [(.sl 0 1 0 8 (.some 8) 0), (.s
  []), (.fn 128 []), (.fn 129 [])] 1
  0)]⟩
theorem CdRLang_ok : MemoOk Tryz.prog CdRLang := memo_of (tr := treeF) (ft := ftree) (ms := []) (n := 40) tabOkF ftOk mixed (by intro m hm; cases hm) (by decide +kernel)
end SX
end Go.Proofs.YtjpdnkfplnnhhaaGreatDoor

/- A run of the program, as a memo. Made by memo.py. -/
set_option maxRecDepth 100000
namespace Go.Proofs.YtjpdnkfplnnhhaaGreatDoor
namespace SX
open Go Go.Proofs
def CdALang : Memo := ⟨96,
  [],
  [],
  (.ptr 1 1 0
  []),
  [(.mem 9 [(.s [88, 48]), (.s [88, 49]), (.s [88, 50]), (.s [88, 51]), (.s [88, 52]), (.s [88, 53]), (.s [88, 54]), (.s [88, 55])] 1 0), (.mem 103 [(.sl 0 1 0 8 (.some 8) 0), (.s
  [35]), (.fn 130 []), (.fn 131 [])] 1
  0)]⟩
theorem CdALang_ok : MemoOk Tryz.prog CdALang := memo_of (tr := treeF) (ft := ftree) (ms := []) (n := 40) tabOkF ftOk mixed (by intro m hm; cases hm) (by decide +kernel)
end SX
end Go.Proofs.YtjpdnkfplnnhhaaGreatDoor

/- Names of registers: the program's, the reference's. -/
set_option linter.unusedVariables false
set_option maxRecDepth 100000
namespace Go.Proofs.YtjpdnkfplnnhhaaGreatDoor
namespace SX
open Go Go.Proofs
/-- The registers' names of an architecture. -/
def regsL (a : Int) : List (List UInt8) :=
  if a = 1 then [[82, 65, 88], [82, 66, 88], [82, 67, 88], [82, 68, 88], [82, 83, 73], [82, 68, 73], [82, 56], [82, 57]]
  else if a = 2 then [[97, 48], [97, 49], [97, 50], [97, 51], [97, 52], [97, 53], [97, 54], [97, 55]]
  else if a = 3 then [[88, 48], [88, 49], [88, 50], [88, 51], [88, 52], [88, 53], [88, 54], [88, 55]]
  else []
def nameF (a n : Int) : List UInt8 := if 0 ≤ n ∧ n < 8 then (regsL a).getD n.toNat [] else []
def rowS (s0 s1 s2 s3 s4 s5 s6 s7 : List UInt8) : SB := .mem 9 [.s s0, .s s1, .s s2, .s s3, .s s4, .s s5, .s s6, .s s7] 1 0
def langB (h : List UInt8) (rd pr : Nat) : SB := .mem 103 [.sl 0 1 0 8 (some 8) 0, .s h, .fn rd [], .fn pr []] 1 0
theorem bndLang {s0 s1 s2 s3 s4 s5 s6 s7 h : List UInt8} {rd pr : Nat} : BndH 2 [rowS s0 s1 s2 s3 s4 s5 s6 s7, langB h rd pr] := ⟨⟨rfl, rfl, rfl, rfl, rfl, rfl, rfl, rfl, trivial⟩, ⟨rfl, rfl, rfl, rfl, trivial⟩, trivial⟩
theorem s_congr {x y : List UInt8} (h : x = y) : SV.s x = SV.s y := congrArg SV.s h
theorem cases8 {n : Int} (h0 : 0 ≤ n) (h8 : n < 8) : n = 0 ∨ n = 1 ∨ n = 2 ∨ n = 3 ∨ n = 4 ∨ n = 5 ∨ n = 6 ∨ n = 7 := by omega
theorem lname_ok (s0 s1 s2 s3 s4 s5 s6 s7 h : List UInt8) (rd pr : Nat) (n : Int) : Ctr Tryz.prog 94 [.ptr 1 1 0 [], .i .i64 n] [rowS s0 s1 s2 s3 s4 s5 s6 s7, langB h rd pr]
    (fun r h' => r = .s (if 0 ≤ n ∧ n < 8 then [s0, s1, s2, s3, s4, s5, s6, s7].getD n.toNat [] else []) ∧ h' = [rowS s0 s1 s2 s3 s4 s5 s6 s7, langB h rd pr]) := by
  refine Ctr.enterG tabOkF (fn := Tryz.f94) rfl rfl rfl rfl rfl rfl bndLang ?_
  refine ⟨fun h1 => ⟨s_congr ?_, _, rfl⟩, fun h1 => ?_⟩
  · have h1 : (decide (n < 0) || decide ((8 : Int) ≤ n)) = true := h1
    simp only [Bool.or_eq_true, decide_eq_true_eq] at h1
    rw [if_neg (by omega)]
  · have h1 : (decide (n < 0) || decide ((8 : Int) ≤ n)) = false := h1
    simp only [Bool.or_eq_false_iff, decide_eq_false_iff_not] at h1
    rw [if_pos (by omega)]
    rcases cases8 (n := n) (by omega) (by omega) with rfl | rfl | rfl | rfl | rfl | rfl | rfl | rfl
    all_goals exact ⟨fun _ => by decide, ⟨rfl, _, rfl⟩⟩
theorem x86_lang : Ctr Tryz.prog 92 [] [] (fun r h => r = .ptr 1 1 0 [] ∧ h = [rowS [82, 65, 88] [82, 66, 88] [82, 67, 88] [82, 68, 88] [82, 83, 73] [82, 68, 73] [82, 56] [82, 57], langB [36] 125 126]) := CdXLang_ok
theorem x86Name_ok (n : Int) : CtrV Tryz.prog 65 [.i .i64 n] (.s (nameF 1 n)) := by
  refine Ctr.enterV tabOkF (fn := Tryz.f65) rfl rfl rfl rfl rfl rfl ?_
  refine OpC.callL rfl rfl rfl rfl [] 2 rfl rfl rfl x86_lang rfl rfl rfl rfl trivial rfl (fun r H' hk => ?_) ?_
  · obtain ⟨rfl, rfl⟩ := hk; exact ⟨Nat.zero_le _, Nat.le_refl _⟩
  rintro r H' ⟨rfl, rfl⟩
  refine OpC.callG rfl rfl rfl rfl rfl rfl (fun _ => lname_ok [82, 65, 88] [82, 66, 88] [82, 67, 88] [82, 68, 88] [82, 83, 73] [82, 68, 73] [82, 56] [82, 57] [36] 125 126 n) ?_
  exact rfl
theorem riscv_lang : Ctr Tryz.prog 95 [] [] (fun r h => r = .ptr 1 1 0 [] ∧ h = [rowS [97, 48] [97, 49] [97, 50] [97, 51] [97, 52] [97, 53] [97, 54] [97, 55], langB [] 128 129]) := CdRLang_ok
theorem riscvName_ok (n : Int) : CtrV Tryz.prog 67 [.i .i64 n] (.s (nameF 2 n)) := by
  refine Ctr.enterV tabOkF (fn := Tryz.f67) rfl rfl rfl rfl rfl rfl ?_
  refine OpC.callL rfl rfl rfl rfl [] 2 rfl rfl rfl riscv_lang rfl rfl rfl rfl trivial rfl (fun r H' hk => ?_) ?_
  · obtain ⟨rfl, rfl⟩ := hk; exact ⟨Nat.zero_le _, Nat.le_refl _⟩
  rintro r H' ⟨rfl, rfl⟩
  refine OpC.callG rfl rfl rfl rfl rfl rfl (fun _ => lname_ok [97, 48] [97, 49] [97, 50] [97, 51] [97, 52] [97, 53] [97, 54] [97, 55] [] 128 129 n) ?_
  exact rfl
theorem arm_lang : Ctr Tryz.prog 96 [] [] (fun r h => r = .ptr 1 1 0 [] ∧ h = [rowS [88, 48] [88, 49] [88, 50] [88, 51] [88, 52] [88, 53] [88, 54] [88, 55], langB [35] 130 131]) := CdALang_ok
theorem armName_ok (n : Int) : CtrV Tryz.prog 69 [.i .i64 n] (.s (nameF 3 n)) := by
  refine Ctr.enterV tabOkF (fn := Tryz.f69) rfl rfl rfl rfl rfl rfl ?_
  refine OpC.callL rfl rfl rfl rfl [] 2 rfl rfl rfl arm_lang rfl rfl rfl rfl trivial rfl (fun r H' hk => ?_) ?_
  · obtain ⟨rfl, rfl⟩ := hk; exact ⟨Nat.zero_le _, Nat.le_refl _⟩
  rintro r H' ⟨rfl, rfl⟩
  refine OpC.callG rfl rfl rfl rfl rfl rfl (fun _ => lname_ok [88, 48] [88, 49] [88, 50] [88, 51] [88, 52] [88, 53] [88, 54] [88, 55] [35] 130 131 n) ?_
  exact rfl
theorem regsL_none {a : Int} (h1 : ¬ a = 1) (h2 : ¬ a = 2) (h3 : ¬ a = 3) (n : Int) : nameF a n = [] := by
  unfold nameF regsL
  rw [if_neg h1, if_neg h2, if_neg h3]
  split <;> rfl
theorem rname_ok (a n : Int) : CtrV Tryz.prog 73 [.i .i64 a, .i .i64 n] (.s (nameF a n)) := by
  refine Ctr.enterV tabOkF (fn := Tryz.f73) rfl rfl rfl rfl rfl rfl ?_
  refine ⟨fun h1 => s_congr ?_, fun h1 => ?_⟩
  · have h1 : (decide (n < 0) || decide ((7 : Int) < n)) = true := h1
    simp only [Bool.or_eq_true, decide_eq_true_eq] at h1
    unfold nameF
    rw [if_neg (by omega)]
  · have h1 : (decide (n < 0) || decide ((7 : Int) < n)) = false := h1
    simp only [Bool.or_eq_false_iff, decide_eq_false_iff_not] at h1
    refine ⟨fun h2 => ?_, fun h2 => ⟨fun h3 => ?_, fun h3 => ⟨fun h4 => ?_, fun h4 => ?_⟩⟩⟩
    · obtain rfl : a = 1 := of_decide_eq_true h2
      rcases cases8 (n := n) (by omega) (by omega) with rfl | rfl | rfl | rfl | rfl | rfl | rfl | rfl
      all_goals exact ⟨fun _ => by decide, rfl⟩
    · obtain rfl : a = 2 := of_decide_eq_true h3
      rcases cases8 (n := n) (by omega) (by omega) with rfl | rfl | rfl | rfl | rfl | rfl | rfl | rfl
      all_goals exact ⟨fun _ => by decide, ⟨fun _ => by decide, rfl⟩⟩
    · obtain rfl : a = 3 := of_decide_eq_true h4
      rcases cases8 (n := n) (by omega) (by omega) with rfl | rfl | rfl | rfl | rfl | rfl | rfl | rfl
      all_goals exact ⟨fun _ => by decide, ⟨fun _ => by decide, rfl⟩⟩
    · exact s_congr (regsL_none (of_decide_eq_false h2) (of_decide_eq_false h3) (of_decide_eq_false h4) n).symm
/-- A location's name. -/
def locF (k : Int) : List UInt8 := [UInt8.ofNat (120 + k.toNat)]
theorem rloc_ok (k : Int) (h0 : 0 ≤ k) (h3 : k < 3) : CtrV Tryz.prog 74 [.i .i64 k] (.s (locF k)) := by
  refine Ctr.enterV tabOkF (fn := Tryz.f74) rfl rfl rfl rfl rfl rfl ?_
  rcases (by omega : k = 0 ∨ k = 1 ∨ k = 2) with rfl | rfl | rfl
  all_goals exact ⟨fun _ => by decide, rfl⟩
theorem nameF_len (a n : Int) : (nameF a n).length ≤ 3 := by
  unfold nameF
  split
  · rename_i h
    unfold regsL
    split
    · rcases cases8 h.1 h.2 with rfl | rfl | rfl | rfl | rfl | rfl | rfl | rfl <;> decide
    · split
      · rcases cases8 h.1 h.2 with rfl | rfl | rfl | rfl | rfl | rfl | rfl | rfl <;> decide
      · split
        · rcases cases8 h.1 h.2 with rfl | rfl | rfl | rfl | rfl | rfl | rfl | rfl <;> decide
        · simp
  · simp
end SX
end Go.Proofs.YtjpdnkfplnnhhaaGreatDoor

/- SX: rows: what was read is read again when no old block has changed. -/
set_option linter.unusedVariables false
set_option linter.unusedSimpArgs false
namespace Go.Proofs.YtjpdnkfplnnhhaaGreatDoor
namespace SX
open Go Go.ChangeShapes Go.WideShapes
theorem mapM_to {α β : Type} {f g : α → Option β} : ∀ {l : List α} {r : List β}, l.mapM f = some r → (∀ x ∈ l, ∀ y, f x = some y → g x = some y) → l.mapM g = some r
  | [], r, h, hr => by simpa using h
  | a :: as1, r, h, hr => by
    rw [List.mapM_cons] at h ⊢
    cases ha : f a with
    | none => simp [ha] at h
    | some b =>
      cases has : as1.mapM f with
      | none => simp [ha, has] at h
      | some bs =>
        simp [ha, has] at h
        subst h
        rw [hr a (by simp) b ha, mapM_to has fun x hx y hy => hr x (by simp [hx]) y hy]
        rfl
theorem mapM_at {α β : Type} {f : α → Option β} : ∀ {l : List α} {r : List β}, l.mapM f = some r → ∀ {x}, x ∈ l → ∃ y, f x = some y
  | [], r, h, x, hx => by simp at hx
  | a :: as1, r, h, x, hx => by
    rw [List.mapM_cons] at h
    cases ha : f a with
    | none => simp [ha] at h
    | some b =>
      cases has : as1.mapM f with
      | none => simp [ha, has] at h
      | some bs =>
        rcases List.mem_cons.1 hx with rfl | hx
        · exact ⟨b, ha⟩
        · exact mapM_at has hx
/-- No block of the first world has changed in the second one. -/
def Kept (w w' : World) : Prop := ∀ b, b < w.heap.size → w'.heap[b]? = w.heap[b]?
section
variable {H : Type} {enc : TypeId × Value → H} {P : Program} {w w' : World} {base : Nat} {sp sp' : Nat → Bool} {held : Bool}
theorem Kept.cell (hk : Kept w w') {a : Addr} {v : Value} (h : w.cell? a = some v) : w'.cell? a = some v := by
  have hb := World.block_lt_of_cell? w _ h
  have := hk a.block hb
  unfold World.cell? at h ⊢
  rw [this]
  exact h
theorem Kept.cells (hk : Kept w w') {a : Addr} {n : Nat} {cs : List Value} (h : w.cells? base a n = some cs) : w'.cells? base a n = some cs := by
  unfold World.cells? at h ⊢
  split at h
  · rename_i hb
    rw [if_pos hb]
    exact mapM_to h fun i _ y hy => hk.cell hy
  · cases h
/-- What a type is made of is among these types; the elements of slices have cells. -/
def CompsOk (P : Program) (S : TypeId → Prop) (t : TypeId) : Prop := match P.underlying t with
  | some (.pointer e) => S e
  | some (.slice e) => S e ∧ 0 < P.cellsOf e
  | some (.struct fs) => ∀ f ∈ fs.toList, S f.type
  | some (.array _ e) => S e
  | some (.map _ e) => S e
  | _ => True
def compsB (P : Program) (n : Nat) (t : TypeId) : Bool := match P.underlying t with
  | some (.pointer e) => Nat.blt e n
  | some (.slice e) => Nat.blt e n && Nat.blt 0 (P.cellsOf e)
  | some (.struct fs) => fs.toList.all fun f => Nat.blt f.type n
  | some (.array _ e) => Nat.blt e n
  | some (.map _ e) => Nat.blt e n
  | _ => true
theorem compsOk_of {P : Program} {n : Nat} (h : ((List.range n).all (compsB P n)) = true) : ∀ t, t < n → CompsOk P (· < n) t := by
  intro t ht
  have := List.all_eq_true.1 h t (List.mem_range.2 ht)
  unfold compsB at this
  unfold CompsOk
  split <;> rename_i hu <;> first | trivial | (rw [hu] at this; simp only at this)
  · exact Nat.le_of_ble_eq_true this
  · rw [Bool.and_eq_true] at this
    exact ⟨Nat.le_of_ble_eq_true this.1, Nat.le_of_ble_eq_true this.2⟩
  · intro f hf
    exact Nat.le_of_ble_eq_true (List.all_eq_true.1 this f hf)
  · exact Nat.le_of_ble_eq_true this
  · exact Nat.le_of_ble_eq_true this
theorem trodStep_grow {S : TypeId → Prop} {r r' : TypeId → List Value → Option (DataW H × List MemPlace)} (hk : Kept w w') (hsp : ∀ b, b < w.heap.size → sp' b = true) (hz : ∀ t, S t → CompsOk P S t)
    (hr : ∀ t, S t → ∀ cs x, r t cs = some x → r' t cs = some x) {t : TypeId} (hS : S t) {cs : List Value} {x : DataW H × List MemPlace}
    (h : DataW.trodStep enc P w base (fun _ => true) true r t cs = some x) : DataW.trodStep enc P w' base sp' true r' t cs = some x := by
  have hcp := hz t hS
  unfold CompsOk at hcp
  unfold DataW.trodStep at h ⊢
  split at h
  case h_1 => exact h
  case h_2 => exact h
  case h_3 => exact h
  case h_4 => exact h
  case h_5 => exact h
  case h_6 e a ht =>
    rw [ht] at hcp
    simp only [Option.map_eq_some_iff, Option.bind_eq_some_iff] at h ⊢
    obtain ⟨y, ⟨cs', hc, hy⟩, rfl⟩ := h
    exact ⟨y, ⟨cs', hk.cells hc, hr _ hcp _ _ hy⟩, rfl⟩
  case h_7 => exact h
  case h_8 e a len cap ht =>
    rw [ht] at hcp
    simp only at h ⊢
    split at h
    · rename_i hc
      rw [if_pos hc]
      simp only [Option.map_eq_some_iff, Option.bind_eq_some_iff] at h ⊢
      obtain ⟨elems, he, rest, hrest, rfl⟩ := h
      have one : ∀ i y, (w.cells? base (a.add (i * P.cellsOf e)) (P.cellsOf e)).bind (r e) = some y → (w'.cells? base (a.add (i * P.cellsOf e)) (P.cellsOf e)).bind (r' e) = some y := fun i y hy => by
        simp only [Option.bind_eq_some_iff] at hy ⊢
        obtain ⟨cs', hc', hy'⟩ := hy
        exact ⟨cs', hk.cells hc', hr _ hcp.1 _ _ hy'⟩
      refine ⟨elems, mapM_to he fun i _ y hy => one i y hy, rest, ?_, rfl⟩
      by_cases hcap : cap - len = 0
      · rw [hcap] at hrest ⊢
        simp only [List.range_zero, List.mapM_nil] at hrest ⊢
        revert hrest
        cases sp' a.block <;> simp
      · rw [if_pos trivial] at hrest
        obtain ⟨y, hy⟩ := mapM_at hrest (List.mem_range.2 (Nat.pos_of_ne_zero hcap))
        simp only [Option.bind_eq_some_iff] at hy
        obtain ⟨cs', hc', _⟩ := hy
        have hb : (a.add ((len + 0) * P.cellsOf e)).block < w.heap.size := World.cells?_block hc' hcp.2
        have hb : a.block < w.heap.size := by
          have e1 : (a.add ((len + 0) * P.cellsOf e)).block = a.block := by unfold Addr.add; split <;> rfl
          rw [← e1]; exact hb
        rw [if_pos (hsp _ hb)]
        exact mapM_to hrest fun i _ y hy => one _ y hy
    · cases h
  case h_9 fs ht =>
    rw [ht] at hcp
    split at h
    · rename_i hc
      rw [if_pos hc]
      simp only [Option.map_eq_some_iff] at h ⊢
      obtain ⟨xs, hx, rfl⟩ := h
      exact ⟨xs, mapM_to hx fun f hf y hy => hr _ (hcp f hf) _ _ hy, rfl⟩
    · cases h
  case h_10 n e ht =>
    rw [ht] at hcp
    split at h
    · rename_i hc
      rw [if_pos hc]
      simp only [Option.map_eq_some_iff] at h ⊢
      obtain ⟨xs, hx, rfl⟩ := h
      exact ⟨xs, mapM_to hx fun f _ y hy => hr _ hcp _ _ hy, rfl⟩
    · cases h
  case h_11 => exact h
  case h_12 => exact h
  case h_13 => exact h
  case h_14 k e b ht =>
    rw [ht] at hcp
    split at h
    · rename_i es clock hb
      have hlt : b < w.heap.size := by
        rcases Nat.lt_or_ge b w.heap.size with h1 | h1
        · exact h1
        · rw [Array.getElem?_eq_none h1] at hb; cases hb
      have hb' : w'.heap[b]? = some (.map es clock) := by rw [hk b hlt]; exact hb
      rw [hb']
      simp only
      split at h
      · rename_i hc
        rw [if_pos hc]
        simp only [Option.bind_eq_some_iff] at h ⊢
        obtain ⟨entries, he, hd⟩ := h
        refine ⟨entries, mapM_to he fun x _ y hy => ?_, hd⟩
        simp only [Option.bind_eq_some_iff] at hy ⊢
        obtain ⟨key, hk, hz⟩ := hy
        refine ⟨key, hk, ?_⟩
        split at hz
        · rename_i hf
          rw [if_pos hf]
          simp only [Option.map_eq_some_iff] at hz ⊢
          obtain ⟨q, hq, rfl⟩ := hz
          exact ⟨q, hr _ hcp _ _ hq, rfl⟩
        · cases hz
      · cases h
    · cases h
  all_goals exact h
variable {S : TypeId → Prop} (hk : Kept w w') (hz : ∀ t, S t → CompsOk P S t)
include hk hz
theorem trod_grow (hsp : ∀ b, b < w.heap.size → sp' b = true) : ∀ (n : Nat) (t : TypeId), S t → ∀ (cs : List Value) (x : DataW H × List MemPlace), DataW.trod enc P w base (fun _ => true) true n t cs = some x → DataW.trod enc P w' base sp' true n t cs = some x := by
  intro n
  induction n with
  | zero => intro t _ cs x h; simp [DataW.trod] at h
  | succ n ih =>
    intro t hS cs x h
    rw [DataW.trod_step] at h ⊢
    exact trodStep_grow hk hsp hz ih hS h
theorem trodAll_grow (hsp : ∀ b, b < w.heap.size → sp' b = true) : ∀ {ts : List TypeId} {vs : List Value} {ds : List (DataW H)} {ps : List MemPlace}, (∀ t ∈ ts, S t) →
    DataW.TrodAll enc P w base (fun _ => true) true ts vs ds ps → DataW.TrodAll enc P w' base sp' true ts vs ds ps
  | [], [], [], _, _, h => h
  | _ :: _, _ :: _, _ :: _, _, hS, ⟨p, q, ⟨n, h⟩, hs, e⟩ => ⟨p, q, ⟨n, trod_grow hk hz hsp n _ (hS _ (List.mem_cons_self ..)) _ _ h⟩, trodAll_grow hsp (fun t ht => hS t (List.mem_cons_of_mem _ ht)) hs, e⟩
theorem trodVars_grow (hsp : ∀ b, b < w.heap.size → sp' b = true) (hv : ∀ n cs, w.var? P n = some cs → w'.var? P n = some cs) : ∀ {ns : List String} {ds : List (DataW H)} {ps : List MemPlace}, (∀ n ∈ ns, ∀ g t, P.globalNamed n = some g → (P.globals[g]?).map (·.type) = some t → S t) →
    DataW.TrodVars enc P w (fun _ => true) ns ds ps → DataW.TrodVars enc P w' sp' ns ds ps
  | [], [], _, _, h => h
  | n :: _, _ :: _, _, hS, ⟨g, t, cs, fuel, p, q, h1, h2, h3, h4, hs, e⟩ =>
    ⟨g, t, cs, fuel, p, q, h1, h2, hv _ _ h3, trod_grow hk hz hsp _ _ (hS n (List.mem_cons_self ..) g t h1 h2) _ _ h4, trodVars_grow hsp hv (fun n hn => hS n (List.mem_cons_of_mem _ hn)) hs, e⟩
omit hz in
theorem Kept.var {n : String} {cs : Array Value} (h : w.var? P n = some cs) : w'.var? P n = some cs := by
  unfold World.var? at h ⊢
  cases hg : P.globalNamed n with
  | none => rw [hg] at h; cases h
  | some g =>
    rw [hg] at h
    simp only [Option.bind_some] at h ⊢
    rcases Nat.lt_or_ge g w.heap.size with h1 | h1
    · rw [hk g h1]; exact h
    · rw [Array.getElem?_eq_none h1] at h; cases h
omit hz in
theorem Kept.noneFrozen {ps : List MemPlace} (hl : ∀ p ∈ ps, p.block < w.heap.size) (h : w.noneFrozen ps) : w'.noneFrozen ps := by
  intro b off hp
  have h1 := h b off hp
  have h2 := hl _ hp
  unfold World.frozen? at h1 ⊢
  rw [hk b h2]
  exact h1
/-- A law that keeps all old memory: what it hands back is what the row wants. -/
theorem post_kept {f : Func} {s : ChangeSpec} {apart fresh handsOn again : Bool} {args : Array Value} {v : Value} {ds gs : List (DataW H)} {before : List MemPlace} {res : List (DataW H)}
    (hS : ∀ t ∈ f.params.toList, S t) (hSv : ∀ n ∈ s.vars, ∀ g t, P.globalNamed n = some g → (P.globals[g]?).map (·.type) = some t → S t)
    (hW : DataW.Whole enc P f.params.toList s.vars apart w args.toList ds gs before) (hos : w'.os = w.os) (hout : w'.output = w.output)
    (hr : (s.fn H (ds ++ gs)).results = res) (ha : (s.fn H (ds ++ gs)).args = ds) (hvv : (s.fn H (ds ++ gs)).vars = gs)
    (hres : ∀ (b : Nat) (sp : Nat → Bool) (hd : Bool), DataW.TrodAll enc P w' b sp hd f.resultTypes.toList (v.resultList f.resultTypes.size) res [])
    (hok : ∀ (j : Nat) (t : TypeId) (r : Value), f.resultTypes[j]? = some t → (v.resultList f.resultTypes.size)[j]? = some r → Value.okWide P w' .any 0 t r) :
    s.post enc P f apart fresh handsOn again w args v w' := by
  have hlt := hW.lt
  have hW0 := hW
  obtain ⟨p, q, h1, h2, rfl, h4, h5⟩ := hW
  have hsp : ∀ b, b < w.heap.size → (fun b => decide (b < w.heap.size)) b = true := fun b hb => by simpa using hb
  refine ⟨ds, gs, p ++ q, [], p, q, hW0, by rw [hr]; exact hres _ _ _, by rw [ha]; exact trodAll_grow hk hz hsp hS h1, by rw [hvv]; exact trodVars_grow hk hz hsp (fun n cs => hk.var) hSv h2, ⟨hos, hout, fun i hi => ?_⟩, fun _ => ⟨hok, _, _, ([] ++ p) ++ q, ⟨[] ++ p, q, trodAll_append (trodAll_grow hk hz (fun _ _ => rfl) hS h1) (hres _ _ _), trodVars_grow hk hz (fun _ _ => rfl) (fun n cs => hk.var) hSv h2, rfl, ?_, ?_⟩, ?_⟩⟩
  · rw [hk i hi]
    cases w.heap[i]? with
    | none => rfl
    | some o => cases o <;> simp
  · simpa using hk.noneFrozen hlt h4
  · simpa using h5
  · intro p hp _
    simpa using hp
end
end SX
end Go.Proofs.YtjpdnkfplnnhhaaGreatDoor

/- SX: rows: from a contract to the law's call. -/
set_option linter.unusedVariables false
set_option linter.unusedSimpArgs false
namespace Go.Proofs.YtjpdnkfplnnhhaaGreatDoor
namespace SX
open Go Go.ChangeShapes Go.WideShapes Go.Deep
section
variable {P : Program}
/-- A contract, as a call. -/
theorem Ctr.calls {f : FuncId} {fn : Func} {c : Code} (hf : P.funcs[f]? = some fn) (hb : fn.body = some c) (hnm : (fn.name == "runtime.NumGoroutine") = false) {args : List SV} {H : List SB} {K : SV → List SB → Prop} (h : Ctr P f args H K)
    {C : Fr} {E : Env} {m : Mem} {w : World} (hr : Rel E C m H w) (ho : OkA m (vers H) args) :
    Calls P f (denL E args).toArray w (fun e w' => ∃ v, e = .returned v ∧ ∃ r H' E' m', v = den E' r ∧ K r H' ∧ (Ok m' (vers H') r ∧ live r = true) ∧ Ext E m (vers H) E' m' (vers H') ∧ Rel E' C m' H' w') := by
  have h1 := h.out C E m w hr ho
  have hrun : (callFunc f (denL E args).toArray).run P w = .ok (.enter f (denL E args).toArray) w := by
    have h1 : fn.name ≠ "runtime.NumGoroutine" := by simpa using hnm
    simp [callFunc, hf, h1, hb]
  unfold callX at h1
  rw [hrun] at h1
  exact h1
/-- The blocks that the arguments lean on, and the rest. -/
def memOf (w : World) (S : Nat → Bool) : Mem := fun b => if S b then w.heap[b]? else none
def frOf (w : World) (S : Nat → Bool) : Fr := ⟨w.os, w.tape, w.output, fun b => if S b then none else w.heap[b]?, w.drawn⟩
/-- The tables lie in the world. -/
def TabsIn (w : World) : Prop := TbOk fun b => w.heap[b]?
def isTab (b : Nat) : Bool := (tabs b).isSome
theorem TabsIn.mem {w : World} (hT : TabsIn w) {S : Nat → Bool} (hS : ∀ b, isTab b = true → S b = true) : TbOk (memOf w S) := fun g v hg => by
  have := hT g v hg
  have hs : S g = true := hS g (by simp [isTab, hg])
  cases v with
  | ints k zs => obtain ⟨t, fr, h1⟩ := this; exact ⟨t, fr, by unfold memOf; rw [hs]; exact h1⟩
  | ifc => obtain ⟨tt, v, t, fr, h1⟩ := this; exact ⟨tt, v, t, fr, by unfold memOf; rw [hs]; exact h1⟩
theorem memOf_mono {w : World} {S S' : Nat → Bool} (h : ∀ b, S b = true → S' b = true) : ∀ b o, memOf w S b = some o → memOf w S' b = some o := fun b o hb => by
  unfold memOf at hb ⊢
  split at hb
  · rename_i hs; rw [if_pos (h b hs)]; exact hb
  · cases hb
theorem rel_of (w : World) (S : Nat → Bool) (E : Env) (hT : TabsIn w) (hS : ∀ b, isTab b = true → S b = true) : Rel E (frOf w S) (memOf w S) [] w := {
  os := rfl
  tape := rfl
  output := ⟨rfl, Nat.le_refl _⟩
  im := fun b o h => by
    unfold memOf at h
    split at h
    · exact h
    · cases h
  fr := fun b o h => by
    simp only [frOf] at h
    split at h
    · cases h
    · exact h
  mf := ⟨fun b o h => by
    simp only [frOf] at h
    unfold memOf
    split at h
    · cases h
    · rename_i hs; rw [if_neg hs], hT.mem hS⟩
  bl := fun k B h => by simp at h
  nn := fun k v h hv => by
    exfalso
    unfold Vle at h
    simp [vers] at h
  sp := fun k b ⟨B, h, _⟩ => by simp at h
  inj := fun j k b ⟨B, h, _⟩ => by simp at h }
theorem Rel.keptOf {w w' : World} {S : Nat → Bool} {E : Env} {m : Mem} {H : List SB} (hm : ∀ b o, memOf w S b = some o → m b = some o) (h : Rel E (frOf w S) m H w') : Kept w w' ∧ w'.os = w.os ∧ w'.output = w.output := by
  refine ⟨fun b hb => ?_, h.os, h.output.1⟩
  have hg : w.heap[b]? = some w.heap[b] := Array.getElem?_eq_getElem hb
  cases hs : S b with
  | true =>
    have := h.im b _ (hm b w.heap[b] (by unfold memOf; rw [hs]; exact hg))
    rw [this, hg]
  | false =>
    have := h.fr b w.heap[b] (by simp only [frOf, hs]; exact hg)
    rw [this, hg]
/-- A law whose arguments lean on memory that it only reads. -/
theorem law_callsM {f : FuncId} {fn : Func} {c : Code} (hf : P.funcs[f]? = some fn) (hb : fn.body = some c) (hnm : (fn.name == "runtime.NumGoroutine") = false) {args : List SV} (h : CtrV P f args (.b true))
    (w : World) (hT : TabsIn w) (S : Nat → Bool) (ho : OkA (memOf w S) [] args) {vs : Array Value} (hvs : vs = (denL (fun _ _ => none) args).toArray) :
    Calls P f vs w (fun e w' => e = .returned (.bool true) ∧ Kept w w' ∧ w'.os = w.os ∧ w'.output = w.output) := by
  subst hvs
  refine (h.calls hf hb hnm (rel_of w (fun b => S b || isTab b) _ hT (fun b h => by simp [h])) (OkA.mono (memOf_mono fun b h => by simp [h]) _ _ _ (fun _ _ h => h) ho)).mono fun e w' he => ?_
  obtain ⟨v, rfl, r, H', E', m', rfl, ⟨rfl, rfl⟩, _, hx, hrel⟩ := he
  exact ⟨rfl, hrel.keptOf hx.mm⟩
/-- A law of plain values. -/
theorem law_calls {f : FuncId} {fn : Func} {c : Code} (hf : P.funcs[f]? = some fn) (hb : fn.body = some c) (hnm : (fn.name == "runtime.NumGoroutine") = false) {args : List SV} (h : CtrV P f args (.b true))
    (ho : OkA (fun _ => none) [] args) (w : World) (hT : TabsIn w) {vs : Array Value} (hvs : vs = (denL (fun _ _ => none) args).toArray) :
    Calls P f vs w (fun e w' => e = .returned (.bool true) ∧ Kept w w' ∧ w'.os = w.os ∧ w'.output = w.output) :=
  law_callsM hf hb hnm h w hT (fun _ => false) (OkA.mono (fun _ _ h => by cases h) _ _ _ (fun _ _ h => h) ho) hvs
/-- In a world all of which stays. -/
theorem rel_all (w : World) (E : Env) (hT : TabsIn w) : Rel E (frOf w isTab) (memOf w isTab) [] w := rel_of w isTab E hT fun _ h => h
end
section
variable {H : Type} {enc : TypeId × Value → H} {P : Program} {w : World} {base : Nat} {spare : Nat → Bool} {held : Bool}
/-- A struct of integers and bools, by value, opened. -/
theorem open_flat {r : Reach} {b0 : Nat} {t : TypeId} {fs : Array Field} {v : Value} {d : DataW H} {p : List MemPlace} (hs : P.underlying t = some (.struct fs)) (hone : oneCellFields P fs = true) (hC : P.cellsOf t = fs.size)
    (hv : Value.okWide P w r b0 t v) (h : DataW.Trod enc P w base spare held t v d p) :
    ∃ cs : List Value, v = .agg cs.toArray ∧ cs.length = fs.size ∧ ∀ (i : Nat) (f : Field), fs[i]? = some f → (∀ k, P.underlying f.type = some (.int k) → ∃ n, cs[i]? = some (.int k n)) ∧ (P.underlying f.type = some .bool → ∃ b, cs[i]? = some (.bool b)) := by
  obtain ⟨cs, rfl, hsz⟩ := okWide_struct hs hv
  obtain ⟨fuel, hf⟩ := h
  obtain ⟨xs, n, _, _, hl, hlen, hg⟩ := DataW.trod_struct hs hf
  refine ⟨cs.toList, by simp, by simpa [hC] using hsz, fun i f hi => ?_⟩
  obtain ⟨o0, k0⟩ := hone_of hone i f hi
  have h1 := hg i f hi
  rw [o0, k0] at h1
  have hilt : i < cs.size := by
    rw [hsz, hC]
    rcases Nat.lt_or_ge i fs.size with h | h
    · exact h
    · rw [Array.getElem?_eq_none h] at hi; cases hi
  have hcell : ((Value.agg cs).cells.toList.drop i).take 1 = [cs[i]] := by
    simp only [Value.cells]
    rw [List.drop_eq_getElem_cons (by simpa using hilt)]
    simp
  rw [hcell] at h1
  have hx : ∃ y, xs[i]? = some y := by
    have : i < xs.length := by rw [hlen]; rw [hsz, hC] at hilt; exact hilt
    exact ⟨_, List.getElem?_eq_getElem this⟩
  obtain ⟨y, hy⟩ := hx
  rw [hy] at h1
  have hci : cs.toList[i]? = some cs[i] := by simp [hilt]
  refine ⟨fun k hk => ?_, fun hk => ?_⟩
  · obtain ⟨n, e, _⟩ := DataW.trod_int hk h1
    simp only [List.cons.injEq, and_true] at e
    exact ⟨n, by rw [hci, e]⟩
  · obtain ⟨b, e, _⟩ := DataW.trod_bool hk h1
    simp only [List.cons.injEq, and_true] at e
    exact ⟨b, by rw [hci, e]⟩
end
end SX
end Go.Proofs.YtjpdnkfplnnhhaaGreatDoor

/- SX: a contract of the kit's that lets the world grow, as one of SX. -/
set_option linter.unusedVariables false
set_option linter.unusedSimpArgs false
namespace Go.Proofs.YtjpdnkfplnnhhaaGreatDoor
namespace SX
open Go Go.Proofs Go.Sort
theorem Rel.tabs {E C m H w} (h : Rel E C m H w) : TabsIn w := h.mf.2.mono h.im
theorem tabIs_of {P : Program} {w : World} {n : String} {g : Nat} {k : IntKind} {zs : List Int} (hT : TabsIn w) (hg : P.globalNamed n = some g) (ht : SX.tabs g = some (.ints k zs)) : Lib.TabIs P w n k zs := by
  obtain ⟨t, fr, h⟩ := hT g _ ht
  have h : w.heap[g]? = some (.cells (zs.map (.int k)).toArray t fr) := h
  unfold Lib.TabIs World.var?
  rw [hg]
  simp only [Option.bind_some, h]
theorem Rel.grown {E C m w} (h : Rel E C m [] w) (k : Nat) (os : Array Obj) : Rel E C m [] (Sort.grow (w.drewN k) os) := by
  refine ⟨h.os, h.tape, ⟨h.output.1, Nat.le_trans h.output.2 (Nat.le_add_right _ _)⟩, fun b o hb => ?_, fun b o hb => ?_, h.mf, fun k B hB => by simp at hB, fun k v hv => (Vle_nil hv).elim, ?_, ?_⟩
  · have h1 := h.im b o hb
    show (w.heap ++ os)[b]? = some o
    rw [Array.getElem?_append_left (size_of_heap h1)]; exact h1
  · have h1 := h.fr b o hb
    show (w.heap ++ os)[b]? = some o
    rw [Array.getElem?_append_left (size_of_heap h1)]; exact h1
  · rintro k b ⟨B, hB, _⟩; simp at hB
  · rintro j k b ⟨B, hB, _⟩; simp at hB
theorem CtrV.of_grow {P : Program} {f : FuncId} {fn : Func} {c : Code} (hf : P.funcs[f]? = some fn) (hb : fn.body = some c) (hnm : (fn.name == "runtime.NumGoroutine") = false) {args : List SV} {r : SV} (hok : ∀ m, Ok m [] r) (hl : live r = true)
    (h : ∀ w, TabsIn w → ∀ E m, OkA m [] args → Calls P f (denL E args).toArray w (fun e w' => e = .returned (den E r) ∧ ∃ k os, w' = grow (w.drewN k) os)) : CtrV P f args r := by
  refine ⟨fun C E m w hr ha => ?_⟩
  have hrun : (callFunc f (denL E args).toArray).run P w = .ok (.enter f (denL E args).toArray) w := by
    have h1 : fn.name ≠ "runtime.NumGoroutine" := by simpa using hnm
    simp [callFunc, hf, h1, hb]
  unfold callX
  rw [hrun]
  refine (h w hr.tabs E m ha).mono ?_
  rintro e w' ⟨rfl, k, os, rfl⟩
  exact ⟨_, rfl, r, [], E, m, rfl, ⟨rfl, rfl⟩, ⟨hok m, hl⟩, .refl .., hr.grown k os⟩
end SX
end Go.Proofs.YtjpdnkfplnnhhaaGreatDoor

/- The laying of a contract of the shelf at this program. -/
set_option maxRecDepth 100000
namespace Go.Proofs
open Go.Shelf
def Tryz.Itoa_ren : Go.Shelf.Ren := ⟨fun | 171 => 35 | 243 => 70 | 246 => 97 | 283 => 132 | 284 => 133 | 285 => 134 | 286 => 135 | 129 => 109 | 317 => 178 | 318 => 179 | 319 => 180 | 320 => 181 | 337 => 200 | 338 => 201 | n => n, fun | 3 => 3 | 9 => 9 | 2 => 2 | 4 => 4 | 171 => 171 | 0 => 0 | 53 => 138 | 37 => 152 | 5 => 5 | 173 => 173 | 212 => 214 | 51 => 161 | 20 => 20 | 213 => 215 | 46 => 134 | 232 => 255 | 233 => 256 | n => n, fun | 17 => 2 | 18 => 6 | 19 => 7 | n => n⟩
theorem Tryz.Itoa : Go.Proofs.LaysM.n171 Tryz.prog Tryz.Itoa_ren := {
  mixed := by kernel_rfl
  f129 := Tryz.func109.trans (congrArg some (by kernel_rfl))
  f171 := Tryz.func35.trans (congrArg some (by kernel_rfl))
  f243 := Tryz.func70.trans (congrArg some (by kernel_rfl))
  f246 := Tryz.func97.trans (congrArg some (by kernel_rfl))
  f283 := Tryz.func132.trans (congrArg some (by kernel_rfl))
  f284 := Tryz.func133.trans (congrArg some (by kernel_rfl))
  f285 := Tryz.func134.trans (congrArg some (by kernel_rfl))
  f286 := Tryz.func135.trans (congrArg some (by kernel_rfl))
  f317 := Tryz.func178.trans (congrArg some (by kernel_rfl))
  f318 := Tryz.func179.trans (congrArg some (by kernel_rfl))
  f319 := Tryz.func180.trans (congrArg some (by kernel_rfl))
  f320 := Tryz.func181.trans (congrArg some (by kernel_rfl))
  f337 := Tryz.func200.trans (congrArg some (by kernel_rfl))
  f338 := Tryz.func201.trans (congrArg some (by kernel_rfl))
  t0 := Tryz.underlying0
  a0 := Tryz.isAgg0
  z0 := Tryz.sizeOf0
  v0 := Tryz.zeroValue0
  t2 := Tryz.underlying2
  a2 := Tryz.isAgg2
  z2 := Tryz.sizeOf2
  v2 := Tryz.zeroValue2
  t3 := Tryz.underlying3
  a3 := Tryz.isAgg3
  z3 := Tryz.sizeOf3
  v3 := Tryz.zeroValue3
  t4 := Tryz.underlying4
  a4 := Tryz.isAgg4
  z4 := Tryz.sizeOf4
  v4 := Tryz.zeroValue4
  t5 := Tryz.underlying5
  a5 := Tryz.isAgg5
  z5 := Tryz.sizeOf5
  v5 := Tryz.zeroValue5
  t9 := Tryz.underlying9
  a9 := Tryz.isAgg9
  z9 := Tryz.sizeOf9
  v9 := Tryz.zeroValue9
  t20 := Tryz.underlying20
  a20 := Tryz.isAgg20
  z20 := Tryz.sizeOf20
  v20 := Tryz.zeroValue20
  t37 := Tryz.underlying152
  a37 := Tryz.isAgg152
  z37 := Tryz.sizeOf152
  v37 := Tryz.zeroValue152
  t46 := Tryz.underlying134
  a46 := Tryz.isAgg134
  z46 := Tryz.sizeOf134
  v46 := Tryz.zeroValue134
  t51 := Tryz.underlying161
  a51 := Tryz.isAgg161
  z51 := Tryz.sizeOf161
  v51 := Tryz.zeroValue161
  t53 := Tryz.underlying138
  a53 := Tryz.isAgg138
  z53 := Tryz.sizeOf138
  v53 := Tryz.zeroValue138
  t171 := Tryz.underlying171
  a171 := Tryz.isAgg171
  z171 := Tryz.sizeOf171
  v171 := Tryz.zeroValue171
  t173 := Tryz.underlying173
  a173 := Tryz.isAgg173
  z173 := Tryz.sizeOf173
  v173 := Tryz.zeroValue173
  t212 := Tryz.underlying214
  a212 := Tryz.isAgg214
  z212 := Tryz.sizeOf214
  v212 := Tryz.zeroValue214
  t213 := Tryz.underlying215
  a213 := Tryz.isAgg215
  z213 := Tryz.sizeOf215
  t232 := Tryz.underlying255
  a232 := Tryz.isAgg255
  z232 := Tryz.sizeOf255
  v232 := Tryz.zeroValue255
  t233 := Tryz.underlying256
  a233 := Tryz.isAgg256
  z233 := Tryz.sizeOf256
  v233 := Tryz.zeroValue256
  g17 := by kernel_rfl
  g18 := by kernel_rfl
  g19 := by kernel_rfl
  i0 := by kernel_rfl
  i2 := by kernel_rfl
  i3 := by kernel_rfl
  i4 := by kernel_rfl
  i5 := by kernel_rfl
  i9 := by kernel_rfl
  i20 := by kernel_rfl
  i37 := by kernel_rfl
  i46 := by kernel_rfl
  i51 := by kernel_rfl
  i53 := by kernel_rfl
  i171 := by kernel_rfl
  i173 := by kernel_rfl
  i212 := by kernel_rfl
  i232 := by kernel_rfl
  i233 := by kernel_rfl
  m17 := by kernel_rfl
  m18 := by kernel_rfl
  m19 := by kernel_rfl }
end Go.Proofs

/- Digits, plain. -/
set_option linter.unusedVariables false
namespace Go.Proofs.YtjpdnkfplnnhhaaGreatDoor
namespace SX
open Go Go.Proofs
/-- The loop of Digits: so much is left, so much is written. -/
def DI (n k : Nat) (s : List UInt8) : Prop := (s = [] ∧ k = n) ∨ (s ≠ [] ∧ Lib.decDigits n = (if k = 0 then [] else Lib.decDigits k) ++ s)
theorem DI.step {n k : Nat} {s : List UInt8} (h : DI n k s) (hc : s = [] ∨ k ≠ 0) : DI n (k / 10) (UInt8.ofNat (48 + k % 10) :: s) := by
  have key : Lib.decDigits k = (if k / 10 = 0 then [] else Lib.decDigits (k / 10)) ++ [UInt8.ofNat (48 + k % 10)] := by
    rw [Lib.decDigits]
    by_cases hk : k < 10
    · rw [dif_pos hk, if_pos (by omega), Nat.mod_eq_of_lt hk]; rfl
    · rw [dif_neg hk, if_neg (by omega)]
  refine .inr ⟨by simp, ?_⟩
  rcases h with ⟨rfl, rfl⟩ | ⟨h1, h2⟩
  · exact key
  · have hk : k ≠ 0 := hc.resolve_left h1
    rw [h2, if_neg hk, key, List.append_assoc]; rfl
theorem DI.done {n k : Nat} {s : List UInt8} (h : DI n k s) (h1 : s ≠ []) (h2 : k = 0) : Lib.decDigits n = s := by
  rcases h with ⟨rfl, _⟩ | ⟨_, h3⟩
  · exact absurd rfl h1
  · rw [h3, if_pos h2]; rfl
end SX
end Go.Proofs.YtjpdnkfplnnhhaaGreatDoor

/- strconv.Itoa: its contract, and the reference's Digits. -/
set_option linter.unusedVariables false
set_option maxRecDepth 100000
namespace Go.Proofs.YtjpdnkfplnnhhaaGreatDoor
namespace SX
open Go Go.Proofs
theorem pow10_tab : tabs 2 = some (.ints .u64 Lib.pow10Tab) := by kernel_rfl
theorem itoa_ok (n : Int) (h0 : -9223372036854775808 ≤ n) (h1 : n ≤ 9223372036854775807) : CtrV Tryz.prog 35 [.i .i64 n] (.s (Lib.itoa n)) :=
  CtrV.of_grow (fn := Tryz.f35) Tryz.func35 rfl rfl (fun m => trivial) rfl fun w hT E m _ =>
    Any.strconv_Itoa Tryz.Itoa n h0 h1 w (tabIs_of hT (by kernel_rfl) pow10_tab)
theorem DI.len {n k : Nat} {s : List UInt8} (h : DI n k s) (hn : n ≤ 9223372036854775808) : s.length ≤ 20 := by
  rcases h with ⟨rfl, _⟩ | ⟨_, h2⟩
  · simp
  · have h3 := congrArg List.length h2
    rw [List.length_append] at h3
    have h4 := Lib.itoa_length_le (-(n : Int)) (by omega) (by omega)
    by_cases h0 : n = 0
    · subst h0
      have : (Lib.decDigits 0).length = 1 := by unfold Lib.decDigits; rfl
      omega
    · have h5 : Lib.itoa (-(n : Int)) = 45 :: Lib.decDigits n := by
        unfold Lib.itoa
        rw [if_pos (by omega), Int.natAbs_neg, Int.natAbs_natCast]
      rw [h5, List.length_cons] at h4
      omega
def sg (n : Int) (k : Nat) : Int := if n < 0 then -(k : Int) else k
theorem sg_rem {n : Int} {k : Nat} (hk : k ≤ 9223372036854775808) : (sg n k).tmod 10 = sg n (k % 10) := by
  unfold sg
  split
  · rw [Int.neg_tmod]; rfl
  · rfl
theorem sg_quo {n : Int} {k : Nat} : (sg n k).tdiv 10 = sg n (k / 10) := by
  unfold sg
  split
  · rw [Int.neg_tdiv]; rfl
  · rfl
theorem dig_byte {x : Int} {d : Nat} (h : x = d) (hd : d < 10) : toBytes [IntKind.u8.wrap (IntKind.i64.wrap (48 + x))] = [UInt8.ofNat (48 + d)] := by
  subst h
  rcases (by omega : d = 0 ∨ d = 1 ∨ d = 2 ∨ d = 3 ∨ d = 4 ∨ d = 5 ∨ d = 6 ∨ d = 7 ∨ d = 8 ∨ d = 9) with rfl | rfl | rfl | rfl | rfl | rfl | rfl | rfl | rfl | rfl <;> rfl
theorem digits_ok (n : Int) (h0 : -9223372036854775808 ≤ n) (h1 : n ≤ 9223372036854775807) : CtrV Tryz.prog 72 [.i .i64 n] (.s (Lib.itoa n)) := by
  refine Ctr.enterV tabOk (fn := Tryz.f72) rfl rfl rfl rfl rfl rfl ?_
  refine WpC.loop tabOk (β := Nat × List UInt8) (fun b => DI n.natAbs b.1 b.2 ∧ b.1 ≤ n.natAbs) (fun b => [(4, .i .i64 (sg n b.1)), (3, .s b.2)]) (fun _ => []) (fun b => 2 * b.1 + (if b.2 = [] then 1 else 0)) (n.natAbs, []) 268435384 ⟨.inl ⟨rfl, rfl⟩, Nat.le_refl _⟩ ?_ ?_
  · refine ⟨rfl, ⟨⟨?_, rfl, rfl⟩, ⟨rfl, rfl, rfl⟩, trivial⟩, ⟨[], rfl⟩, trivial, rfl⟩
    show SV.i .i64 n = SV.i .i64 (sg n n.natAbs)
    unfold sg; congr 1; split <;> omega
  · rintro ⟨k, s⟩ ⟨hD, hk⟩
    simp only at hD hk
    have hkm : k ≤ 9223372036854775808 := by omega
    have hl := hD.len (by omega)
    refine ⟨fun h2 => ?_, fun h2 => ?_⟩
    · have hc : s = [] ∨ k ≠ 0 := by
        have h2 : (decide (s = []) || !decide (sg n k = 0)) = true := h2
        simp only [Bool.or_eq_true, decide_eq_true_eq, Bool.not_eq_true', decide_eq_false_iff_not] at h2
        rcases h2 with h2 | h2
        · exact .inl h2
        · refine .inr fun e => h2 ?_
          subst e; unfold sg; split <;> rfl
      have hr := sg_rem (n := n) hkm
      have hq := sg_quo (n := n) (k := k)
      have hd : k % 10 < 10 := Nat.mod_lt _ (by decide)
      have hdiv : k / 10 ≤ k := Nat.div_le_self _ _
      have hmu : 2 * (k / 10) + 0 < 2 * k + (if s = [] then 1 else 0) := by
        rcases hc with rfl | hc
        · simp only [if_true]; omega
        · have := Nat.div_lt_self (Nat.pos_of_ne_zero hc) (by decide : 1 < 10); omega
      have hq2 : SV.i .i64 (IntKind.i64.wrap ((sg n k).tdiv 10)) = SV.i .i64 (sg n (k / 10)) := by
        rw [hq, wrap64]
        · unfold sg; split <;> omega
        · unfold sg; split <;> omega
      refine ⟨fun _ => by decide, ⟨fun h3 => ?_, fun h3 => ?_⟩⟩
      · have h3 : (sg n k).tmod 10 < 0 := of_decide_eq_true h3
        have hx : IntKind.i64.wrap (0 - (sg n k).tmod 10) = ((k % 10 : Nat) : Int) := by
          rw [hr] at h3 ⊢
          unfold sg at h3 ⊢
          split at h3
          · rename_i h4; rw [if_pos h4, wrap64 (by omega) (by omega)]; omega
          · omega
        refine OpC.str tabOk rfl rfl rfl (r := .s (toBytes [IntKind.u8.wrap (IntKind.i64.wrap (48 + IntKind.i64.wrap (0 - (sg n k).tmod 10)))])) (rb := [0]) rfl ?_
        refine ⟨fun _ => ?_, ⟨fun _ => by decide, ?_⟩⟩
        · show 1 + s.length ≤ 9223372036854775807
          omega
        refine ⟨(k / 10, UInt8.ofNat (48 + k % 10) :: s), ⟨hD.step hc, by show k / 10 ≤ n.natAbs; omega⟩, hmu, rfl, ⟨⟨hq2, rfl, rfl⟩, ⟨?_, rfl, rfl⟩, trivial⟩, ⟨_, rfl⟩, trivial, rfl⟩
        show SV.s (toBytes [_] ++ s) = SV.s (UInt8.ofNat (48 + k % 10) :: s)
        rw [dig_byte hx hd]; rfl
      · have h3 : ¬ (sg n k).tmod 10 < 0 := of_decide_eq_false h3
        have hx : (sg n k).tmod 10 = ((k % 10 : Nat) : Int) := by
          rw [hr] at h3 ⊢
          unfold sg at h3 ⊢
          split at h3
          · rename_i h4; rw [if_pos h4]; omega
          · rename_i h4; rw [if_neg h4]
        refine OpC.str tabOk rfl rfl rfl (r := .s (toBytes [IntKind.u8.wrap (IntKind.i64.wrap (48 + (sg n k).tmod 10))])) (rb := [0]) rfl ?_
        refine ⟨fun _ => ?_, ⟨fun _ => by decide, ?_⟩⟩
        · show 1 + s.length ≤ 9223372036854775807
          omega
        refine ⟨(k / 10, UInt8.ofNat (48 + k % 10) :: s), ⟨hD.step hc, by show k / 10 ≤ n.natAbs; omega⟩, hmu, rfl, ⟨⟨hq2, rfl, rfl⟩, ⟨?_, rfl, rfl⟩, trivial⟩, ⟨_, rfl⟩, trivial, rfl⟩
        show SV.s (toBytes [_] ++ s) = SV.s (UInt8.ofNat (48 + k % 10) :: s)
        rw [dig_byte hx hd]; rfl
    · have h2 : (decide (s = []) || !decide (sg n k = 0)) = false := h2
      simp only [Bool.or_eq_false_iff, decide_eq_false_iff_not, Bool.not_eq_false', decide_eq_true_eq] at h2
      have hk0 : k = 0 := by
        have := h2.2; unfold sg at this; split at this <;> omega
      have hd := hD.done h2.1 hk0
      refine ⟨fun h3 => ⟨fun _ => ?_, ?_⟩, fun h3 => ?_⟩
      · show 1 + s.length ≤ 9223372036854775807
        omega
      · have h3 : n < 0 := of_decide_eq_true h3
        show SV.s (45 :: s) = SV.s (Lib.itoa n)
        unfold Lib.itoa
        rw [if_pos h3, hd]
      · have h3 : ¬ n < 0 := of_decide_eq_false h3
        show SV.s s = SV.s (Lib.itoa n)
        unfold Lib.itoa
        rw [if_neg h3, ← hd]
        congr 2; omega
end SX
end Go.Proofs.YtjpdnkfplnnhhaaGreatDoor

/- Conditions as text, plain: trees, their texts, and the rows of both. -/
set_option linter.unusedVariables false
namespace Go.Proofs.YtjpdnkfplnnhhaaGreatDoor
namespace SX
open Go Go.Proofs
def in64 (x : Int) : Prop := -9223372036854775808 ≤ x ∧ x ≤ 9223372036854775807
/-- What is made of the nodes, from the parts on. -/
def stkG {α : Type} (g : Cn → List α → α) (cs : List Cn) : Nat → List α
  | 0 => []
  | i + 1 => (stkG g cs i).take ((stkG g cs i).length - (partsF (cs.getD i cn0)).toNat) ++ [g (cs.getD i cn0) ((stkG g cs i).drop ((stkG g cs i).length - (partsF (cs.getD i cn0)).toNat))]
theorem stkG_len {α : Type} {g : Cn → List α → α} {cs : List Cn} : ∀ {i : Nat}, okAt cs i → ((stkG g cs i).length : Int) = nAt cs i
  | 0, _ => rfl
  | i + 1, h => by
    have ih := stkG_len (g := g) (i := i) fun j hj => h j (by omega)
    have h1 := h i (by omega)
    simp only [stkG, nAt, List.length_append, List.length_take, List.length_singleton]
    omega
theorem stkG_map {α β : Type} {g : Cn → List α → α} {g' : Cn → List β → β} (f : α → β) {cs : List Cn} : ∀ {i : Nat}, (∀ j, j < i → 0 ≤ partsF (cs.getD j cn0) → ∀ l : List α, (l.length : Int) = partsF (cs.getD j cn0) → g' (cs.getD j cn0) (l.map f) = f (g (cs.getD j cn0) l)) → okAt cs i → stkG g' cs i = (stkG g cs i).map f
  | 0, _, _ => rfl
  | i + 1, hg, h => by
    have h0 : okAt cs i := fun j hj => h j (by omega)
    have ih := stkG_map f (i := i) (fun j hj => hg j (by omega)) h0
    have hl := stkG_len (g := g) h0
    have h1 := h i (by omega)
    simp only [stkG, ih, List.length_map, List.map_append, List.map_take, List.map_cons, List.map_nil]
    congr 2
    rw [← List.map_drop]
    exact hg i (by omega) h1.1 _ (by rw [List.length_drop]; omega)
/-- A node and its parts. -/
inductive CT where
  | leaf (c : Cn)
  | un (c : Cn) (l : CT)
  | bin (c : Cn) (l r : CT)
def CT.c : CT → Cn
  | .leaf c => c
  | .un c _ => c
  | .bin c _ _ => c
def mkT (c : Cn) : List CT → CT
  | [] => .leaf c
  | [l] => .un c l
  | l :: r :: _ => .bin c l r
theorem mkT_c (c : Cn) (l : List CT) : (mkT c l).c = c := by
  match l with
  | [] => rfl
  | [_] => rfl
  | _ :: _ :: _ => rfl
/-- How much a node binds. -/
def lvF (k : Int) : Int := if k = 5 then 0 else if k = 4 then 1 else if k = 3 then 2 else 3
def brk (b : Bool) (s : List UInt8) : List UInt8 := if b then ([40] ++ s) ++ [41] else s
def txt (a : Int) : CT → List UInt8
  | .leaf c => if c.k = 1 then (((Lib.itoa c.t ++ [58]) ++ nameF a c.r) ++ [61]) ++ Lib.itoa c.v else (locF c.l ++ [61]) ++ Lib.itoa c.v
  | .un _ l => [126] ++ brk (decide (lvF l.c.k < 2)) (txt a l)
  | .bin c l r => if c.k = 4 then (brk (decide (lvF l.c.k < 1)) (txt a l) ++ [32, 47, 92, 32]) ++ brk (decide (lvF r.c.k < 2)) (txt a r)
    else (brk (decide (lvF l.c.k < 0)) (txt a l) ++ [32, 92, 47, 32]) ++ brk (decide (lvF r.c.k < 1)) (txt a r)
def CT.sz : CT → Nat
  | .leaf _ => 1
  | .un _ l => l.sz + 1
  | .bin _ l r => l.sz + r.sz + 1
/-- Its nodes are as they may be. -/
def CT.good : CT → Prop
  | .leaf c => (c.k = 1 ∨ c.k = 2) ∧ 0 ≤ partsF c ∧ in64 c.v
  | .un c l => c.k = 3 ∧ l.good
  | .bin c l r => (c.k = 4 ∨ c.k = 5) ∧ l.good ∧ r.good
theorem itoa_len {n : Int} (h : in64 n) : (Lib.itoa n).length ≤ 21 := Lib.itoa_length_le n h.1 h.2
theorem leaf_t {c : Cn} (hp : 0 ≤ partsF c) (hk : c.k = 1) : in64 c.t := by
  obtain ⟨h, _⟩ := parts_reg hp hk
  unfold in64; omega
theorem brk_len (b : Bool) (s : List UInt8) : (brk b s).length ≤ s.length + 2 := by
  unfold brk; split
  · simp
  · omega
theorem txt_len (a : Int) : ∀ t : CT, t.good → (txt a t).length ≤ 60 * t.sz
  | .leaf c, h => by
    obtain ⟨hk, hp, hv⟩ := h
    have h1 := itoa_len hv
    have h3 := nameF_len a c.r
    simp only [txt, CT.sz]
    split
    · rename_i h4
      have h2 := itoa_len (leaf_t hp h4)
      simp only [List.length_append, List.length_singleton]; omega
    · simp only [List.length_append, List.length_singleton, locF]; omega
  | .un _ l, h => by
    have := txt_len a l h.2
    have := brk_len (decide (lvF l.c.k < 2)) (txt a l)
    simp only [txt, CT.sz, List.length_append, List.length_singleton]; omega
  | .bin c l r, h => by
    have h1 := txt_len a l h.2.1
    have h2 := txt_len a r h.2.2
    simp only [txt, CT.sz]
    split
    · have h3 := brk_len (decide (lvF l.c.k < 1)) (txt a l)
      have h4 := brk_len (decide (lvF r.c.k < 2)) (txt a r)
      simp only [List.length_append, List.length_cons, List.length_nil]; omega
    · have h3 := brk_len (decide (lvF l.c.k < 0)) (txt a l)
      have h4 := brk_len (decide (lvF r.c.k < 1)) (txt a r)
      simp only [List.length_append, List.length_cons, List.length_nil]; omega
/-- The trees that stand behind the first i nodes are small, and good. -/
theorem stkT_ok {cs : List Cn} (hv : ∀ j, in64 (cs.getD j cn0).v) : ∀ {i : Nat}, okAt cs i → ((stkG mkT cs i).map CT.sz).sum ≤ i ∧ ∀ t ∈ stkG mkT cs i, t.good
  | 0, _ => ⟨by simp [stkG], fun t ht => by simp [stkG] at ht⟩
  | i + 1, h => by
    have h0 : okAt cs i := fun j hj => h j (by omega)
    obtain ⟨i1, i2⟩ := stkT_ok hv (i := i) h0
    have hl := stkG_len (g := mkT) h0
    have h1 := h i (by omega)
    have hle : partsF (cs.getD i cn0) ≤ 2 := (partsF_le _).2
    generalize hS : stkG mkT cs i = S at *
    generalize hc : cs.getD i cn0 = c at *
    have hs : stkG mkT cs (i + 1) = S.take (S.length - (partsF c).toNat) ++ [mkT c (S.drop (S.length - (partsF c).toNat))] := by simp only [stkG, hS, hc]
    have hsum : ((S.take (S.length - (partsF c).toNat)).map CT.sz).sum + ((S.drop (S.length - (partsF c).toNat)).map CT.sz).sum = (S.map CT.sz).sum := by
      rw [← List.sum_append, ← List.map_append, List.take_append_drop]
    have hdl : (S.drop (S.length - (partsF c).toNat)).length = (partsF c).toNat := by rw [List.length_drop]; omega
    have hdm : ∀ t ∈ S.drop (S.length - (partsF c).toNat), t.good := fun t ht => i2 t (List.mem_of_mem_drop ht)
    rw [hs]
    generalize hD : S.drop (S.length - (partsF c).toNat) = D at *
    have hcv : in64 c.v := hc ▸ hv i
    have key : (mkT c D).sz ≤ (D.map CT.sz).sum + 1 ∧ (mkT c D).good := by
      match D, hdl, hdm with
      | [], hdl, _ =>
        refine ⟨Nat.le_refl _, ?_, h1.1, hcv⟩
        simp at hdl
        by_cases hk1 : c.k = 1
        · exact .inl hk1
        by_cases hk2 : c.k = 2
        · exact .inr hk2
        exfalso
        by_cases hk3 : c.k = 3
        · have := parts_not h1.1 hk3; omega
        · have := parts_two h1.1 ⟨hk1, hk2, hk3⟩; omega
      | [l], hdl, hdm =>
        refine ⟨by simp [mkT, CT.sz], ?_, hdm l (by simp)⟩
        simp at hdl
        by_cases hk3 : c.k = 3
        · exact hk3
        exfalso
        by_cases hk1 : c.k = 1
        · unfold partsF at hdl; rw [if_pos hk1] at hdl; split at hdl <;> simp at hdl
        by_cases hk2 : c.k = 2
        · unfold partsF at hdl; rw [if_neg hk1, if_pos hk2] at hdl; split at hdl <;> simp at hdl
        · have := parts_two h1.1 ⟨hk1, hk2, hk3⟩; omega
      | [l, r], hdl, hdm =>
        refine ⟨by simp [mkT, CT.sz], ?_, hdm l (by simp), hdm r (by simp)⟩
        simp at hdl
        by_cases hk1 : c.k = 1
        · unfold partsF at hdl; rw [if_pos hk1] at hdl; split at hdl <;> simp at hdl
        by_cases hk2 : c.k = 2
        · unfold partsF at hdl; rw [if_neg hk1, if_pos hk2] at hdl; split at hdl <;> simp at hdl
        by_cases hk3 : c.k = 3
        · have := parts_not h1.1 hk3; omega
        exact (parts_two h1.1 ⟨hk1, hk2, hk3⟩).2
      | _ :: _ :: _ :: _, hdl, _ => simp at hdl; omega
    refine ⟨?_, fun t ht => ?_⟩
    · rw [List.map_append, List.sum_append]
      simp only [List.map_cons, List.map_nil, List.sum_cons, List.sum_nil]
      omega
    · rcases List.mem_append.1 ht with ht | ht
      · exact i2 t (List.mem_of_mem_take ht)
      · simp at ht; subst ht; exact key.2
theorem mem_sz {S : List CT} : ∀ {t : CT}, t ∈ S → t.sz ≤ (S.map CT.sz).sum := by
  induction S with
  | nil => intro t h; cases h
  | cons x S ih =>
    intro t h
    simp only [List.map_cons, List.sum_cons]
    rcases List.mem_cons.1 h with rfl | h
    · omega
    · have := ih h; omega
/-- A piece: a text, and the kind of its node. -/
structure Pc where
  s : List UInt8
  k : Int
def pc0 : Pc := ⟨[], 0⟩
def penc (p : Pc) : List SV := [.s p.s, .i .i64 p.k]
/-- A piece out of a node and its parts' pieces. -/
def pieceF (a : Int) (c : Cn) (l : List Pc) : Pc :=
  ⟨if c.k = 1 then ((Lib.itoa c.t ++ [58]) ++ nameF a c.r) ++ ([61] ++ Lib.itoa c.v)
  else if c.k = 2 then locF c.l ++ ([61] ++ Lib.itoa c.v)
  else if c.k = 3 then [126] ++ brk (decide ((l.getD 0 pc0).k = 4) || decide ((l.getD 0 pc0).k = 5)) (l.getD 0 pc0).s
  else if c.k = 4 then (brk (decide ((l.getD 0 pc0).k = 5)) (l.getD 0 pc0).s ++ [32, 47, 92, 32]) ++ brk (decide ((l.getD 1 pc0).k = 5) || decide ((l.getD 1 pc0).k = 4)) (l.getD 1 pc0).s
  else ((l.getD 0 pc0).s ++ [32, 92, 47, 32]) ++ brk (decide ((l.getD 1 pc0).k = 5)) (l.getD 1 pc0).s, c.k⟩
def pcT (a : Int) (t : CT) : Pc := ⟨txt a t, t.c.k⟩
theorem lv_lt2 (k : Int) : decide (lvF k < 2) = (decide (k = 4) || decide (k = 5)) := by
  rw [Bool.eq_iff_iff]; unfold lvF; simp only [decide_eq_true_eq, Bool.or_eq_true]
  split
  · simp [*]
  · split
    · simp [*]
    · split <;> simp [*]
theorem lv_lt1 (k : Int) : decide (lvF k < 1) = decide (k = 5) := by
  rw [Bool.eq_iff_iff]; unfold lvF; simp only [decide_eq_true_eq]
  split
  · simp [*]
  · split
    · simp [*]
    · split <;> simp [*]
theorem lv_lt0 (k : Int) : decide (lvF k < 0) = false := by
  unfold lvF; simp only [decide_eq_false_iff_not]
  split
  · simp
  · split
    · simp
    · split <;> simp
theorem pieceF_T (a : Int) (c : Cn) (h0 : 0 ≤ partsF c) (l : List CT) (hl : (l.length : Int) = partsF c) : pieceF a c (l.map (pcT a)) = pcT a (mkT c l) := by
  have h2 : partsF c ≤ 2 := (partsF_le c).2
  unfold pcT
  rw [mkT_c]
  unfold pieceF
  congr 1
  by_cases hk1 : c.k = 1
  · have hz : partsF c = 0 := by unfold partsF at h0 ⊢; rw [if_pos hk1] at *; split at h0 <;> first | rfl | omega
    have : l = [] := List.eq_nil_of_length_eq_zero (by omega)
    subst this
    simp only [if_pos hk1, mkT, txt, List.append_assoc]
  by_cases hk2 : c.k = 2
  · have hz : partsF c = 0 := by unfold partsF at h0 ⊢; rw [if_neg hk1, if_pos hk2] at *; split at h0 <;> first | rfl | omega
    have : l = [] := List.eq_nil_of_length_eq_zero (by omega)
    subst this
    simp only [if_neg hk1, if_pos hk2, mkT, txt, List.append_assoc]
  by_cases hk3 : c.k = 3
  · have hz := parts_not h0 hk3
    match l, hl with
    | [x], _ => simp only [if_neg hk1, if_neg hk2, if_pos hk3, mkT, txt, List.map_cons, List.map_nil, List.getD_cons_zero, pcT, lv_lt2]
    | [], hl => simp at hl; omega
    | _ :: _ :: _, hl => simp at hl; omega
  obtain ⟨hz, hk⟩ := parts_two h0 ⟨hk1, hk2, hk3⟩
  match l, hl with
  | [x, y], _ =>
    by_cases hk4 : c.k = 4
    · simp only [if_neg hk1, if_neg hk2, if_neg hk3, if_pos hk4, mkT, txt, List.map_cons, List.map_nil, List.getD_cons_zero, List.getD_cons_succ, pcT, lv_lt2, lv_lt1, Bool.or_comm]
    · simp only [if_neg hk1, if_neg hk2, if_neg hk3, if_neg hk4, mkT, txt, List.map_cons, List.map_nil, List.getD_cons_zero, List.getD_cons_succ, pcT, lv_lt1, lv_lt0]
      simp only [brk, Bool.false_eq_true, if_false]
  | [], hl => simp at hl; omega
  | [_], hl => simp at hl; omega
  | _ :: _ :: _ :: _, hl => simp at hl; omega
/-- A condition's text: of its tree. -/
noncomputable def printF (a : Int) (cs : List Cn) : List UInt8 := txt a ((stkG mkT cs cs.length).getD 0 (.leaf cn0))
end SX
end Go.Proofs.YtjpdnkfplnnhhaaGreatDoor

/- Conditions as text: a piece in brackets. -/
set_option linter.unusedVariables false
set_option maxRecDepth 100000
namespace Go.Proofs.YtjpdnkfplnnhhaaGreatDoor
namespace SX
open Go Go.Proofs
def kindB (n : Nat) (ks : List Int) : SB := .mem 3 [.ints .i64 n ks] 1 0
theorem bndK {n : Nat} {ks : List Int} {M : Nat} : BndB M (kindB n ks) := ⟨rfl, trivial⟩
/-- The first place, -1: none. -/
def ixF (ks : List Int) (v : Int) : Int := if v ∈ ks then (ks.idxOf v : Nat) else -1
theorem ixF_ge (ks : List Int) (v : Int) : decide ((0 : Int) ≤ ixF ks v) = decide (v ∈ ks) := by
  unfold ixF
  split
  · rename_i h; rw [decide_eq_true h]; simp
  · rename_i h; rw [decide_eq_false h]; simp
theorem ixF_at {ks : List Int} {v : Int} {i : Nat} (hi : i < ks.length) (h0 : ∀ j, j < i → ks.getD j 0 ≠ v) (h : v = ks.getD i 0) : ixF ks v = i := by
  have hm : v ∈ ks := by
    rw [h, List.getD_eq_getElem?_getD, List.getElem?_eq_getElem hi]
    exact List.getElem_mem hi
  unfold ixF
  rw [if_pos hm]
  congr 1
  have h1 := List.idxOf_lt_length_of_mem hm
  rcases Nat.lt_trichotomy (ks.idxOf v) i with h2 | h2 | h2
  · exfalso
    apply h0 _ h2
    rw [List.getD_eq_getElem?_getD, List.getElem?_eq_getElem h1]
    exact List.getElem_idxOf h1
  · exact h2
  · exfalso
    have := List.not_of_lt_findIdx (p := (· == v)) (xs := ks) (i := i) h2
    have e : ks[i] = v := by rw [h, List.getD_eq_getElem?_getD, List.getElem?_eq_getElem hi]; rfl
    rw [e] at this
    simp at this
theorem ixF_none {ks : List Int} {v : Int} (h0 : ∀ j, j < ks.length → ks.getD j 0 ≠ v) : ixF ks v = -1 := by
  unfold ixF
  rw [if_neg]
  intro hm
  obtain ⟨j, hj, e⟩ := List.mem_iff_getElem.1 hm
  apply h0 j hj
  rw [List.getD_eq_getElem?_getD, List.getElem?_eq_getElem hj]
  exact e
theorem i64_cg {x y : Int} (h : x = y) : SV.i .i64 x = SV.i .i64 y := congrArg (SV.i .i64) h
theorem index_ok (n : Nat) (ks : List Int) (hk : ks.length = n) (hn : n ≤ 1000) (v : Int) : Ctr Tryz.prog 98 [.sl 0 1 0 n (some n) 0, .i .i64 v] [kindB n ks] (fun r h => r = .i .i64 (ixF ks v) ∧ h = [kindB n ks]) := by
  refine Ctr.enterG tabOk (fn := Tryz.f98) rfl rfl rfl rfl rfl rfl ⟨bndK, trivial⟩ ?_
  refine WpC.loop tabOk (β := Nat) (fun i => i ≤ n ∧ ∀ j, j < i → ks.getD j 0 ≠ v) (fun i => [(8, .i .i64 i)]) (fun _ => [kindB n ks]) (fun i => n - i) 0 524080 ⟨Nat.zero_le _, fun j hj => by omega⟩ ?_ ?_
  · exact ⟨rfl, ⟨⟨rfl, rfl, rfl⟩, trivial⟩, ⟨[], rfl⟩, ⟨bndK, trivial⟩, rfl⟩
  · rintro i ⟨hi, ho⟩
    refine ⟨fun h2 => ?_, fun h2 => ?_⟩
    · have h2 : i < n := by
        have h2 : decide ((i : Int) < n) = true := h2
        simpa using h2
      refine ⟨fun _ => ⟨by omega, by omega⟩, ⟨fun _ => h2, ?_⟩⟩
      refine ⟨fun h3 => ⟨?_, _, rfl⟩, fun h3 => ?_⟩
      · have h3 : v = ks.getD i 0 := of_decide_eq_true h3
        exact i64_cg (ixF_at (by omega) ho h3).symm
      · have h3 : ¬ v = ks.getD i 0 := of_decide_eq_false h3
        refine ⟨i + 1, ⟨h2, fun j hj => ?_⟩, by omega, rfl, ⟨⟨?_, rfl, rfl⟩, trivial⟩, ⟨[], rfl⟩, ⟨bndK, trivial⟩, rfl⟩
        · rcases Nat.lt_succ_iff_lt_or_eq.1 hj with hj | rfl
          · exact ho j hj
          · exact fun e => h3 e.symm
        · show SV.i .i64 (IntKind.i64.wrap ((i : Int) + 1)) = SV.i .i64 ((i + 1 : Nat) : Int)
          rw [wrap64 (by omega) (by omega)]; rfl
    · have h2 : i = n := by
        have h2 : decide ((i : Int) < n) = false := h2
        simp at h2; omega
      subst h2
      exact ⟨i64_cg (ixF_none (by rw [hk]; exact ho)).symm, _, rfl⟩
theorem contains_ok (n : Nat) (ks : List Int) (hk : ks.length = n) (hn : n ≤ 1000) (v : Int) : Ctr Tryz.prog 71 [.sl 0 1 0 n (some n) 0, .i .i64 v] [kindB n ks] (fun r h => r = .b (decide (v ∈ ks)) ∧ h = [kindB n ks]) := by
  refine Ctr.enterG tabOk (fn := Tryz.f71) rfl rfl rfl rfl rfl rfl ⟨bndK, trivial⟩ ?_
  refine OpC.callG rfl rfl rfl rfl rfl rfl (fun _ => index_ok n ks hk hn v) ?_
  exact ⟨b_congr (ixF_ge ks v), _, rfl⟩
theorem in_ok (n : Nat) (ks : List Int) (hk : ks.length = n) (hn : n ≤ 1000) (s : List UInt8) (k : Int) (hs : s.length ≤ 100000) : Ctr Tryz.prog 36 [.agg [.s s, .i .i64 k], .sl 0 1 0 n (some n) 0] [kindB n ks] (fun r h => r = .s (brk (decide (k ∈ ks)) s) ∧ h = [kindB n ks]) := by
  refine Ctr.enterG tabOk (fn := Tryz.f36) rfl rfl rfl rfl rfl rfl ⟨bndK, trivial⟩ ?_
  refine OpC.callG rfl rfl rfl rfl rfl rfl (fun _ => Ctr.spread (contains_ok n ks hk hn k) (fun ρ => rfl) _ [0] rfl rfl ⟨rfl, trivial⟩ rfl) ?_
  refine ⟨fun h => ?_, fun h => ?_⟩
  · have h : decide (k ∈ ks) = true := h
    rw [h]
    refine ⟨fun _ => ?_, ⟨fun _ => ?_, ⟨rfl, _, rfl⟩⟩⟩
    · show 1 + s.length ≤ 9223372036854775807
      omega
    · show ([40] ++ s).length + 1 ≤ 9223372036854775807
      simp; omega
  · have h : decide (k ∈ ks) = false := h
    rw [h]
    exact ⟨rfl, _, rfl⟩
end SX
end Go.Proofs.YtjpdnkfplnnhhaaGreatDoor

/- Conditions as text: a node's piece. -/
set_option linter.unusedVariables false
set_option maxRecDepth 100000
namespace Go.Proofs.YtjpdnkfplnnhhaaGreatDoor
namespace SX
open Go Go.Proofs
def nfB (f : Nat) : SB := .mem 72 [.fn f []] 1 0
theorem bndN {f M : Nat} : BndB M (nfB f) := ⟨rfl, trivial⟩
theorem agg_s {x y : List UInt8} {k : Int} (h : x = y) : SV.agg [.s x, .i .i64 k] = SV.agg [.s y, .i .i64 k] := by rw [h]
theorem pf_1 {a : Int} {c : Cn} {l : List Pc} (h : c.k = 1) : (pieceF a c l).s = ((Lib.itoa c.t ++ [58]) ++ nameF a c.r) ++ ([61] ++ Lib.itoa c.v) := by simp only [pieceF, if_pos h]
theorem pf_2 {a : Int} {c : Cn} {l : List Pc} (h : c.k = 2) : (pieceF a c l).s = locF c.l ++ ([61] ++ Lib.itoa c.v) := by simp only [pieceF]; rw [if_neg (by omega), if_pos h]
theorem pf_3 {a : Int} {c : Cn} {l : List Pc} (h : c.k = 3) : (pieceF a c l).s = [126] ++ brk (decide ((l.getD 0 pc0).k ∈ [(4 : Int), 5])) (l.getD 0 pc0).s := by
  simp only [pieceF]; rw [if_neg (by omega), if_neg (by omega), if_pos h]; simp
theorem pf_4 {a : Int} {c : Cn} {l : List Pc} (h : c.k = 4) : (pieceF a c l).s = (brk (decide ((l.getD 0 pc0).k ∈ [(5 : Int)])) (l.getD 0 pc0).s ++ [32, 47, 92, 32]) ++ brk (decide ((l.getD 1 pc0).k ∈ [(5 : Int), 4])) (l.getD 1 pc0).s := by
  simp only [pieceF]; rw [if_neg (by omega), if_neg (by omega), if_neg (by omega), if_pos h]; simp
theorem pf_5 {a : Int} {c : Cn} {l : List Pc} (h : c.k = 5) : (pieceF a c l).s = ((l.getD 0 pc0).s ++ [32, 92, 47, 32]) ++ brk (decide ((l.getD 1 pc0).k ∈ [(5 : Int)])) (l.getD 1 pc0).s := by
  simp only [pieceF]; rw [if_neg (by omega), if_neg (by omega), if_neg (by omega), if_neg (by omega)]; simp
set_option maxHeartbeats 2000000 in
theorem printC_ok (a : Int) (nf : Nat) (hnf : ∀ n, CtrV Tryz.prog nf [.i .i64 n] (.s (nameF a n))) (c : Cn) (l : List Pc) (ad : Option Addr) (cap : Nat) (hp : 0 ≤ partsF c) (hl : (l.length : Int) = partsF c) (hv : in64 c.v) (hs : ∀ j, (l.getD j pc0).s.length ≤ 3000) :
    Ctr Tryz.prog 34 [.agg (cenc c), .imm Pc pc0 2 penc l ad cap, .ptr 0 1 0 []] [nfB nf] (fun r h => r = .agg (penc (pieceF a c l)) ∧ h = [nfB nf]) := by
  have hiv := itoa_len hv
  refine Ctr.enterG tabOk (fn := Tryz.f34) rfl rfl rfl rfl rfl rfl ⟨bndN, trivial⟩ ?_
  refine OpC.callV rfl rfl rfl rfl rfl rfl rfl (fun _ => itoa_ok c.v hv.1 hv.2) ?_
  refine ⟨fun _ => ?_, ?_⟩
  · show 1 + (Lib.itoa c.v).length ≤ 9223372036854775807
    omega
  refine ⟨fun h1 => ?_, fun h1 => ⟨fun h2 => ?_, fun h2 => ⟨fun h3 => ?_, fun h3 => ⟨fun h4 => ?_, fun h4 => ⟨fun h5 => ?_, fun h5 => ?_⟩⟩⟩⟩⟩
  · have h1 : c.k = 1 := of_decide_eq_true h1
    have hct := leaf_t hp h1
    have hit := itoa_len hct
    have hnl := nameF_len a c.r
    refine WpC.dr tabOk mixed 0 ?_
    refine OpD.callV rfl rfl rfl rfl rfl rfl rfl (fun _ => itoa_ok c.t hct.1 hct.2) ?_
    refine ⟨fun _ => ?_, ?_⟩
    · show (Lib.itoa c.t).length + 1 ≤ 9223372036854775807
      omega
    refine OpD.callV rfl rfl rfl rfl rfl rfl rfl (fun _ => hnf c.r) ?_
    refine ⟨fun _ => ?_, ⟨fun _ => ?_, ?_⟩⟩
    · show (Lib.itoa c.t ++ [58]).length + (nameF a c.r).length ≤ 9223372036854775807
      simp; omega
    · show ((Lib.itoa c.t ++ [58]) ++ nameF a c.r).length + ([61] ++ Lib.itoa c.v).length ≤ 9223372036854775807
      simp; omega
    refine ⟨by kernel_rfl, ?_⟩
    exact ⟨agg_s (pf_1 h1).symm, _, rfl⟩
  · have h2 : c.k = 2 := of_decide_eq_true h2
    have ht := parts_loc hp h2
    have hf := (pf_2 (a := a) (c := c) (l := l) h2).symm
    obtain ⟨ck, ct, cr, cl, cv⟩ := c
    have hiv : (Lib.itoa cv).length ≤ 21 := hiv
    simp only at ht hf
    have hob : (1 : Nat) + ([61] ++ Lib.itoa cv).length ≤ 9223372036854775807 := by simp; omega
    rcases ht with rfl | rfl | rfl
    · exact ⟨fun _ => by show (0 : Int) ≤ 0 ∧ (0 : Int) ≤ 1 ∧ (1 : Int) ≤ 3; decide, ⟨fun _ => hob, ⟨agg_s hf, _, rfl⟩⟩⟩
    · exact ⟨fun _ => by show (0 : Int) ≤ 1 ∧ (1 : Int) ≤ 2 ∧ (2 : Int) ≤ 3; decide, ⟨fun _ => hob, ⟨agg_s hf, _, rfl⟩⟩⟩
    · exact ⟨fun _ => by show (0 : Int) ≤ 2 ∧ (2 : Int) ≤ 3 ∧ (3 : Int) ≤ 3; decide, ⟨fun _ => hob, ⟨agg_s hf, _, rfl⟩⟩⟩
  · have h1 : ¬ c.k = 1 := of_decide_eq_false h1
    have h2 : ¬ c.k = 2 := of_decide_eq_false h2
    have h3 : c.k = 3 := of_decide_eq_true h3
    have := parts_not hp h3
    have hb := brk_len (decide ((l.getD 0 pc0).k ∈ [(4 : Int), 5])) (l.getD 0 pc0).s
    have h0 := hs 0
    refine ⟨fun _ => ⟨by decide, by omega⟩, ?_⟩
    refine OpC.callG rfl rfl rfl rfl rfl rfl (fun _ => Ctr.spread (in_ok 2 [4, 5] rfl (by decide) (l.getD 0 pc0).s (l.getD 0 pc0).k (by omega)) (fun ρ => rfl) _ [4] rfl rfl ⟨rfl, trivial⟩ rfl) ?_
    refine ⟨fun _ => ?_, ?_⟩
    · show 1 + (brk (decide ((l.getD 0 pc0).k ∈ [(4 : Int), 5])) (l.getD 0 pc0).s).length ≤ 9223372036854775807
      omega
    exact ⟨agg_s (pf_3 h3).symm, _, rfl⟩
  · have h1 : ¬ c.k = 1 := of_decide_eq_false h1
    have h2 : ¬ c.k = 2 := of_decide_eq_false h2
    have h3 : ¬ c.k = 3 := of_decide_eq_false h3
    have h4 : c.k = 4 := of_decide_eq_true h4
    have := parts_two hp ⟨h1, h2, h3⟩
    have hb0 := brk_len (decide ((l.getD 0 pc0).k ∈ [(5 : Int)])) (l.getD 0 pc0).s
    have hb1 := brk_len (decide ((l.getD 1 pc0).k ∈ [(5 : Int), 4])) (l.getD 1 pc0).s
    have h0 := hs 0
    have h1' := hs 1
    refine WpC.dr tabOk mixed 2 ?_
    refine ⟨fun _ => ⟨by decide, by omega⟩, ?_⟩
    refine OpD.callG [4] rfl rfl rfl rfl rfl rfl (r := .s (brk (decide ((l.getD 0 pc0).k ∈ [(5 : Int)])) (l.getD 0 pc0).s)) (fun _ H1 hH => Ctr.spread (in_ok 1 [5] rfl (by decide) (l.getD 0 pc0).s (l.getD 0 pc0).k (by omega)) (fun ρ => rfl) H1 [4] rfl rfl ⟨hH 4 (by simp), trivial⟩ rfl) ?_
    refine ⟨fun _ => ?_, ?_⟩
    · show (brk (decide ((l.getD 0 pc0).k ∈ [(5 : Int)])) (l.getD 0 pc0).s).length + 4 ≤ 9223372036854775807
      omega
    refine ⟨fun _ => ⟨by decide, by omega⟩, ?_⟩
    refine OpD.callG [5] rfl rfl rfl rfl rfl rfl (r := .s (brk (decide ((l.getD 1 pc0).k ∈ [(5 : Int), 4])) (l.getD 1 pc0).s)) (fun _ H1 hH => Ctr.spread (in_ok 2 [5, 4] rfl (by decide) (l.getD 1 pc0).s (l.getD 1 pc0).k (by omega)) (fun ρ => rfl) H1 [5] rfl rfl ⟨hH 5 (by simp), trivial⟩ rfl) ?_
    refine ⟨fun _ => ?_, ?_⟩
    · show (brk (decide ((l.getD 0 pc0).k ∈ [(5 : Int)])) (l.getD 0 pc0).s ++ [32, 47, 92, 32]).length + (brk (decide ((l.getD 1 pc0).k ∈ [(5 : Int), 4])) (l.getD 1 pc0).s).length ≤ 9223372036854775807
      simp only [List.length_append, List.length_cons, List.length_nil]; omega
    refine ⟨by kernel_rfl, ?_⟩
    exact ⟨agg_s (pf_4 h4).symm, _, rfl⟩
  · have h5 : c.k = 5 := of_decide_eq_true h5
    have := parts_two hp ⟨by omega, by omega, by omega⟩
    have hb1 := brk_len (decide ((l.getD 1 pc0).k ∈ [(5 : Int)])) (l.getD 1 pc0).s
    have h0 := hs 0
    have h1' := hs 1
    refine WpC.dr tabOk mixed 1 ?_
    refine ⟨fun _ => ⟨by decide, by omega⟩, ?_⟩
    refine ⟨fun _ => ?_, ?_⟩
    · show (l.getD 0 pc0).s.length + 4 ≤ 9223372036854775807
      omega
    refine ⟨fun _ => ⟨by decide, by omega⟩, ?_⟩
    refine OpD.callG [4] rfl rfl rfl rfl rfl rfl (r := .s (brk (decide ((l.getD 1 pc0).k ∈ [(5 : Int)])) (l.getD 1 pc0).s)) (fun _ H1 hH => Ctr.spread (in_ok 1 [5] rfl (by decide) (l.getD 1 pc0).s (l.getD 1 pc0).k (by omega)) (fun ρ => rfl) H1 [4] rfl rfl ⟨hH 4 (by simp), trivial⟩ rfl) ?_
    refine ⟨fun _ => ?_, ?_⟩
    · show ((l.getD 0 pc0).s ++ [32, 92, 47, 32]).length + (brk (decide ((l.getD 1 pc0).k ∈ [(5 : Int)])) (l.getD 1 pc0).s).length ≤ 9223372036854775807
      simp only [List.length_append, List.length_cons, List.length_nil]; omega
    refine ⟨by kernel_rfl, ?_⟩
    exact ⟨agg_s (pf_5 h5).symm, _, rfl⟩
  · have h1 : ¬ c.k = 1 := of_decide_eq_false h1
    have h2 : ¬ c.k = 2 := of_decide_eq_false h2
    have h3 : ¬ c.k = 3 := of_decide_eq_false h3
    have h4 : ¬ c.k = 4 := of_decide_eq_false h4
    have h5 : ¬ c.k = 5 := of_decide_eq_false h5
    have := parts_two hp ⟨h1, h2, h3⟩
    omega
end SX
end Go.Proofs.YtjpdnkfplnnhhaaGreatDoor

/- SX: append onto a row's first elements, so many as a number says. -/
set_option linter.unusedVariables false
set_option linter.unusedSimpArgs false
namespace Go.Proofs.YtjpdnkfplnnhhaaGreatDoor
namespace SX
open Go
section
variable {P : Program} {T : Tb} {ops : Array Oper} {o : Oper}
theorem yld_app_trim (hT : TabOk P T) {t : List SV} {h : List SB} {s x : Operand} {ty tx e : TypeId} (hop : o.op = .call { callee := .builtin .append, args := #[s, x], argTypes := #[ty, tx] }) (hg : guardOf ops t o = some []) {ti te : TI} (ht : T ty = some ti) (hk : ti.k = .slice e) (hte : T e = some te) {g : Nat} (hsz : te.size = g + 1)
    {k ver M n : Nat} (hb : evG [] t s = .sl k ver 0 M none 0) {N nn : Nat} {α : Type} {d : α} {enc : α → List SV} {ys : List α} {news segs' : List SV} (hh : h[k]? = some (.mem e [.arr N α d nn enc ys] ver (g + 1))) (hM : M ≤ N) (hnn : nn = g + 1) {rb : List Nat} (hs : SrcA T t h x tx te.size n news rb) (hkr : k ∉ rb) (hj : Joins [.arr M α d nn enc (ys.take M)] news segs') (hn : 0 < n) (h63 : M + n ≤ maxLen) (hby : (M + n) * te.bytes ≤ 140737488355328) :
    Yld P ops o (rowE o k ver M n g e segs' rb) ⟨t, h⟩ := by
  have hkl : k < h.length := (List.getElem?_eq_some_iff.1 hh).1
  have hs2 : SrcA T t (h.set k (.mem e [.arr M α d nn enc (ys.take M)] ver (g + 1))) x tx te.size n news rb := hs.like rfl fun j hj => List.getElem?_set_ne (fun e => hkr (by rw [e]; exact hj))
  have hy := yld_app_row (P := P) (ops := ops) (o := o) hT (h := h.set k (.mem e [.arr M α d nn enc (ys.take M)] ver (g + 1))) hop hg ht hk hte hsz hb (by simp [List.getElem?_set, hkl]) (by simp only [wdL, wd, Nat.add_zero]; rw [hsz, hnn]) hs2 hj hn h63 hby
  refine ⟨fun S' hl1 hl2 h1 h2 h3 C E m a w hr => ?_⟩
  have hk2 : S'.h[k]? = some (.mem e [.arr N α d nn enc ys] ver (g + 1)) := by rw [h2 k (by simp [rowE])]; exact hh
  have hkl2 : k < S'.h.length := (List.getElem?_eq_some_iff.1 hk2).1
  obtain ⟨t', h'⟩ := S'
  obtain ⟨E', m', hx, hr2⟩ := Shift.trim (t := t') (h := h') hk2 hM hnn C E m a w hr
  have := hy.out ⟨t', h'.set k (.mem e [.arr M α d nn enc (ys.take M)] ver (g + 1))⟩ hl1 (by simpa using hl2) h1 (fun j hj => by
    by_cases e0 : j = k
    · subst e0; simp [List.getElem?_set, hkl, hkl2]
    · simp only [List.getElem?_set_ne (Ne.symm e0)]; exact h2 j hj) h3 C E' m' a w hr2
  have hput : (rowE o k ver M n g e segs' rb).put ⟨t', h'.set k (.mem e [.arr M α d nn enc (ys.take M)] ver (g + 1))⟩ = (rowE o k ver M n g e segs' rb).put ⟨t', h'⟩ := by
    simp [Eff.put, rowE, setB, List.set_set]
  rw [hput] at this
  unfold opW at this ⊢
  have next : ∀ a' w', (∃ E2 m2, Ext E' m' (vers (h'.set k (.mem e [.arr M α d nn enc (ys.take M)] ver (g + 1)))) E2 m2 (vers ((rowE o k ver M n g e segs' rb).put ⟨t', h'⟩).h) ∧ Rep E2 C m2 ((rowE o k ver M n g e segs' rb).put ⟨t', h'⟩) a' w') →
      ∃ E2 m2, Ext E m (vers h') E2 m2 (vers ((rowE o k ver M n g e segs' rb).put ⟨t', h'⟩).h) ∧ Rep E2 C m2 ((rowE o k ver M n g e segs' rb).put ⟨t', h'⟩) a' w' := by
    rintro a' w' ⟨E2, m2, k1, k2⟩
    exact ⟨E2, m2, hx.trans k1, k2⟩
  split
  · rename_i hw
    rw [if_pos hw] at this
    exact wp_onlyN this next
  · rename_i hw
    rw [if_neg hw] at this
    exact next _ _ this
end
end SX
end Go.Proofs.YtjpdnkfplnnhhaaGreatDoor

/- Conditions: fold over bools, Eval. -/
set_option linter.unusedVariables false
set_option maxRecDepth 100000
namespace Go.Proofs.YtjpdnkfplnnhhaaGreatDoor
namespace SX
open Go Go.Proofs
theorem bndO {N : Nat} (o : Oc) : BndL N (oenc o) := ⟨rfl, rfl, rfl, rfl, rfl, rfl, rfl, rfl, rfl, rfl, rfl, rfl, rfl, rfl, rfl, rfl, rfl, rfl, rfl, rfl, rfl, rfl, rfl, rfl, rfl, rfl, rfl, trivial⟩
theorem cenc_w (c : Cn) : wdL (cenc c) = 5 := rfl
theorem cenc_ok (c : Cn) (m : Mem) : OkL m [] (cenc c) := by simp [cenc, OkL, Ok, isUnit]
theorem benc_w (b : Bool) : wdL (benc b) = 1 := rfl
theorem benc_ok (b : Bool) (m : Mem) : OkL m [] (benc b) := by simp [benc, OkL, Ok, isUnit]
def kAt (N : Nat) (c : Cn) : Int := IntKind.i64.wrap ((N : Int) - partsF c)
theorem kAt_eq {N : Nat} {c : Cn} (h0 : 0 ≤ partsF c) (h1 : partsF c ≤ N) (h2 : N ≤ 1000) : kAt N c = (N : Int) - partsF c := wrap64 (by omega) (by omega)
theorem stk_succ {o : Oc} {cs : List Cn} {i N : Nat} {xs : List Bool} (h : xs = stk o cs i) (hN : xs.length = N) (h0 : 0 ≤ partsF (cs.getD i cn0)) (h1 : partsF (cs.getD i cn0) ≤ N) (h2 : N ≤ 1000) :
    xs.take (kAt N (cs.getD i cn0)).toNat ++ [nodeF o (cs.getD i cn0) ((xs.drop (kAt N (cs.getD i cn0)).toNat).take (N - (kAt N (cs.getD i cn0)).toNat))] = stk o cs (i + 1) := by
  have e : (kAt N (cs.getD i cn0)).toNat = N - (partsF (cs.getD i cn0)).toNat := by rw [kAt_eq h0 h1 h2]; omega
  simp only [stk]
  rw [← h, hN, e, List.take_of_length_le (l := xs.drop _) (by simp; omega)]
set_option maxHeartbeats 1000000 in
theorem foldB_ok (o : Oc) (cs : List Cn) (a : Option Addr) (cap : Nat) (hr : okAt cs cs.length) (h1 : 1 ≤ cs.length) (h32 : cs.length ≤ 32) :
    Ctr Tryz.prog 29 [.imm Cn cn0 5 cenc cs a cap, .fn 30 [.ptr 0 1 0 []]] [.mem 26 (oenc o) 1 0] (fun r h => r = .b ((stk o cs cs.length).getD 0 false) ∧ h = [.mem 26 (oenc o) 1 0]) := by
  refine Ctr.enterG tabOk (fn := Tryz.f29) rfl rfl rfl rfl rfl rfl ⟨bndO o, trivial⟩ ?_
  refine WpC.shift (Shift.row (d := 5) rfl 0 4 [.arr 0 Bool false 1 benc []] (fun E => rfl) (fun m V => ⟨⟨rfl, rfl, benc_w, fun j hj => by omega⟩, trivial⟩)) ?_
  refine WpC.loop tabOk (β := Nat × Nat × List Bool) (fun b => b.1 ≤ cs.length ∧ b.2.2 = stk o cs b.1 ∧ b.2.2.length = b.2.1) (fun b => [(12, .i .i64 b.1), (5, .sl 1 b.1 0 b.2.1 none 0)]) (fun b => [.mem 26 (oenc o) 1 0, .mem 4 [.arr b.2.1 Bool false 1 benc b.2.2] b.1 1]) (fun b => cs.length - b.1) (0, 0, []) 17179866016 ⟨Nat.zero_le _, rfl, rfl⟩ ?_ ?_
  · exact ⟨rfl, ⟨⟨rfl, rfl, rfl⟩, ⟨rfl, rfl, rfl⟩, trivial⟩, ⟨[], rfl⟩, ⟨bndO o, ⟨fun _ => rfl, trivial⟩, trivial⟩, rfl⟩
  · rintro ⟨i, N, xs⟩ ⟨hi, hx, hN⟩
    simp only at hi hx hN
    have hoi : okAt cs i := fun j hj => hr j (by omega)
    have hnl := stk_len (o := o) hoi
    rw [← hx, hN] at hnl
    have hnb := nAt_bd hoi
    refine ⟨fun h2 => ?_, fun h2 => ?_⟩
    · have h2 : i < cs.length := by simpa using h2
      have hp := hr i h2
      rw [← hnl] at hp
      have hk := kAt_eq (N := N) (c := cs.getD i cn0) hp.1 hp.2 (by omega)
      refine ⟨fun _ => ⟨by omega, by omega⟩, ?_⟩
      refine OpC.callV rfl rfl rfl rfl rfl rfl rfl (fun _ => parts_ok (cs.getD i cn0)) ?_
      refine WpC.dr tabOk mixed 0 ?_
      refine ⟨fun _ => ?_, ?_⟩
      · show ((i = i ∧ 1 = 1 ∧ 0 < 1) ∧ 0 = 0 * 1 ∧ (0 + N) * 1 ≤ N * 1 + 0) ∧ ((kAt N (cs.getD i cn0)).toNat < N ∨ 0 = 0) ∧ 0 ≤ kAt N (cs.getD i cn0) ∧ kAt N (cs.getD i cn0) ≤ N
        omega
      refine OpD.callG [0, 1] rfl rfl rfl rfl rfl rfl (r := .b (nodeF o (cs.getD i cn0) ((xs.drop (kAt N (cs.getD i cn0)).toNat).take (N - (kAt N (cs.getD i cn0)).toNat)))) (fun _ H1 hH => ?_) ?_
      · have g0 : H1[0]? = some (.mem 26 (oenc o) 1 0) := hH 0 (by simp)
        have g1 : H1[1]? = some (.mem 4 [.arr N Bool false 1 benc xs] i 1) := hH 1 (by simp)
        refine Ctr.frzL (A := [.agg (cenc (cs.getD i cn0))]) (B := [.ptr 0 1 0 []]) (i := (kAt N (cs.getD i cn0)).toNat) (K := fun r => r = _) g1 rfl (by show (kAt N (cs.getD i cn0)).toNat + (N - (kAt N (cs.getD i cn0)).toNat) ≤ N; omega) hN ?_ benc_w benc_ok ?_ (fun r e => by rw [e]; rfl) (fun a cap => ?_)
        · show 0 + (kAt N (cs.getD i cn0)).toNat * 1 = (kAt N (cs.getD i cn0)).toNat * 1
          omega
        · exact ⟨rfl, by decide, (Nat.zero_add _).symm⟩
        · refine Ctr.spread (evalC_ok o (cs.getD i cn0) _ a cap hp.1 ?_) (fun ρ => rfl) _ [0] rfl rfl ⟨?_, trivial⟩ rfl
          · simp only [List.length_take, List.length_drop]; omega
          · show (H1.set 1 (.gone i))[0]? = some (.mem 26 (oenc o) 1 0)
            rw [List.getElem?_set_ne (by omega)]; exact g0
      refine ⟨by kernel_rfl, ?_⟩
      refine ⟨fun _ => ?_, ?_⟩
      · show ((i = i ∧ 1 = 1 ∧ 0 < 1) ∧ 0 = 0 * 1 ∧ (0 + N) * 1 ≤ N * 1 + 0) ∧ 0 ≤ kAt N (cs.getD i cn0) ∧ kAt N (cs.getD i cn0) ≤ N
        omega
      refine OpC.shift (Shift.trim (k := 1) (M := (kAt N (cs.getD i cn0)).toNat) rfl (by show (kAt N (cs.getD i cn0)).toNat ≤ N; omega) rfl) ?_
      refine OpC.yld 0 rfl (yld_app_row tabOk rfl rfl rfl rfl rfl rfl rfl rfl rfl (SrcA.sl rfl rfl rfl rfl (by decide) rfl) (Joins.arrN (y := nodeF o (cs.getD i cn0) ((xs.drop (kAt N (cs.getD i cn0)).toNat).take (N - (kAt N (cs.getD i cn0)).toNat))) ?_ rfl benc_w) (by decide) ?_ ?_) (fun d hd => by cases hd; rfl) ?_
      · show (xs.take (kAt N (cs.getD i cn0)).toNat).length = (kAt N (cs.getD i cn0)).toNat
        rw [List.length_take]; omega
      · exact Nat.le_trans (show (kAt N (cs.getD i cn0)).toNat + 1 ≤ 1000 by omega) (by decide)
      · show ((kAt N (cs.getD i cn0)).toNat + 1) * 1 ≤ 140737488355328
        omega
      refine ⟨(i + 1, (kAt N (cs.getD i cn0)).toNat + 1, _), ⟨h2, stk_succ hx hN hp.1 hp.2 (by omega), ?_⟩, ?_, rfl, ⟨⟨?_, rfl, rfl⟩, ⟨rfl, rfl, rfl⟩, trivial⟩, ⟨_, rfl⟩, ⟨bndO o, ⟨fun _ => rfl, trivial⟩, trivial⟩, rfl⟩
      · show (xs.take (kAt N (cs.getD i cn0)).toNat ++ [_]).length = (kAt N (cs.getD i cn0)).toNat + 1
        rw [List.length_append, List.length_take, List.length_singleton]; omega
      · show cs.length - (i + 1) < cs.length - i
        omega
      · show SV.i .i64 (IntKind.i64.wrap ((i : Int) + 1)) = SV.i .i64 ((i + 1 : Nat) : Int)
        rw [wrap64 (by omega) (by omega)]; rfl
    · have h2 : i = cs.length := by simp at h2; omega
      subst h2
      refine ⟨fun _ => ?_, ?_⟩
      · show 0 = 0 * 1 ∧ (0 : Int) ≤ 0 ∧ (0 : Int) < N
        have := hnb.2.2 (by omega)
        omega
      · refine ⟨fun _ => ⟨rfl, ?_⟩, b_congr ?_, ⟨_, rfl⟩⟩
        · show 0 + Int.toNat 0 < N
          have := hnb.2.2 (by omega)
          have : Int.toNat 0 = 0 := rfl
          omega
        · rw [← hx]
          rfl
theorem evalF_right {o : Oc} {cs : List Cn} (h : rightB cs = true) : evalF o cs = (stk o cs cs.length).getD 0 false := by unfold evalF; rw [if_pos h]
theorem evalF_wrong {o : Oc} {cs : List Cn} (h : rightB cs = false) : evalF o cs = false := by unfold evalF; rw [if_neg (by rw [h]; decide)]
theorem rightP_of {cs : List Cn} (h : rightB cs = true) : rightP cs := by unfold rightB at h; simpa using h
theorem eval_ok (o : Oc) (cs : List Cn) (a : Option Addr) (cap : Nat) : CtrV Tryz.prog 13 [.agg (oenc o), .imm Cn cn0 5 cenc cs a cap] (.b (evalF o cs)) := by
  refine Ctr.enterV tabOk (fn := Tryz.f13) rfl rfl rfl rfl rfl rfl ?_
  refine OpC.callV rfl rfl rfl rfl rfl rfl rfl (fun _ => right_ok cs a cap) ?_
  refine ⟨fun h1 => ?_, fun h1 => ?_⟩
  · have h1 : (!rightB cs) = true := h1
    exact b_congr (evalF_wrong (by simpa using h1)).symm
  · have h1 : (!rightB cs) = false := h1
    have h2 : rightB cs = true := by simpa using h1
    obtain ⟨⟨q1, q2⟩, q3, q4⟩ := rightP_of h2
    refine OpC.callG rfl rfl rfl rfl rfl rfl (fun _ => foldB_ok o cs a cap q3 q1 q2) ?_
    exact b_congr (evalF_right h2).symm
end SX
end Go.Proofs.YtjpdnkfplnnhhaaGreatDoor

/- Conditions as text: fold over pieces, Print. -/
set_option linter.unusedVariables false
set_option maxRecDepth 100000
namespace Go.Proofs.YtjpdnkfplnnhhaaGreatDoor
namespace SX
open Go Go.Proofs
theorem penc_w (p : Pc) : wdL (penc p) = 2 := rfl
theorem penc_ok (p : Pc) (m : Mem) : OkL m [] (penc p) := by simp [penc, OkL, Ok, isUnit]
theorem stkP_eq {a : Int} {cs : List Cn} {i : Nat} (h : okAt cs i) : stkG (pieceF a) cs i = (stkG mkT cs i).map (pcT a) :=
  stkG_map (pcT a) (fun j hj h0 l hl => pieceF_T a _ h0 l hl) h
theorem stkP_len {a : Int} {cs : List Cn} (hv : ∀ j, in64 (cs.getD j cn0).v) {i : Nat} (hi : i ≤ 32) (h : okAt cs i) : ∀ p ∈ stkG (pieceF a) cs i, p.s.length ≤ 2000 := by
  intro p hp
  rw [stkP_eq h] at hp
  obtain ⟨t, ht, rfl⟩ := List.mem_map.1 hp
  obtain ⟨h1, h2⟩ := stkT_ok hv h
  have := txt_len a t (h2 t ht)
  have := mem_sz ht
  show (txt a t).length ≤ 2000
  have : 60 * t.sz ≤ 60 * 32 := Nat.mul_le_mul_left _ (by omega)
  omega
theorem getD_len {l : List Pc} (h : ∀ p ∈ l, p.s.length ≤ 2000) (j : Nat) : (l.getD j pc0).s.length ≤ 3000 := by
  rw [List.getD_eq_getElem?_getD]
  cases hx : l[j]? with
  | none => simp [pc0]
  | some p => have := h p (List.mem_of_getElem? hx); simp; omega
theorem stkG_succ {α : Type} {g : Cn → List α → α} {cs : List Cn} {i N : Nat} {xs : List α} (h : xs = stkG g cs i) (hN : xs.length = N) (h0 : 0 ≤ partsF (cs.getD i cn0)) (h1 : partsF (cs.getD i cn0) ≤ N) (h2 : N ≤ 1000) :
    xs.take (kAt N (cs.getD i cn0)).toNat ++ [g (cs.getD i cn0) ((xs.drop (kAt N (cs.getD i cn0)).toNat).take (N - (kAt N (cs.getD i cn0)).toNat))] = stkG g cs (i + 1) := by
  have e : (kAt N (cs.getD i cn0)).toNat = N - (partsF (cs.getD i cn0)).toNat := by rw [kAt_eq h0 h1 h2]; omega
  simp only [stkG]
  rw [← h, hN, e, List.take_of_length_le (l := xs.drop _) (by simp; omega)]
def rowP (N : Nat) (xs : List Pc) (ver : Nat) : SB := .mem 76 [.arr N Pc pc0 2 penc xs] ver 2
theorem bndRP {M N ver : Nat} {xs : List Pc} : BndB M (rowP N xs ver) := ⟨fun _ => rfl, trivial⟩
theorem agg_cg {p q : Pc} (h : p = q) : SV.agg (penc p) = SV.agg (penc q) := by rw [h]
set_option maxHeartbeats 2000000 in
theorem foldP_ok (a : Int) (nf : Nat) (hnf : ∀ n, CtrV Tryz.prog nf [.i .i64 n] (.s (nameF a n))) (cs : List Cn) (ad : Option Addr) (cap : Nat) (hv : ∀ j, in64 (cs.getD j cn0).v) (hr : okAt cs cs.length) (h1 : 1 ≤ cs.length) (h32 : cs.length ≤ 32) :
    Ctr Tryz.prog 33 [.imm Cn cn0 5 cenc cs ad cap, .fn 34 [.ptr 0 1 0 []]] [nfB nf] (fun r h => r = .agg (penc ((stkG (pieceF a) cs cs.length).getD 0 pc0)) ∧ h = [nfB nf]) := by
  refine Ctr.enterG tabOk (fn := Tryz.f33) rfl rfl rfl rfl rfl rfl ⟨bndN, trivial⟩ ?_
  refine WpC.shift (Shift.row (d := 5) rfl 1 76 [.arr 0 Pc pc0 2 penc []] (fun E => rfl) (fun m V => ⟨⟨rfl, rfl, penc_w, fun j hj => by omega⟩, trivial⟩)) ?_
  refine WpC.loop tabOk (β := Nat × Nat × List Pc) (fun b => b.1 ≤ cs.length ∧ b.2.2 = stkG (pieceF a) cs b.1 ∧ b.2.2.length = b.2.1) (fun b => [(12, .i .i64 b.1), (5, .sl 2 b.1 0 b.2.1 none 0)]) (fun b => [nfB nf, .mem 76 [.s [], .i .i64 0] 1 0, rowP b.2.1 b.2.2 b.1]) (fun b => cs.length - b.1) (0, 0, []) 17179866016 ⟨Nat.zero_le _, rfl, rfl⟩ ?_ ?_
  · exact ⟨rfl, ⟨⟨rfl, rfl, rfl⟩, ⟨rfl, rfl, rfl⟩, trivial⟩, ⟨[], rfl⟩, ⟨bndN, ⟨rfl, rfl, trivial⟩, bndRP, trivial⟩, rfl⟩
  · rintro ⟨i, N, xs⟩ ⟨hi, hx, hN⟩
    simp only at hi hx hN
    have hoi : okAt cs i := fun j hj => hr j (by omega)
    have hnl := stkG_len (g := pieceF a) hoi
    rw [← hx, hN] at hnl
    have hnb := nAt_bd hoi
    have hln : ∀ p ∈ xs, p.s.length ≤ 2000 := by rw [hx]; exact stkP_len hv (by omega) hoi
    refine ⟨fun h2 => ?_, fun h2 => ?_⟩
    · have h2 : i < cs.length := by simpa using h2
      have hp := hr i h2
      rw [← hnl] at hp
      have hk := kAt_eq (N := N) (c := cs.getD i cn0) hp.1 hp.2 (by omega)
      refine ⟨fun _ => ⟨by omega, by omega⟩, ?_⟩
      refine OpC.callV rfl rfl rfl rfl rfl rfl rfl (fun _ => parts_ok (cs.getD i cn0)) ?_
      refine WpC.dr tabOk mixed 1 ?_
      refine ⟨fun _ => ?_, ?_⟩
      · show ((i = i ∧ 2 = 2 ∧ 0 < 2) ∧ 0 = 0 * 2 ∧ (0 + N) * 2 ≤ N * 2 + 0) ∧ ((kAt N (cs.getD i cn0)).toNat < N ∨ 0 = 0) ∧ 0 ≤ kAt N (cs.getD i cn0) ∧ kAt N (cs.getD i cn0) ≤ N
        omega
      refine OpD.callG [0, 2] rfl rfl rfl rfl rfl rfl (r := .agg (penc (pieceF a (cs.getD i cn0) ((xs.drop (kAt N (cs.getD i cn0)).toNat).take (N - (kAt N (cs.getD i cn0)).toNat))))) (fun _ H1 hH => ?_) ?_
      · have g0 : H1[0]? = some (nfB nf) := hH 0 (by simp)
        have g1 : H1[2]? = some (.mem 76 [.arr N Pc pc0 2 penc xs] i 2) := hH 2 (by simp)
        refine Ctr.frzL (A := [.agg (cenc (cs.getD i cn0))]) (B := [.ptr 0 1 0 []]) (i := (kAt N (cs.getD i cn0)).toNat) (K := fun r => r = _) g1 rfl (by show (kAt N (cs.getD i cn0)).toNat + (N - (kAt N (cs.getD i cn0)).toNat) ≤ N; omega) hN ?_ penc_w penc_ok ?_ (fun r e => by rw [e]; rfl) (fun a2 cap2 => ?_)
        · show 0 + (kAt N (cs.getD i cn0)).toNat * 2 = (kAt N (cs.getD i cn0)).toNat * 2
          omega
        · exact ⟨rfl, by decide, (Nat.zero_add _).symm⟩
        · refine Ctr.spread (printC_ok a nf hnf (cs.getD i cn0) _ a2 cap2 hp.1 ?_ (hv i) ?_) (fun ρ => rfl) _ [0] rfl rfl ⟨?_, trivial⟩ rfl
          · simp only [List.length_take, List.length_drop]; omega
          · exact getD_len fun p hp => hln p (List.mem_of_mem_drop (List.mem_of_mem_take hp))
          · show (H1.set 2 (.gone i))[0]? = some (nfB nf)
            rw [List.getElem?_set_ne (by omega)]; exact g0
      refine ⟨by kernel_rfl, ?_⟩
      refine WpC.dr tabOk mixed 1 ?_
      refine ⟨fun _ => ?_, ?_⟩
      · show ((i = i ∧ 2 = 2 ∧ 0 < 2) ∧ 0 = 0 * 2 ∧ (0 + N) * 2 ≤ N * 2 + 0) ∧ 0 ≤ kAt N (cs.getD i cn0) ∧ kAt N (cs.getD i cn0) ≤ N
        omega
      refine OpD.yld 0 rfl rfl rowE_w (yld_app_trim tabOk (k := 2) (N := N) (M := (kAt N (cs.getD i cn0)).toNat) rfl rfl rfl rfl rfl rfl rfl rfl (by show (kAt N (cs.getD i cn0)).toNat ≤ N; omega) rfl (SrcA.sl rfl rfl rfl rfl (by decide) rfl) (show 2 ∉ [5] by decide) (Joins.arrN (y := pieceF a (cs.getD i cn0) ((xs.drop (kAt N (cs.getD i cn0)).toNat).take (N - (kAt N (cs.getD i cn0)).toNat))) ?_ rfl penc_w) (by decide) ?_ ?_) ?_
      · show (xs.take (kAt N (cs.getD i cn0)).toNat).length = (kAt N (cs.getD i cn0)).toNat
        rw [List.length_take]; omega
      · exact Nat.le_trans (show (kAt N (cs.getD i cn0)).toNat + 1 ≤ 1000 by omega) (by decide)
      · show ((kAt N (cs.getD i cn0)).toNat + 1) * 24 ≤ 140737488355328
        omega
      refine ⟨by kernel_rfl, ?_⟩
      refine ⟨(i + 1, (kAt N (cs.getD i cn0)).toNat + 1, _), ⟨h2, stkG_succ hx hN hp.1 hp.2 (by omega), ?_⟩, ?_, rfl, ⟨⟨?_, rfl, rfl⟩, ⟨rfl, rfl, rfl⟩, trivial⟩, ⟨_, rfl⟩, ⟨bndN, ⟨rfl, rfl, trivial⟩, bndRP, trivial⟩, rfl⟩
      · show (xs.take (kAt N (cs.getD i cn0)).toNat ++ [_]).length = (kAt N (cs.getD i cn0)).toNat + 1
        rw [List.length_append, List.length_take, List.length_singleton]; omega
      · show cs.length - (i + 1) < cs.length - i
        omega
      · show SV.i .i64 (IntKind.i64.wrap ((i : Int) + 1)) = SV.i .i64 ((i + 1 : Nat) : Int)
        rw [wrap64 (by omega) (by omega)]; rfl
    · have h2 : i = cs.length := by simp at h2; omega
      subst h2
      refine ⟨fun _ => ?_, ?_⟩
      · show 0 = 0 * 2 ∧ (0 : Int) ≤ 0 ∧ (0 : Int) < N
        have := hnb.2.2 (by omega)
        omega
      · refine ⟨fun _ => ⟨rfl, ?_⟩, agg_cg ?_, ⟨_, rfl⟩⟩
        · show 0 + Int.toNat 0 < N
          have := hnb.2.2 (by omega)
          have : Int.toNat 0 = 0 := rfl
          omega
        · rw [← hx]
          rfl
/-- What Print hands back. -/
noncomputable def printR (a : Int) (cs : List Cn) : List UInt8 × Int :=
  if a = 1 ∨ a = 2 ∨ a = 3 then (if rightB cs then (printF a cs, 0) else ([], 22)) else ([], 36)
def prV (p : List UInt8 × Int) : SV := .tup [.s p.1, .i .i64 p.2]
theorem right_one {cs : List Cn} (h : rightB cs = true) : ∃ t, stkG mkT cs cs.length = [t] := by
  obtain ⟨_, q3, q4⟩ := rightP_of h
  have := stkG_len (g := mkT) q3
  rw [q4] at this
  match hs : stkG mkT cs cs.length, this with
  | [t], _ => exact ⟨t, rfl⟩
  | [], h => simp at h
  | _ :: _ :: _, h => simp at h; omega
theorem fold_print {a : Int} {cs : List Cn} (h : rightB cs = true) : ((stkG (pieceF a) cs cs.length).getD 0 pc0).s = printF a cs := by
  obtain ⟨_, q3, _⟩ := rightP_of h
  obtain ⟨t, ht⟩ := right_one h
  unfold printF
  rw [stkP_eq q3, ht]
  rfl
theorem printR_ok {a : Int} {cs : List Cn} (ha : a = 1 ∨ a = 2 ∨ a = 3) (h : rightB cs = true) : printR a cs = (printF a cs, 0) := by unfold printR; rw [if_pos ha, if_pos h]
theorem printR_form {a : Int} {cs : List Cn} (ha : a = 1 ∨ a = 2 ∨ a = 3) (h : rightB cs = false) : printR a cs = ([], 22) := by unfold printR; rw [if_pos ha, if_neg (by rw [h]; decide)]
theorem printR_arch {a : Int} {cs : List Cn} (ha : ¬ (a = 1 ∨ a = 2 ∨ a = 3)) : printR a cs = ([], 36) := by unfold printR; rw [if_neg ha]
theorem names1 : CtrV Tryz.prog 32 [.i .i64 1] (.tup [.fn 64 [], .fn 65 []]) := by
  refine Ctr.enterV tabOk (fn := Tryz.f32) rfl rfl rfl rfl rfl rfl ?_
  exact ⟨fun _ => rfl, fun h => by cases h⟩
theorem names2 : CtrV Tryz.prog 32 [.i .i64 2] (.tup [.fn 66 [], .fn 67 []]) := by
  refine Ctr.enterV tabOk (fn := Tryz.f32) rfl rfl rfl rfl rfl rfl ?_
  exact ⟨fun h => (by cases h), fun _ => ⟨fun _ => rfl, fun h => by cases h⟩⟩
theorem names3 : CtrV Tryz.prog 32 [.i .i64 3] (.tup [.fn 68 [], .fn 69 []]) := by
  refine Ctr.enterV tabOk (fn := Tryz.f32) rfl rfl rfl rfl rfl rfl ?_
  exact ⟨fun h => (by cases h), fun _ => ⟨fun h => (by cases h), fun _ => ⟨fun _ => rfl, fun h => by cases h⟩⟩⟩
theorem names0 {a : Int} (ha : ¬ (a = 1 ∨ a = 2 ∨ a = 3)) : CtrV Tryz.prog 32 [.i .i64 a] (.tup [.raw .nilFunc, .raw .nilFunc]) := by
  refine Ctr.enterV tabOk (fn := Tryz.f32) rfl rfl rfl rfl rfl rfl ?_
  exact ⟨fun h => absurd (.inl (of_decide_eq_true h)) ha, fun _ => ⟨fun h => absurd (.inr (.inl (of_decide_eq_true h))) ha, fun _ => ⟨fun h => absurd (.inr (.inr (of_decide_eq_true h))) ha, fun _ => rfl⟩⟩⟩
theorem print_one (a : Int) (ha : a = 1 ∨ a = 2 ∨ a = 3) (rf nf : Nat) (hn : CtrV Tryz.prog 32 [.i .i64 a] (.tup [.fn rf [], .fn nf []])) (hnf : ∀ n, CtrV Tryz.prog nf [.i .i64 n] (.s (nameF a n))) (cs : List Cn) (ad : Option Addr) (cap : Nat) (hv : ∀ j, in64 (cs.getD j cn0).v) :
    CtrV Tryz.prog 17 [.i .i64 a, .imm Cn cn0 5 cenc cs ad cap] (prV (printR a cs)) := by
  refine Ctr.enterV tabOk (fn := Tryz.f17) rfl rfl rfl rfl rfl rfl ?_
  refine OpC.callV rfl rfl rfl rfl rfl rfl rfl (fun _ => hn) ?_
  refine ⟨fun h => (by cases h), fun _ => ?_⟩
  refine OpC.callV rfl rfl rfl rfl rfl rfl rfl (fun _ => right_ok cs ad cap) ?_
  refine ⟨fun h1 => ?_, fun h1 => ?_⟩
  · have h1 : (!rightB cs) = true := h1
    show _ = prV (printR a cs)
    rw [printR_form ha (by simpa using h1)]
    rfl
  · have h1 : (!rightB cs) = false := h1
    have h2 : rightB cs = true := by simpa using h1
    obtain ⟨⟨q1, q2⟩, q3, q4⟩ := rightP_of h2
    refine OpC.callG rfl rfl rfl rfl rfl rfl (fun _ => Ctr.spread (foldP_ok a nf hnf cs ad cap hv q3 q1 q2) (fun ρ => rfl) _ [0] rfl rfl ⟨rfl, trivial⟩ rfl) ?_
    show _ = prV (printR a cs)
    rw [printR_ok ha h2, ← fold_print h2]
    rfl
theorem print_ok (a : Int) (cs : List Cn) (ad : Option Addr) (cap : Nat) (hv : ∀ j, in64 (cs.getD j cn0).v) : CtrV Tryz.prog 17 [.i .i64 a, .imm Cn cn0 5 cenc cs ad cap] (prV (printR a cs)) := by
  by_cases ha : a = 1 ∨ a = 2 ∨ a = 3
  · rcases ha with rfl | rfl | rfl
    · exact print_one 1 (by decide) _ _ names1 x86Name_ok cs ad cap hv
    · exact print_one 2 (by decide) _ _ names2 riscvName_ok cs ad cap hv
    · exact print_one 3 (by decide) _ _ names3 armName_ok cs ad cap hv
  · refine Ctr.enterV tabOk (fn := Tryz.f17) rfl rfl rfl rfl rfl rfl ?_
    refine OpC.callV rfl rfl rfl rfl rfl rfl rfl (fun _ => names0 ha) ?_
    refine ⟨fun _ => ?_, fun h => by cases h⟩
    show _ = prV (printR a cs)
    rw [printR_arch ha]
    rfl
end SX
end Go.Proofs.YtjpdnkfplnnhhaaGreatDoor

/- Conditions as text: the reference's tree, and its text. -/
set_option linter.unusedVariables false
set_option maxRecDepth 100000
namespace Go.Proofs.YtjpdnkfplnnhhaaGreatDoor
namespace SX
open Go Go.Proofs
theorem level_ok (c : Cn) : CtrV Tryz.prog 99 [.agg (cenc c)] (.i .i64 (lvF c.k)) := by
  refine Ctr.enterV tabOk (fn := Tryz.f99) rfl rfl rfl rfl rfl rfl ?_
  refine ⟨fun h1 => ?_, fun h1 => ⟨fun h2 => ?_, fun h2 => ⟨fun h3 => ?_, fun h3 => ?_⟩⟩⟩
  · have h1 : c.k = 5 := of_decide_eq_true h1
    refine i64_cg ?_
    unfold lvF; rw [if_pos h1]
  · have h1 : ¬ c.k = 5 := of_decide_eq_false h1
    have h2 : c.k = 4 := of_decide_eq_true h2
    refine i64_cg ?_
    unfold lvF; rw [if_neg h1, if_pos h2]
  · have h1 : ¬ c.k = 5 := of_decide_eq_false h1
    have h2 : ¬ c.k = 4 := of_decide_eq_false h2
    have h3 : c.k = 3 := of_decide_eq_true h3
    refine i64_cg ?_
    unfold lvF; rw [if_neg h1, if_neg h2, if_pos h3]
  · have h1 : ¬ c.k = 5 := of_decide_eq_false h1
    have h2 : ¬ c.k = 4 := of_decide_eq_false h2
    have h3 : ¬ c.k = 3 := of_decide_eq_false h3
    refine i64_cg ?_
    unfold lvF; rw [if_neg h1, if_neg h2, if_neg h3]
/-- A tree in memory. -/
inductive ATr where
  | leaf (ad : Addr) (c : Cn)
  | un (ad : Addr) (c : Cn) (l : ATr)
  | bin (ad : Addr) (c : Cn) (l r : ATr)
def ATr.ad : ATr → Addr
  | .leaf a _ => a
  | .un a _ _ => a
  | .bin a _ _ _ => a
def ATr.er : ATr → CT
  | .leaf _ c => .leaf c
  | .un _ c l => .un c l.er
  | .bin _ c l r => .bin c l.er r.er
def nilp : SV := .raw (.pointer none)
def ATr.enc : ATr → List SV
  | .leaf _ c => cenc c ++ [nilp, nilp]
  | .un _ c l => cenc c ++ [ptrT 7 l.enc l.ad, nilp]
  | .bin _ c l r => cenc c ++ [ptrT 7 l.enc l.ad, ptrT 7 r.enc r.ad]
def ATr.ptr (t : ATr) : SV := ptrT 7 t.enc t.ad
def atr0 : ATr := .leaf ⟨0, 0, none⟩ cn0
theorem tenc_w (t : ATr) : wdL t.enc = 7 := by cases t <;> rfl
theorem er_c : ∀ t : ATr, t.er.c = (match t with | .leaf _ c => c | .un _ c _ => c | .bin _ c _ _ => c) := fun t => by cases t <;> rfl
theorem at_ok (a : Int) (t : ATr) (ht : CtrV Tryz.prog 37 [.i .i64 a, t.ptr] (.s (txt a t.er))) (hl : (txt a t.er).length ≤ 3000) (q : Int) :
    CtrV Tryz.prog 75 [.i .i64 a, t.ptr, .i .i64 q] (.s (brk (decide (lvF t.er.c.k < q)) (txt a t.er))) := by
  refine Ctr.enterV tabOk (fn := Tryz.f75) rfl rfl rfl rfl rfl rfl ?_
  refine OpC.callV rfl rfl rfl rfl rfl rfl rfl (fun _ => ht) ?_
  have fin : ∀ b : Bool, Br b (Ob (1 + (txt a t.er).length ≤ 9223372036854775807) (Ob (([40] ++ txt a t.er).length + 1 ≤ 9223372036854775807) (SV.s (([40] ++ txt a t.er) ++ [41]) = SV.s (brk b (txt a t.er))))) (SV.s (txt a t.er) = SV.s (brk b (txt a t.er))) := fun b =>
    ⟨fun h => ⟨by omega, ⟨by simp; omega, by rw [h]; rfl⟩⟩, fun h => by rw [h]; rfl⟩
  have key : ∀ c : Cn, c = t.er.c → Br (decide (lvF c.k < q)) (Ob (1 + (txt a t.er).length ≤ 9223372036854775807) (Ob (([40] ++ txt a t.er).length + 1 ≤ 9223372036854775807) (SV.s (([40] ++ txt a t.er) ++ [41]) = SV.s (brk (decide (lvF t.er.c.k < q)) (txt a t.er))))) (SV.s (txt a t.er) = SV.s (brk (decide (lvF t.er.c.k < q)) (txt a t.er))) := fun c hc => by rw [hc]; exact fin _
  cases t with
  | leaf ad c =>
    refine OpC.callV rfl rfl rfl rfl rfl rfl rfl (fun _ => level_ok c) ?_
    have := key c rfl
    exact ⟨fun h => ⟨fun _ => (this.t h).ob, ⟨fun _ => (this.t h).k.ob, (this.t h).k.k⟩⟩, fun h => this.f h⟩
  | un ad c l =>
    refine OpC.callV rfl rfl rfl rfl rfl rfl rfl (fun _ => level_ok c) ?_
    have := key c rfl
    exact ⟨fun h => ⟨fun _ => (this.t h).ob, ⟨fun _ => (this.t h).k.ob, (this.t h).k.k⟩⟩, fun h => this.f h⟩
  | bin ad c l r =>
    refine OpC.callV rfl rfl rfl rfl rfl rfl rfl (fun _ => level_ok c) ?_
    have := key c rfl
    exact ⟨fun h => ⟨fun _ => (this.t h).ob, ⟨fun _ => (this.t h).k.ob, (this.t h).k.k⟩⟩, fun h => this.f h⟩
theorem txt_small {a : Int} {t : CT} (h : t.good) (hs : t.sz ≤ 40) : (txt a t).length ≤ 3000 := by
  have := txt_len a t h
  have : 60 * t.sz ≤ 60 * 40 := Nat.mul_le_mul_left _ hs
  omega
set_option maxHeartbeats 2000000 in
theorem text_ok (a : Int) : ∀ t : ATr, t.er.good → t.er.sz ≤ 40 → CtrV Tryz.prog 37 [.i .i64 a, t.ptr] (.s (txt a t.er))
  | .leaf ad c, hg, hs => by
    obtain ⟨hk, hp, hv⟩ := hg
    have hiv := itoa_len hv
    refine Ctr.enterV tabOk (fn := Tryz.f37) rfl rfl rfl rfl rfl rfl ?_
    refine ⟨fun h1 => ?_, fun h1 => ⟨fun h2 => ?_, fun h2 => ?_⟩⟩
    · have h1 : c.k = 1 := of_decide_eq_true h1
      have hct := leaf_t hp h1
      have hit := itoa_len hct
      have hnl := nameF_len a c.r
      refine WpC.dr tabOk mixed 0 ?_
      refine OpD.callV rfl rfl rfl rfl rfl rfl rfl (fun _ => digits_ok c.t hct.1 hct.2) ?_
      refine ⟨fun _ => ?_, ?_⟩
      · show (Lib.itoa c.t).length + 1 ≤ 9223372036854775807
        omega
      refine OpD.callV rfl rfl rfl rfl rfl rfl rfl (fun _ => rname_ok a c.r) ?_
      refine ⟨fun _ => ?_, ⟨fun _ => ?_, ?_⟩⟩
      · show (Lib.itoa c.t ++ [58]).length + (nameF a c.r).length ≤ 9223372036854775807
        simp; omega
      · show ((Lib.itoa c.t ++ [58]) ++ nameF a c.r).length + 1 ≤ 9223372036854775807
        simp; omega
      refine OpD.callV rfl rfl rfl rfl rfl rfl rfl (fun _ => digits_ok c.v hv.1 hv.2) ?_
      refine ⟨fun _ => ?_, ?_⟩
      · show (((Lib.itoa c.t ++ [58]) ++ nameF a c.r) ++ [61]).length + (Lib.itoa c.v).length ≤ 9223372036854775807
        simp; omega
      refine ⟨by kernel_rfl, ?_⟩
      refine s_congr ?_
      show _ = txt a (.leaf c)
      simp only [txt, if_pos h1]
    · have h1 : ¬ c.k = 1 := of_decide_eq_false h1
      have h2 : c.k = 2 := of_decide_eq_true h2
      have hl := parts_loc hp h2
      refine WpC.dr tabOk mixed 0 ?_
      refine OpD.callV rfl rfl rfl rfl rfl rfl rfl (fun _ => rloc_ok c.l (by omega) (by omega)) ?_
      refine ⟨fun _ => ?_, ?_⟩
      · show (locF c.l).length + 1 ≤ 9223372036854775807
        simp [locF]
      refine OpD.callV rfl rfl rfl rfl rfl rfl rfl (fun _ => digits_ok c.v hv.1 hv.2) ?_
      refine ⟨fun _ => ?_, ?_⟩
      · show (locF c.l ++ [61]).length + (Lib.itoa c.v).length ≤ 9223372036854775807
        simp [locF]; omega
      refine ⟨by kernel_rfl, ?_⟩
      refine s_congr ?_
      show _ = txt a (.leaf c)
      simp only [txt, if_neg h1]
    · have h1 : ¬ c.k = 1 := of_decide_eq_false h1
      have h2 : ¬ c.k = 2 := of_decide_eq_false h2
      rcases hk with hk | hk
      · exact absurd hk h1
      · exact absurd hk h2
  | .un ad c l, hg, hs => by
    obtain ⟨hk, hgl⟩ := hg
    have hsl : l.er.sz ≤ 40 := by have : l.er.sz + 1 ≤ 40 := hs; omega
    have ih := text_ok a l hgl hsl
    have hll := txt_small (a := a) hgl hsl
    have hb := brk_len (decide (lvF l.er.c.k < 2)) (txt a l.er)
    refine Ctr.enterV tabOk (fn := Tryz.f37) rfl rfl rfl rfl rfl rfl ?_
    refine ⟨fun h1 => ?_, fun _ => ⟨fun h2 => ?_, fun _ => ⟨fun _ => ?_, fun h3 => ?_⟩⟩⟩
    · have h1 : c.k = 1 := of_decide_eq_true h1
      omega
    · have h2 : c.k = 2 := of_decide_eq_true h2
      omega
    · refine OpC.callV rfl rfl rfl rfl rfl rfl rfl (fun _ => at_ok a l ih hll 2) ?_
      refine ⟨fun _ => ?_, rfl⟩
      show 1 + (brk (decide (lvF l.er.c.k < 2)) (txt a l.er)).length ≤ 9223372036854775807
      omega
    · have h3 : ¬ c.k = 3 := of_decide_eq_false h3
      exact absurd hk h3
  | .bin ad c l r, hg, hs => by
    obtain ⟨hk, hgl, hgr⟩ := hg
    have hss : l.er.sz + r.er.sz + 1 ≤ 40 := hs
    have ihl := text_ok a l hgl (by omega)
    have ihr := text_ok a r hgr (by omega)
    have hll := txt_small (a := a) hgl (by omega)
    have hlr := txt_small (a := a) hgr (by omega)
    refine Ctr.enterV tabOk (fn := Tryz.f37) rfl rfl rfl rfl rfl rfl ?_
    refine ⟨fun h1 => ?_, fun _ => ⟨fun h2 => ?_, fun _ => ⟨fun h3 => ?_, fun _ => ⟨fun h4 => ?_, fun h4 => ?_⟩⟩⟩⟩
    · have h1 : c.k = 1 := of_decide_eq_true h1
      omega
    · have h2 : c.k = 2 := of_decide_eq_true h2
      omega
    · have h3 : c.k = 3 := of_decide_eq_true h3
      omega
    · have h4 : c.k = 4 := of_decide_eq_true h4
      have hb := brk_len (decide (lvF l.er.c.k < 1)) (txt a l.er)
      have hb2 := brk_len (decide (lvF r.er.c.k < 2)) (txt a r.er)
      refine WpC.dr tabOk mixed 0 ?_
      refine OpD.callV rfl rfl rfl rfl rfl rfl rfl (fun _ => at_ok a l ihl hll 1) ?_
      refine ⟨fun _ => ?_, ?_⟩
      · show (brk (decide (lvF l.er.c.k < 1)) (txt a l.er)).length + 4 ≤ 9223372036854775807
        omega
      refine OpD.callV rfl rfl rfl rfl rfl rfl rfl (fun _ => at_ok a r ihr hlr 2) ?_
      refine ⟨fun _ => ?_, ?_⟩
      · show (brk (decide (lvF l.er.c.k < 1)) (txt a l.er) ++ [32, 47, 92, 32]).length + (brk (decide (lvF r.er.c.k < 2)) (txt a r.er)).length ≤ 9223372036854775807
        simp only [List.length_append, List.length_cons, List.length_nil]; omega
      refine ⟨by kernel_rfl, ?_⟩
      refine s_congr ?_
      show _ = txt a (.bin c l.er r.er)
      simp only [txt, if_pos h4]
    · have h4 : ¬ c.k = 4 := of_decide_eq_false h4
      have hb := brk_len (decide (lvF l.er.c.k < 0)) (txt a l.er)
      have hb2 := brk_len (decide (lvF r.er.c.k < 1)) (txt a r.er)
      refine WpC.dr tabOk mixed 0 ?_
      refine OpD.callV rfl rfl rfl rfl rfl rfl rfl (fun _ => at_ok a l ihl hll 0) ?_
      refine ⟨fun _ => ?_, ?_⟩
      · show (brk (decide (lvF l.er.c.k < 0)) (txt a l.er)).length + 4 ≤ 9223372036854775807
        omega
      refine OpD.callV rfl rfl rfl rfl rfl rfl rfl (fun _ => at_ok a r ihr hlr 1) ?_
      refine ⟨fun _ => ?_, ?_⟩
      · show (brk (decide (lvF l.er.c.k < 0)) (txt a l.er) ++ [32, 92, 47, 32]).length + (brk (decide (lvF r.er.c.k < 1)) (txt a r.er)).length ≤ 9223372036854775807
        simp only [List.length_append, List.length_cons, List.length_nil]; omega
      refine ⟨by kernel_rfl, ?_⟩
      refine s_congr ?_
      show _ = txt a (.bin c l.er r.er)
      simp only [txt, if_neg h4]
end SX
end Go.Proofs.YtjpdnkfplnnhhaaGreatDoor

/- Conditions as text: the reference's tree is built; its Print. -/
set_option linter.unusedVariables false
set_option maxRecDepth 100000
namespace Go.Proofs.YtjpdnkfplnnhhaaGreatDoor
namespace SX
open Go Go.Proofs
def tpE (t : ATr) : List SV := [t.ptr]
theorem tpE_w (t : ATr) : wdL (tpE t) = 1 := rfl
def rowT (N : Nat) (ts : List ATr) (ver : Nat) : SB := .mem 82 [.arr N ATr atr0 1 tpE ts] ver 1
theorem bndT {M N ver : Nat} {ts : List ATr} : BndB M (rowT N ts ver) := ⟨fun _ => rfl, trivial⟩
theorem tstk_succ {cs : List Cn} {i N : Nat} {ts : List ATr} {y : ATr} (hx : ts.map ATr.er = stkG mkT cs i) (hN : ts.length = N) (h0 : 0 ≤ partsF (cs.getD i cn0)) (h1 : partsF (cs.getD i cn0) ≤ N) (h2 : N ≤ 1000)
    (hy : y.er = mkT (cs.getD i cn0) (((ts.map ATr.er).drop (kAt N (cs.getD i cn0)).toNat).take (N - (kAt N (cs.getD i cn0)).toNat))) : (ts.take (kAt N (cs.getD i cn0)).toNat ++ [y]).map ATr.er = stkG mkT cs (i + 1) := by
  rw [← stkG_succ hx (by rw [List.length_map]; exact hN) h0 h1 h2, List.map_append, List.map_take, List.map_cons, List.map_nil, hy]
theorem tlast {ts : List ATr} {N k K : Nat} {c : Cn} {ad : Addr} (hN : ts.length = N) (hk : 0 + k = N - 1) (h1 : 1 ≤ N) (hK : K = N - 1) : (ATr.un ad c (ts.getD (0 + k) atr0)).er = mkT c (((ts.map ATr.er).drop K).take (N - K)) := by
  subst hK
  have hlt : N - 1 < ts.length := by omega
  have : (ts.map ATr.er).drop (N - 1) = [(ts.getD (0 + k) atr0).er] := by
    rw [hk, List.drop_eq_getElem_cons (by simpa using hlt), List.drop_eq_nil_of_le (by simp; omega)]
    simp [List.getD_eq_getElem?_getD, List.getElem?_eq_getElem hlt]
  rw [this, List.take_of_length_le (by simp; omega)]
  rfl
theorem ttwo {ts : List ATr} {N k k2 K : Nat} {c : Cn} {ad : Addr} (hN : ts.length = N) (hk : 0 + k = N - 2) (hk2 : 0 + k2 = N - 1) (h1 : 2 ≤ N) (hK : K = N - 2) : (ATr.bin ad c (ts.getD (0 + k) atr0) (ts.getD (0 + k2) atr0)).er = mkT c (((ts.map ATr.er).drop K).take (N - K)) := by
  subst hK
  have hlt : N - 2 < ts.length := by omega
  have hlt2 : N - 2 + 1 < ts.length := by omega
  have : (ts.map ATr.er).drop (N - 2) = [(ts.getD (0 + k) atr0).er, (ts.getD (0 + k2) atr0).er] := by
    have e : N - 1 = N - 2 + 1 := by omega
    rw [hk, hk2, e, List.drop_eq_getElem_cons (by simpa using hlt), List.drop_eq_getElem_cons (by simpa using hlt2), List.drop_eq_nil_of_le (by simp; omega)]
    simp [List.getD_eq_getElem?_getD, List.getElem?_eq_getElem hlt, List.getElem?_eq_getElem hlt2]
  rw [this, List.take_of_length_le (by simp; omega)]
  rfl
theorem tnone {ts : List ATr} {N K : Nat} {c : Cn} {ad : Addr} (hN : ts.length = N) (hK : K = N) : (ATr.leaf ad c).er = mkT c (((ts.map ATr.er).drop K).take (N - K)) := by
  subst hK
  simp [ATr.er, mkT]
set_option maxHeartbeats 2000000 in
theorem build_ok (cs : List Cn) (ad : Option Addr) (cap : Nat) (hr : okAt cs cs.length) (h1 : 1 ≤ cs.length) (h32 : cs.length ≤ 32) :
    Ctr Tryz.prog 38 [.imm Cn cn0 5 cenc cs ad cap] [] (fun r h => (∃ ts : List ATr, ts.map ATr.er = stkG mkT cs cs.length ∧ r = (ts.getD 0 atr0).ptr) ∧ h = []) := by
  have key : Ctr Tryz.prog 38 [.imm Cn cn0 5 cenc cs ad cap] [] (fun r h => ∃ ts : List ATr, ts.map ATr.er = stkG mkT cs cs.length ∧ r = (ts.getD 0 atr0).ptr) := by
    refine Ctr.enter tabOk (fn := Tryz.f38) rfl rfl rfl rfl rfl ?_
    refine WpC.shift (Shift.row (d := 3) rfl 0 82 [.arr 0 ATr atr0 1 tpE []] (fun E => rfl) (fun m V => ⟨⟨rfl, rfl, tpE_w, fun j hj => by omega⟩, trivial⟩)) ?_
    refine WpC.loop tabOk (β := Nat × Nat × List ATr) (fun b => b.1 ≤ cs.length ∧ b.2.2.map ATr.er = stkG mkT cs b.1 ∧ b.2.2.length = b.2.1) (fun b => [(4, .i .i64 b.1), (3, .sl 0 b.1 0 b.2.1 none 0)]) (fun b => [rowT b.2.1 b.2.2 b.1]) (fun b => cs.length - b.1) (0, 0, []) 9223372036854775800 ⟨Nat.zero_le _, rfl, rfl⟩ ?_ ?_
    · exact ⟨rfl, ⟨⟨rfl, rfl, rfl⟩, ⟨rfl, rfl, rfl⟩, trivial⟩, ⟨[], rfl⟩, ⟨bndT, trivial⟩, rfl⟩
    · rintro ⟨i, N, ts⟩ ⟨hi, hx, hN⟩
      simp only at hi hx hN
      have hoi : okAt cs i := fun j hj => hr j (by omega)
      have hnl := stkG_len (g := mkT) hoi
      rw [← hx, List.length_map, hN] at hnl
      have hnb := nAt_bd hoi
      refine ⟨fun h2 => ?_, fun h2 => ?_⟩
      · have h2 : i < cs.length := by
          have h2 : decide ((i : Int) < cs.length) = true := h2
          simpa using h2
        have hp := hr i h2
        rw [← hnl] at hp
        have hk := kAt_eq (N := N) (c := cs.getD i cn0) hp.1 hp.2 (by omega)
        refine ⟨fun _ => ⟨by omega, by omega⟩, ?_⟩
        refine ⟨fun _ => ⟨by omega, by omega⟩, ?_⟩
        refine OpC.callV rfl rfl rfl rfl rfl rfl rfl (fun _ => one_ok (cs.getD i cn0)) ?_
        refine ⟨fun h3 => ?_, fun h3 => ⟨fun h4 => ?_, fun h4 => ?_⟩⟩
        · have h3 : partsF (cs.getD i cn0) = 1 := of_decide_eq_true h3
          have hw1 : IntKind.i64.wrap ((N : Int) - 1) = (N : Int) - 1 := wrap64 (by omega) (by omega)
          refine ⟨fun _ => ?_, ⟨fun _ => ?_, ?_⟩⟩
          · show 0 = 0 * 1 ∧ 0 ≤ IntKind.i64.wrap ((N : Int) - 1) ∧ IntKind.i64.wrap ((N : Int) - 1) < N
            rw [hw1]; omega
          · show i = i ∧ 0 + (IntKind.i64.wrap ((N : Int) - 1)).toNat < N
            rw [hw1]; omega
          refine ⟨fun h4 => absurd (of_decide_eq_true h4) (by rw [h3]; decide), fun _ => ?_⟩
          refine ⟨fun _ => ?_, ?_⟩
          · show ((i = i ∧ 1 = 1 ∧ 0 < 1) ∧ 0 = 0 * 1 ∧ (0 + N) * 1 ≤ N * 1 + 0) ∧ 0 ≤ kAt N (cs.getD i cn0) ∧ kAt N (cs.getD i cn0) ≤ N
            omega
          refine OpC.stillP 1 2 rfl rfl (by decide) rfl rfl fun ad2 => ?_
          refine OpC.yld 0 rfl (yld_app_trim tabOk (k := 0) (N := N) (M := (kAt N (cs.getD i cn0)).toNat) rfl rfl rfl rfl rfl rfl rfl rfl (by show (kAt N (cs.getD i cn0)).toNat ≤ N; omega) rfl (SrcA.sl rfl rfl rfl rfl (by decide) rfl) (show 0 ∉ [2] by decide) (Joins.arrN (y := ATr.un ad2 (cs.getD i cn0) (ts.getD (0 + (IntKind.i64.wrap ((N : Int) - 1)).toNat) atr0)) ?_ rfl tpE_w) (by decide) ?_ ?_) (fun d hd => by cases hd; rfl) ?_
          · show (ts.take (kAt N (cs.getD i cn0)).toNat).length = (kAt N (cs.getD i cn0)).toNat
            rw [List.length_take]; omega
          · exact Nat.le_trans (show (kAt N (cs.getD i cn0)).toNat + 1 ≤ 1000 by omega) (by decide)
          · show ((kAt N (cs.getD i cn0)).toNat + 1) * 8 ≤ 140737488355328
            omega
          refine ⟨(i + 1, (kAt N (cs.getD i cn0)).toNat + 1, _), ⟨h2, tstk_succ hx hN hp.1 hp.2 (by omega) ?_, ?_⟩, ?_, rfl, ⟨⟨?_, rfl, rfl⟩, ⟨rfl, rfl, rfl⟩, trivial⟩, ⟨_, rfl⟩, ⟨bndT, trivial⟩, rfl⟩
          · exact tlast hN (by rw [hw1]; omega) (by omega) (by omega)
          · show (ts.take (kAt N (cs.getD i cn0)).toNat ++ [_]).length = (kAt N (cs.getD i cn0)).toNat + 1
            rw [List.length_append, List.length_take, List.length_singleton]; omega
          · show cs.length - (i + 1) < cs.length - i
            omega
          · show SV.i .i64 (IntKind.i64.wrap ((i : Int) + 1)) = SV.i .i64 ((i + 1 : Nat) : Int)
            rw [wrap64 (by omega) (by omega)]; rfl
        · have h3 : ¬ partsF (cs.getD i cn0) = 1 := of_decide_eq_false h3
          have h4 : partsF (cs.getD i cn0) = 2 := of_decide_eq_true h4
          have hw1 : IntKind.i64.wrap ((N : Int) - 1) = (N : Int) - 1 := wrap64 (by omega) (by omega)
          have hw2 : IntKind.i64.wrap ((N : Int) - 2) = (N : Int) - 2 := wrap64 (by omega) (by omega)
          refine ⟨fun _ => ?_, ⟨fun _ => ?_, ?_⟩⟩
          · show 0 = 0 * 1 ∧ 0 ≤ IntKind.i64.wrap ((N : Int) - 2) ∧ IntKind.i64.wrap ((N : Int) - 2) < N
            rw [hw2]; omega
          · show i = i ∧ 0 + (IntKind.i64.wrap ((N : Int) - 2)).toNat < N
            rw [hw2]; omega
          refine ⟨fun _ => ?_, ⟨fun _ => ?_, ?_⟩⟩
          · show 0 = 0 * 1 ∧ 0 ≤ IntKind.i64.wrap ((N : Int) - 1) ∧ IntKind.i64.wrap ((N : Int) - 1) < N
            rw [hw1]; omega
          · show i = i ∧ 0 + (IntKind.i64.wrap ((N : Int) - 1)).toNat < N
            rw [hw1]; omega
          refine ⟨fun _ => ?_, ?_⟩
          · show ((i = i ∧ 1 = 1 ∧ 0 < 1) ∧ 0 = 0 * 1 ∧ (0 + N) * 1 ≤ N * 1 + 0) ∧ 0 ≤ kAt N (cs.getD i cn0) ∧ kAt N (cs.getD i cn0) ≤ N
            omega
          refine OpC.stillP 1 2 rfl rfl (by decide) rfl rfl fun ad2 => ?_
          refine OpC.yld 0 rfl (yld_app_trim tabOk (k := 0) (N := N) (M := (kAt N (cs.getD i cn0)).toNat) rfl rfl rfl rfl rfl rfl rfl rfl (by show (kAt N (cs.getD i cn0)).toNat ≤ N; omega) rfl (SrcA.sl rfl rfl rfl rfl (by decide) rfl) (show 0 ∉ [2] by decide) (Joins.arrN (y := ATr.bin ad2 (cs.getD i cn0) (ts.getD (0 + (IntKind.i64.wrap ((N : Int) - 2)).toNat) atr0) (ts.getD (0 + (IntKind.i64.wrap ((N : Int) - 1)).toNat) atr0)) ?_ rfl tpE_w) (by decide) ?_ ?_) (fun d hd => by cases hd; rfl) ?_
          · show (ts.take (kAt N (cs.getD i cn0)).toNat).length = (kAt N (cs.getD i cn0)).toNat
            rw [List.length_take]; omega
          · exact Nat.le_trans (show (kAt N (cs.getD i cn0)).toNat + 1 ≤ 1000 by omega) (by decide)
          · show ((kAt N (cs.getD i cn0)).toNat + 1) * 8 ≤ 140737488355328
            omega
          refine ⟨(i + 1, (kAt N (cs.getD i cn0)).toNat + 1, _), ⟨h2, tstk_succ hx hN hp.1 hp.2 (by omega) ?_, ?_⟩, ?_, rfl, ⟨⟨?_, rfl, rfl⟩, ⟨rfl, rfl, rfl⟩, trivial⟩, ⟨_, rfl⟩, ⟨bndT, trivial⟩, rfl⟩
          · exact ttwo hN (by rw [hw2]; omega) (by rw [hw1]; omega) (by omega) (by omega)
          · show (ts.take (kAt N (cs.getD i cn0)).toNat ++ [_]).length = (kAt N (cs.getD i cn0)).toNat + 1
            rw [List.length_append, List.length_take, List.length_singleton]; omega
          · show cs.length - (i + 1) < cs.length - i
            omega
          · show SV.i .i64 (IntKind.i64.wrap ((i : Int) + 1)) = SV.i .i64 ((i + 1 : Nat) : Int)
            rw [wrap64 (by omega) (by omega)]; rfl
        · have h3 : ¬ partsF (cs.getD i cn0) = 1 := of_decide_eq_false h3
          have h4 : ¬ partsF (cs.getD i cn0) = 2 := of_decide_eq_false h4
          have hle := (partsF_le (cs.getD i cn0)).2
          refine ⟨fun _ => ?_, ?_⟩
          · show ((i = i ∧ 1 = 1 ∧ 0 < 1) ∧ 0 = 0 * 1 ∧ (0 + N) * 1 ≤ N * 1 + 0) ∧ 0 ≤ kAt N (cs.getD i cn0) ∧ kAt N (cs.getD i cn0) ≤ N
            omega
          refine OpC.stillP 1 2 rfl rfl (by decide) rfl rfl fun ad2 => ?_
          refine OpC.yld 0 rfl (yld_app_trim tabOk (k := 0) (N := N) (M := (kAt N (cs.getD i cn0)).toNat) rfl rfl rfl rfl rfl rfl rfl rfl (by show (kAt N (cs.getD i cn0)).toNat ≤ N; omega) rfl (SrcA.sl rfl rfl rfl rfl (by decide) rfl) (show 0 ∉ [2] by decide) (Joins.arrN (y := ATr.leaf ad2 (cs.getD i cn0)) ?_ rfl tpE_w) (by decide) ?_ ?_) (fun d hd => by cases hd; rfl) ?_
          · show (ts.take (kAt N (cs.getD i cn0)).toNat).length = (kAt N (cs.getD i cn0)).toNat
            rw [List.length_take]; omega
          · exact Nat.le_trans (show (kAt N (cs.getD i cn0)).toNat + 1 ≤ 1000 by omega) (by decide)
          · show ((kAt N (cs.getD i cn0)).toNat + 1) * 8 ≤ 140737488355328
            omega
          refine ⟨(i + 1, (kAt N (cs.getD i cn0)).toNat + 1, _), ⟨h2, tstk_succ hx hN hp.1 hp.2 (by omega) ?_, ?_⟩, ?_, rfl, ⟨⟨?_, rfl, rfl⟩, ⟨rfl, rfl, rfl⟩, trivial⟩, ⟨_, rfl⟩, ⟨bndT, trivial⟩, rfl⟩
          · exact tnone hN (by omega)
          · show (ts.take (kAt N (cs.getD i cn0)).toNat ++ [_]).length = (kAt N (cs.getD i cn0)).toNat + 1
            rw [List.length_append, List.length_take, List.length_singleton]; omega
          · show cs.length - (i + 1) < cs.length - i
            omega
          · show SV.i .i64 (IntKind.i64.wrap ((i : Int) + 1)) = SV.i .i64 ((i + 1 : Nat) : Int)
            rw [wrap64 (by omega) (by omega)]; rfl
      · have h2 : i = cs.length := by
          have h2 : decide ((i : Int) < cs.length) = false := h2
          simp at h2; omega
        subst h2
        refine ⟨fun _ => ?_, ?_⟩
        · show 0 = 0 * 1 ∧ (0 : Int) ≤ 0 ∧ (0 : Int) < N
          have := hnb.2.2 (by omega)
          omega
        · refine ⟨fun _ => ⟨rfl, ?_⟩, ts, hx, ?_⟩
          · show 0 + Int.toNat 0 < N
            have := hnb.2.2 (by omega)
            have : Int.toNat 0 = 0 := rfl
            omega
          · rfl
  exact key.trim callX_m fun r H1 ⟨ts, h2, h3⟩ => ⟨[], H1, rfl, Nat.zero_le _, trivial, by rw [h3]; exact rfl, ⟨ts, h2, h3⟩, rfl⟩
end SX
end Go.Proofs.YtjpdnkfplnnhhaaGreatDoor

/- A run of the program, as a memo. Made by memo.py. -/
set_option maxRecDepth 100000
namespace Go.Proofs.YtjpdnkfplnnhhaaGreatDoor
namespace SX
open Go Go.Proofs
def CdAble : Memo := ⟨11,
  [],
  [],
  (.b
  .true),
  []⟩
theorem CdAble_ok : MemoOk Tryz.prog CdAble := memo_of (tr := treeF) (ft := ftree) (ms := []) (n := 40) tabOkF ftOk mixed (by intro m hm; cases hm) (by decide +kernel)
end SX
end Go.Proofs.YtjpdnkfplnnhhaaGreatDoor

/- CondPrints: the law's contract. -/
set_option linter.unusedVariables false
set_option maxRecDepth 100000
namespace Go.Proofs.YtjpdnkfplnnhhaaGreatDoor
namespace SX
open Go Go.Proofs
theorem rprint_ok (a : Int) (cs : List Cn) (ad : Option Addr) (cap : Nat) (hv : ∀ j, in64 (cs.getD j cn0).v) : CtrV Tryz.prog 18 [.i .i64 a, .imm Cn cn0 5 cenc cs ad cap] (prV (printR a cs)) := by
  refine Ctr.enterV tabOk (fn := Tryz.f18) rfl rfl rfl rfl rfl rfl ?_
  refine ⟨fun h1 => ?_, fun h1 => ?_⟩
  · have h1 : (decide (a < 1) || decide ((3 : Int) < a)) = true := h1
    simp only [Bool.or_eq_true, decide_eq_true_eq] at h1
    show _ = prV (printR a cs)
    rw [printR_arch (by omega)]
    rfl
  have h1 : (decide (a < 1) || decide ((3 : Int) < a)) = false := h1
  simp only [Bool.or_eq_false_iff, decide_eq_false_iff_not] at h1
  have ha : a = 1 ∨ a = 2 ∨ a = 3 := by omega
  refine OpC.callV rfl rfl rfl rfl rfl rfl rfl (fun _ => rright_ok cs ad cap) ?_
  refine ⟨fun h2 => ?_, fun h2 => ?_⟩
  · have h2 : (!rightB cs) = true := h2
    show _ = prV (printR a cs)
    rw [printR_form ha (by simpa using h2)]
    rfl
  · have h2 : (!rightB cs) = false := h2
    have h2 : rightB cs = true := by simpa using h2
    obtain ⟨⟨q1, q2⟩, q3, q4⟩ := rightP_of h2
    obtain ⟨s1, s2⟩ := stkT_ok hv q3
    obtain ⟨t, ht⟩ := right_one h2
    refine OpC.callL rfl rfl rfl rfl [] 0 rfl rfl rfl (build_ok cs ad cap q3 q1 q2) rfl rfl rfl rfl trivial rfl (fun r H' hk => ?_) ?_
    · rw [hk.2]; exact ⟨Nat.zero_le _, Nat.le_refl _⟩
    rintro r H' ⟨⟨ts, e1, rfl⟩, rfl⟩
    have he : (ts.getD 0 atr0).er = t := by
      rw [ht] at e1
      match ts, e1 with
      | [x], e1 => simpa using e1
      | [], e1 => simp at e1
      | _ :: _ :: _, e1 => simp at e1
    have hg : t.good := s2 t (by rw [ht]; simp)
    have hs : t.sz ≤ 40 := by
      rw [ht] at s1
      simp at s1
      omega
    refine OpC.callV rfl rfl rfl rfl rfl rfl rfl (fun _ => text_ok a (ts.getD 0 atr0) (by rw [he]; exact hg) (by rw [he]; exact hs)) ?_
    show _ = prV (printR a cs)
    rw [printR_ok ha h2]
    unfold printF
    rw [ht, he]
    rfl
theorem prints_able : CtrV Tryz.prog 11 [] (.b true) := CdAble_ok
theorem prints_ok (a : Int) (cs : List Cn) (ad : Option Addr) (cap : Nat) (hv : ∀ j, in64 (cs.getD j cn0).v) : CtrV Tryz.prog 4 [.i .i64 a, .imm Cn cn0 5 cenc cs ad cap] (.b true) := by
  refine Ctr.enterV tabOk (fn := Tryz.f4) rfl rfl rfl rfl rfl rfl ?_
  refine OpC.callV rfl rfl rfl rfl rfl rfl rfl (fun _ => prints_able) ?_
  refine ⟨fun h => absurd h (by decide), fun _ => ⟨fun _ => rfl, fun h1 => ?_⟩⟩
  have h1 : cs.length ≤ 4000 := by
    have h1 : decide ((4000 : Int) < cs.length) = false := h1
    simp at h1; omega
  refine OpC.yld 1 rfl (yld_app_lit tabOk rfl rfl rfl rfl rfl rfl rfl rfl (fun E => rfl) (SrcA.imm rfl rfl rfl) (p := 1) rfl Joins.nil (Nat.le_trans h1 (by decide)) (by show cs.length * 40 ≤ 140737488355328; omega)) (fun d hd => by cases hd; rfl) ?_
  refine OpC.still (enc := cenc) (ys := cs) 18 (k := 1) (i := 0) (len := cs.length) rfl rfl rfl (by decide) rfl (by omega) cenc_w cenc_ok (by simp) fun ad1 cp1 => ?_
  refine OpC.callV rfl rfl rfl rfl rfl rfl rfl (fun _ => print_ok a cs (some ad1) cp1 hv) ?_
  refine OpC.callV rfl rfl rfl rfl rfl rfl rfl (fun _ => rprint_ok a cs ad cap hv) ?_
  refine b_congr ?_
  show (decide ((printR a cs).1 = (printR a cs).1) && decide ((printR a cs).2 = (printR a cs).2)) = true
  simp
end SX
end Go.Proofs.YtjpdnkfplnnhhaaGreatDoor

/- SX: rows: slices and structs of plain cells, opened. -/
set_option linter.unusedVariables false
set_option linter.unusedSimpArgs false
namespace Go.Proofs.YtjpdnkfplnnhhaaGreatDoor
namespace SX
open Go Go.ChangeShapes Go.WideShapes

/-- What a cell of a kind may hold. -/
def LKv : LK → Value → Prop
  | .i k, v => ∃ n, v = .int k n ∧ (Lit.int k n).wf = true
  | .b, v => ∃ b, v = .bool b
  | .s, v => ∃ s : ByteArray, v = .string s ∧ s.size ≤ maxLen
def LKs : List LK → List Value → Prop
  | [], [] => True
  | k :: ls, v :: cs => LKv k v ∧ LKs ls cs
  | _, _ => False
theorem LKs.len : ∀ {ls : List LK} {cs : List Value}, LKs ls cs → cs.length = ls.length
  | [], [], _ => rfl
  | k :: ls, v :: cs, h => by simp only [LKs] at h; simp [LKs.len h.2]
  | [], _ :: _, h => h.elim
  | _ :: _, [], h => h.elim
theorem LKs.app : ∀ {ls rs : List LK} {cs ds : List Value}, LKs ls cs → LKs rs ds → LKs (ls ++ rs) (cs ++ ds)
  | [], rs, [], ds, _, h => h
  | k :: ls, rs, v :: cs, ds, h, h' => by simp only [LKs, List.cons_append] at h ⊢; exact ⟨h.1, LKs.app h.2 h'⟩
  | [], _, _ :: _, _, h, _ => h.elim
  | _ :: _, _, [], _, h, _ => h.elim
theorem LKs_rep {ls : List LK} {m : Nat} (hm : ls.length = m) : ∀ (n : Nat) (cs : List Value), cs.length = n * m → (∀ i, i < n → LKs ls ((cs.drop (i * m)).take m)) → LKs (rep n ls) cs
  | 0, cs, hl, _ => by
    have : cs = [] := List.eq_nil_of_length_eq_zero (by omega)
    subst this; simp [rep, LKs]
  | n + 1, cs, hl, h => by
    have h0 := h 0 (by omega)
    rw [Nat.zero_mul, List.drop_zero] at h0
    have h1 := LKs_rep hm n (cs.drop m) (by rw [List.length_drop, hl, Nat.succ_mul]; omega) fun i hi => by
      have := h (i + 1) (by omega)
      rw [List.drop_drop, show m + i * m = (i + 1) * m by rw [Nat.succ_mul, Nat.add_comm]]
      exact this
    have := h0.app h1
    rw [List.take_append_drop] at this
    simpa only [rep] using this
section
variable {H : Type} {enc : TypeId × Value → H} {P : Program} {w : World} {base : Nat} {spare : Nat → Bool} {held : Bool}
mutual
theorem trod_flat : ∀ (f : Nat) (t : TypeId) (ls : List LK), shape P f t = some ls → P.cellsOf t = ls.length → ∀ (fuel : Nat) (cs : List Value) (x : DataW H × List MemPlace), DataW.trod enc P w base spare held fuel t cs = some x → LKs ls cs
  | 0, t, ls, h, _, _, _, _, _ => by simp [shape] at h
  | f + 1, t, ls, h, hc, fuel, cs, x, hx => by
    unfold shape at h
    cases hu : P.underlying t with
    | none => simp [hu] at h
    | some d =>
      rw [hu] at h
      cases d <;> simp only at h <;> try (cases h; done)
      case bool =>
        cases h
        obtain ⟨b, rfl, _⟩ := DataW.trod_bool hu hx
        exact ⟨⟨b, rfl⟩, trivial⟩
      case int k =>
        cases h
        obtain ⟨n, rfl, _, hw⟩ := DataW.trod_int hu hx
        exact ⟨⟨n, rfl, hw⟩, trivial⟩
      case string =>
        cases h
        obtain ⟨s, rfl, _, hw⟩ := DataW.trod_string hu hx
        exact ⟨⟨s, rfl, hw⟩, trivial⟩
      case struct fs =>
        cases hsh : P.stoodInHeld t with
        | true => rw [hsh] at h; cases h
        | false =>
          rw [hsh] at h
          simp only [cond_false] at h
          obtain ⟨xs, n, rfl, _, hl, hxl, hg⟩ := DataW.trod_struct hu hx
          have := trod_flatF f 0 fs.toList ls h n cs (fun i fl hi => by
            have hi' : fs[i]? = some fl := by simpa using hi
            have hlt : i < xs.length := by
              rw [hxl]
              rcases Nat.lt_or_ge i fs.size with h | h
              · exact h
              · rw [Array.getElem?_eq_none h] at hi'; cases hi'
            exact ⟨_, (hg i fl hi').trans (List.getElem?_eq_getElem hlt)⟩) (by omega)
          rw [List.drop_zero, List.take_of_length_le (by omega)] at this
          exact this
      case array n e =>
        cases hs : shape P f e with
        | none => rw [hs] at h; cases h
        | some es =>
          rw [hs] at h
          simp only at h
          cases hb : Nat.beq (P.cellsOf e) es.length with
          | false => rw [hb] at h; cases h
          | true =>
            rw [hb] at h
            simp only [cond_true, Option.some.injEq] at h
            subst h
            have hce := Nat.eq_of_beq_eq_true hb
            obtain ⟨xs, m, rfl, _, hl, hxl, hg⟩ := DataW.trod_array hu hx
            refine LKs_rep hce.symm n cs (by rw [hl, hc, rep_length, hce]) fun i hi => ?_
            have hlt : i < xs.length := by omega
            exact trod_flat f e es hs hce m _ _ ((hg i hi).trans (List.getElem?_eq_getElem hlt))
theorem trod_flatF : ∀ (f off : Nat) (fs : List Field) (ls : List LK), shapeF P f off fs = some ls → ∀ (n : Nat) (cs : List Value), (∀ (i : Nat) (fl : Field), fs[i]? = some fl → ∃ y, DataW.trod enc P w base spare held n fl.type ((cs.drop fl.offset).take (P.cellsOf fl.type)) = some y) → off + ls.length ≤ cs.length → LKs ls ((cs.drop off).take ls.length)
  | f, off, [], ls, h, n, cs, _, _ => by
    unfold shapeF at h
    simp only [Option.some.injEq] at h
    subst h
    simp [LKs]
  | 0, off, _ :: _, ls, h, _, _, _, _ => by simp [shapeF] at h
  | f + 1, off, x :: r, ls, h, n, cs, hg, hl => by
    unfold shapeF at h
    cases hc : (x.name == "_" || !(Nat.beq x.offset off)) with
    | true => rw [hc] at h; cases h
    | false =>
      rw [hc] at h
      simp only [cond_false] at h
      simp only [Bool.or_eq_false_iff, Bool.not_eq_false'] at hc
      have hoff := Nat.eq_of_beq_eq_true hc.2
      cases hs : shape P f x.type with
      | none => rw [hs] at h; cases h
      | some es =>
        rw [hs] at h
        simp only at h
        cases hb : Nat.beq (P.cellsOf x.type) es.length with
        | false => rw [hb] at h; cases h
        | true =>
          rw [hb] at h
          simp only [cond_true] at h
          have hce := Nat.eq_of_beq_eq_true hb
          cases hr : shapeF P f (off + es.length) r with
          | none => rw [hr] at h; cases h
          | some rs =>
            rw [hr] at h
            simp only [Option.some.injEq] at h
            subst h
            rw [List.length_append] at hl
            obtain ⟨y, hy⟩ := hg 0 x rfl
            have h1 := trod_flat f x.type es hs hce n _ _ hy
            rw [hoff, hce] at h1
            have h2 := trod_flatF f (off + es.length) r rs hr n cs (fun i fl hi => hg (i + 1) fl (by simpa using hi)) (by omega)
            have := h1.app h2
            rw [← List.drop_drop, ← List.take_add, ← List.length_append] at this
            exact this
end
/-- A slice of plain elements, opened: its rows. -/
theorem open_rows {r : Reach} {b0 f : Nat} {t e : TypeId} {ls : List LK} {v : Value} {d : DataW H} {p : List MemPlace} (ht : P.underlying t = some (.slice e)) (hsh : shape P f e = some ls) (hc : P.cellsOf e = ls.length) (hpos : 0 < ls.length)
    (hv : Value.okWide P w r b0 t v) (h : DataW.Trod enc P w base spare held t v d p) :
    ∃ (rows : List (List Value)) (a : Option Addr) (cap : Nat), v = .slice a rows.length cap ∧ rows.length ≤ cap ∧ cap ≤ maxLen ∧ (∀ row ∈ rows, LKs ls row) ∧
      (rows ≠ [] → ∃ ad arr ty fr, a = some ad ∧ ad.spot = none ∧ w.heap[ad.block]? = some (.cells arr ty fr) ∧ ∀ j row, rows[j]? = some row → ∀ u c, row[u]? = some c → arr[ad.off + j * ls.length + u]? = some c) := by
  obtain ⟨fuel, hn⟩ := h
  obtain ⟨a0, l0, c0, rfl⟩ := okWide_slice ht hv
  rcases DataW.trod_slice ht hn with ⟨e1, _⟩ | ⟨a, len, cap, elems, rest, n, rfl, e1, _, _, h1, h2, h3, h4, _⟩
  · simp only [Value.cells, List.cons.injEq, Value.slice.injEq, and_true] at e1
    obtain ⟨rfl, rfl, rfl⟩ := e1
    exact ⟨[], none, 0, rfl, Nat.le_refl _, Nat.zero_le _, fun row hr => (by cases hr), fun h => absurd rfl h⟩
  · simp only [Value.cells, List.cons.injEq, Value.slice.injEq, and_true] at e1
    obtain ⟨rfl, rfl, rfl⟩ := e1
    have hrow : ∀ j, j < l0 → ∃ row y, w.cells? base (a.add (j * P.cellsOf e)) (P.cellsOf e) = some row ∧ DataW.trod enc P w base spare held n e row = some y := fun j hj => by
      have := h4 j hj
      rw [List.getElem?_eq_getElem (by omega)] at this
      obtain ⟨row, q1, q2⟩ := Option.bind_eq_some_iff.1 this
      exact ⟨row, _, q1, q2⟩
    have hget : ∀ j, j < l0 → ((List.range l0).map fun j => (w.cells? base (a.add (j * P.cellsOf e)) (P.cellsOf e)).getD [])[j]? = some ((w.cells? base (a.add (j * P.cellsOf e)) (P.cellsOf e)).getD []) := fun j hj => by
      rw [List.getElem?_map, List.getElem?_range hj]; rfl
    have hcell : ∀ j, j < l0 → ∀ u c, ((w.cells? base (a.add (j * P.cellsOf e)) (P.cellsOf e)).getD [])[u]? = some c → u < P.cellsOf e ∧ w.cell? ((a.add (j * P.cellsOf e)).add u) = some c := fun j hj u c hu => by
      obtain ⟨row, y, q1, q2⟩ := hrow j hj
      rw [q1] at hu
      simp only [Option.getD_some] at hu
      unfold World.cells? at q1
      split at q1
      · have hl := mapM_some_length q1
        have hlt : u < row.length := (List.getElem?_eq_some_iff.1 hu).1
        have hlt2 : u < P.cellsOf e := by simpa [hl] using hlt
        have := mapM_some_get q1 u u (by simp [hlt2])
        exact ⟨hlt2, by rw [this, hu]⟩
      · cases q1
    refine ⟨(List.range l0).map fun j => (w.cells? base (a.add (j * P.cellsOf e)) (P.cellsOf e)).getD [], some a, c0, by simp, by simp; omega, by omega, fun row hr => ?_, fun hne => ?_⟩
    · obtain ⟨j, hj, rfl⟩ := List.mem_map.1 hr
      obtain ⟨row, y, q1, q2⟩ := hrow j (by simpa using hj)
      rw [q1]
      exact trod_flat f e ls hsh hc n row y q2
    · have hl0 : 0 < l0 := by
        rcases Nat.eq_zero_or_pos l0 with h | h
        · subst h; exact absurd rfl hne
        · exact h
      obtain ⟨row, y, q1, q2⟩ := hrow 0 hl0
      have hrl := (trod_flat f e ls hsh hc n row y q2).len
      have h00 := (hcell 0 hl0 0 (row[0]'(by omega)) (by rw [q1]; simp)).2
      have ha0 : a.add 0 = a := by simp [Addr.add]
      rw [Nat.zero_mul, ha0, ha0] at h00
      have hsp := World.cell?_spot h00
      have hadd : ∀ k, (a.add k).spot = none ∧ (a.add k).block = a.block ∧ (a.add k).off = a.off + k := fun k => by
        unfold Addr.add
        split
        · rename_i h; subst h; exact ⟨hsp, rfl, rfl⟩
        · exact ⟨rfl, rfl, rfl⟩
      have hadd2 : ∀ k u, (a.add k).add u = ⟨a.block, a.off + k + u, none⟩ := fun k u => by
        obtain ⟨g1, g2, g3⟩ := hadd k
        unfold Addr.add at g1 g2 g3 ⊢
        split
        · rename_i h
          subst h
          simp only [Nat.add_zero]
          split
          · rename_i h; subst h
            cases a; simp only at hsp; subst hsp; rfl
          · rfl
        · split
          · rename_i h; subst h; simp
          · rfl
      have h00' := h00
      unfold World.cell? at h00'
      split at h00'
      · rename_i arr ty fr hblk
        refine ⟨a, arr, ty, fr, rfl, hsp, hblk, fun j row hj u c hu => ?_⟩
        have hjl : j < l0 := by have := (List.getElem?_eq_some_iff.1 hj).1; simpa using this
        rw [hget j hjl] at hj
        cases hj
        have h5 := (hcell j hjl u c hu).2
        rw [hadd2] at h5
        unfold World.cell? at h5
        rw [hblk] at h5
        simp only [Option.isSome_none, Bool.false_eq_true, if_false] at h5
        rw [← hc]; exact h5
      · cases h00'
/-- .. as an immutable slice. -/
theorem open_imm {r : Reach} {b0 f : Nat} {t e : TypeId} {ls : List LK} {v : Value} {dd : DataW H} {p : List MemPlace} (ht : P.underlying t = some (.slice e)) (hsh : shape P f e = some ls) (hc : P.cellsOf e = ls.length) (hpos : 0 < ls.length)
    {α : Type} (d : α) {n : Nat} (en : α → List SV) (hn : ls.length = n) (hw : ∀ x, wdL (en x) = n) (hok : ∀ x m, OkL m [] (en x)) (hdec : ∀ row, LKs ls row → ∃ x, row = cellsL E0 (en x))
    (hv : Value.okWide P w r b0 t v) (h : DataW.Trod enc P w base spare held t v dd p) :
    ∃ (xs : List α) (a : Option Addr) (cap : Nat) (S : Nat → Bool), v = den (fun _ _ => none) (.imm α d n en xs a cap) ∧ Ok (memOf w S) [] (.imm α d n en xs a cap) ∧ xs.length ≤ maxLen := by
  obtain ⟨rows, a, cap, rfl, h1, h2, h3, h4⟩ := open_rows ht hsh hc hpos hv h
  have hx : ∃ xs : List α, rows = xs.map fun x => cellsL E0 (en x) := by
    clear h h4 hv h1
    induction rows with
    | nil => exact ⟨[], rfl⟩
    | cons row rows ih =>
      obtain ⟨xs, hxs⟩ := ih fun r hr => h3 r (List.mem_cons_of_mem _ hr)
      obtain ⟨x, hx⟩ := hdec row (h3 row List.mem_cons_self)
      exact ⟨x :: xs, by rw [hxs, hx]; rfl⟩
  obtain ⟨xs, rfl⟩ := hx
  rw [List.length_map] at *
  refine ⟨xs, a, cap, fun b => decide (some b = a.map (·.block)), by simp [den, wrapV, cells], ?_, by omega⟩
  simp only [Ok]
  refine ⟨h1, fun hne => ?_, hw, fun j hj => hok _ _⟩
  obtain ⟨ad, arr, ty, fr, rfl, e2, e3, e4⟩ := h4 (by simpa using hne)
  refine ⟨ad, arr, ty, fr, rfl, e2, by unfold memOf; rw [if_pos (by simp)]; exact e3, fun j hj u c hu => ?_⟩
  have := e4 j (cellsL E0 (en (xs.getD j d))) (by
    rw [List.getElem?_map, List.getElem?_eq_getElem hj]
    simp [List.getD_eq_getElem?_getD, List.getElem?_eq_getElem hj]) u c hu
  rw [hn] at this
  exact this
/-- A struct of plain cells by value, opened. -/
theorem open_agg {r : Reach} {b0 f : Nat} {t : TypeId} {ls : List LK} {v : Value} {d : DataW H} {p : List MemPlace} (ht : ∃ fs, P.underlying t = some (.struct fs)) (hsh : shape P f t = some ls) (hc : P.cellsOf t = ls.length)
    (hv : Value.okWide P w r b0 t v) (h : DataW.Trod enc P w base spare held t v d p) : ∃ cs : List Value, v = .agg cs.toArray ∧ LKs ls cs := by
  obtain ⟨fs, hs⟩ := ht
  obtain ⟨cs, rfl, hsz⟩ := okWide_struct hs hv
  obtain ⟨fuel, hf⟩ := h
  have := trod_flat f t ls hsh hc fuel _ _ hf
  exact ⟨cs.toList, by simp, this⟩
end
end SX
end Go.Proofs.YtjpdnkfplnnhhaaGreatDoor

/- Conditions: rows: what comes in, opened. -/
set_option linter.unusedVariables false
set_option maxRecDepth 100000
namespace Go.Proofs.YtjpdnkfplnnhhaaGreatDoor
open Go Go.ChangeShapes Go.WideShapes Go.ChangeAt Go.RowKit
theorem own : ownKnob Tryz.prog.godebug = none := by kernel_rfl
theorem compsOk : ∀ t, t < Tryz.prog.types.size → SX.CompsOk Tryz.prog (· < Tryz.prog.types.size) t := SX.compsOk_of (by kernel_rfl)
namespace SX
theorem LKs_ints : ∀ {n : Nat} {cs : List Value}, LKs (List.replicate n (.i .i64)) cs → ∃ xs : List Int, xs.length = n ∧ cs = xs.map (.int .i64)
  | 0, [], _ => ⟨[], rfl, rfl⟩
  | 0, _ :: _, h => h.elim
  | n + 1, [], h => h.elim
  | n + 1, v :: cs, h => by
    obtain ⟨⟨x, rfl, _⟩, h2⟩ := h
    obtain ⟨xs, e1, rfl⟩ := LKs_ints h2
    exact ⟨x :: xs, by simp [e1], rfl⟩
theorem cn_dec (row : List Value) (h : LKs (List.replicate 5 (.i .i64)) row) : ∃ c : Cn, row = cellsL E0 (cenc c) := by
  obtain ⟨xs, h1, rfl⟩ := LKs_ints h
  match xs, h1 with
  | [a, b, c, d, e], _ => exact ⟨⟨a, b, c, d, e⟩, rfl⟩
theorem oc_dec (row : List Value) (h : LKs (List.replicate 27 (.i .i64)) row) : ∃ o : Oc, row = cellsL E0 (oenc o) := by
  obtain ⟨xs, h1, rfl⟩ := LKs_ints h
  exact ⟨⟨xs, h1⟩, (oc_cells E0 ⟨xs, h1⟩).symm⟩
end SX
section
variable {H : Type} {enc : TypeId × Value → H} {W : World} {b0 : Nat} {v : Value} {d : DataW H} {p : List MemPlace} {base : Nat} {spare : Nat → Bool} {held : Bool}
theorem conds_open (hv : Value.okWide Tryz.prog W .any b0 27 v) (h : DataW.Trod enc Tryz.prog W base spare held 27 v d p) :
    ∃ (xs : List SX.Cn) (a : Option Addr) (cap : Nat) (S : Nat → Bool), v = SX.den (fun _ _ => none) (.imm SX.Cn SX.cn0 5 SX.cenc xs a cap) ∧ SX.Ok (SX.memOf W S) [] (.imm SX.Cn SX.cn0 5 SX.cenc xs a cap) ∧ xs.length ≤ maxLen :=
  SX.open_imm (f := 40) (e := 30) (ls := List.replicate 5 (.i .i64)) Tryz.underlying27 (by kernel_rfl) (by kernel_rfl) (by decide) SX.cn0 SX.cenc rfl (fun _ => rfl) (fun c m => by simp [SX.cenc, SX.OkL, SX.Ok, SX.isUnit]) SX.cn_dec hv h
theorem outs_open (hv : Value.okWide Tryz.prog W .any b0 42 v) (h : DataW.Trod enc Tryz.prog W base spare held 42 v d p) :
    ∃ (xs : List SX.Oc) (a : Option Addr) (cap : Nat) (S : Nat → Bool), v = SX.den (fun _ _ => none) (.imm SX.Oc SX.oc0 27 SX.oenc xs a cap) ∧ SX.Ok (SX.memOf W S) [] (.imm SX.Oc SX.oc0 27 SX.oenc xs a cap) ∧ xs.length ≤ maxLen :=
  SX.open_imm (f := 40) (e := 26) (ls := List.replicate 27 (.i .i64)) Tryz.underlying42 (by kernel_rfl) (by kernel_rfl) (by decide) SX.oc0 SX.oenc rfl SX.oenc_w SX.oenc_ok SX.oc_dec hv h
theorem out_open (hv : Value.okWide Tryz.prog W .any b0 26 v) (h : DataW.Trod enc Tryz.prog W base spare held 26 v d p) : ∃ o : SX.Oc, v = SX.den (fun _ _ => none) (.agg (SX.oenc o)) := by
  obtain ⟨cs, rfl, hl⟩ := SX.open_agg (f := 40) (ls := List.replicate 27 (.i .i64)) ⟨_, Tryz.underlying26⟩ (by kernel_rfl) (by kernel_rfl) hv h
  obtain ⟨o, rfl⟩ := SX.oc_dec cs hl
  exact ⟨o, by rw [SX.den_agg]; rfl⟩
end
end Go.Proofs.YtjpdnkfplnnhhaaGreatDoor

/- Conditions: rows: what comes in, opened, with the bounds of its numbers. -/
set_option linter.unusedVariables false
set_option maxRecDepth 100000
namespace Go.Proofs.YtjpdnkfplnnhhaaGreatDoor
open Go Go.ChangeShapes Go.WideShapes Go.ChangeAt Go.RowKit
namespace SX
theorem wf64 {n : Int} (h : (Lit.int .i64 n).wf = true) : in64 n := by
  have h : (decide (IntKind.i64.min ≤ n) && decide (n ≤ IntKind.i64.max)) = true := h
  simp only [Bool.and_eq_true, decide_eq_true_eq] at h
  exact h
/-- A node whose value is a machine's number. -/
structure Cz where
  c : Cn
  h : in64 c.v
def cz0 : Cz := ⟨cn0, by unfold in64; decide⟩
theorem cz_dec (row : List Value) (h : LKs (List.replicate 5 (.i .i64)) row) : ∃ z : Cz, row = cellsL E0 (cenc z.c) := by
  match row, h with
  | [a, b, c, d, e], h =>
    obtain ⟨⟨x1, rfl, _⟩, ⟨x2, rfl, _⟩, ⟨x3, rfl, _⟩, ⟨x4, rfl, _⟩, ⟨x5, rfl, w⟩, _⟩ := h
    exact ⟨⟨⟨x1, x2, x3, x4, x5⟩, wf64 w⟩, rfl⟩
  | [], h => exact h.elim
  | [_], h => exact h.2.elim
  | [_, _], h => exact h.2.2.elim
  | [_, _, _], h => exact h.2.2.2.elim
  | [_, _, _, _], h => exact h.2.2.2.2.elim
  | _ :: _ :: _ :: _ :: _ :: _ :: _, h => exact h.2.2.2.2.2.elim
theorem imm_map {m : Mem} {V : List Nat} {α β : Type} (f : α → β) {d : α} {n : Nat} {enc : β → List SV} {xs : List α} {a : Option Addr} {cap : Nat} (hw : ∀ y, wdL (enc y) = n) (h : Ok m V (.imm α d n (fun x => enc (f x)) xs a cap)) : Ok m V (.imm β (f d) n enc (xs.map f) a cap) := by
  simp only [Ok] at h ⊢
  obtain ⟨h1, h2, h3, h4⟩ := h
  have hg : ∀ j, (xs.map f).getD j (f d) = f (xs.getD j d) := fun j => by
    simp only [List.getD_eq_getElem?_getD, List.getElem?_map]
    cases xs[j]? <;> rfl
  refine ⟨by simpa using h1, fun hne => ?_, hw, fun j hj => ?_⟩
  · obtain ⟨ad, arr, t, fr, e1, e2, e3, e4⟩ := h2 (by simpa using hne)
    refine ⟨ad, arr, t, fr, e1, e2, e3, fun j hj u c hu => ?_⟩
    rw [hg] at hu
    exact e4 j (by simpa using hj) u c hu
  · rw [hg]
    exact h4 j (by simpa using hj)
end SX
section
variable {H : Type} {enc : TypeId × Value → H} {W : World} {b0 : Nat} {v : Value} {d : DataW H} {p : List MemPlace} {base : Nat} {spare : Nat → Bool} {held : Bool}
theorem conds_openZ (hv : Value.okWide Tryz.prog W .any b0 27 v) (h : DataW.Trod enc Tryz.prog W base spare held 27 v d p) :
    ∃ (xs : List SX.Cn) (a : Option Addr) (cap : Nat) (S : Nat → Bool), v = SX.den (fun _ _ => none) (.imm SX.Cn SX.cn0 5 SX.cenc xs a cap) ∧ SX.Ok (SX.memOf W S) [] (.imm SX.Cn SX.cn0 5 SX.cenc xs a cap) ∧ ∀ j, SX.in64 (xs.getD j SX.cn0).v := by
  obtain ⟨xs, a, cap, S, e, hok, _⟩ := SX.open_imm (f := 40) (e := 30) (ls := List.replicate 5 (.i .i64)) Tryz.underlying27 (by kernel_rfl) (by kernel_rfl) (by decide) SX.cz0 (fun z => SX.cenc z.c) rfl (fun _ => rfl) (fun c m => by simp [SX.cenc, SX.OkL, SX.Ok, SX.isUnit]) SX.cz_dec hv h
  have hok2 : SX.Ok (SX.memOf W S) [] (.imm SX.Cn SX.cz0.c 5 SX.cenc (List.map (fun z : SX.Cz => z.c) xs) a cap) := SX.imm_map (fun z : SX.Cz => z.c) (d := SX.cz0) (enc := SX.cenc) (fun _ => rfl) hok
  refine ⟨List.map (fun z : SX.Cz => z.c) xs, a, cap, S, ?_, hok2, fun j => ?_⟩
  · rw [e]
    simp [SX.den, SX.wrapV, SX.cells]
  · simp only [List.getD_eq_getElem?_getD, List.getElem?_map]
    cases hx : xs[j]? with
    | none => exact SX.cz0.h
    | some z => simpa using z.h
end
end Go.Proofs.YtjpdnkfplnnhhaaGreatDoor

/- SX: rows: the tables that a row lists lie in the world. -/
set_option linter.unusedVariables false
namespace Go.Proofs.YtjpdnkfplnnhhaaGreatDoor
namespace SX
open Go
theorem laidVars_mem {P : Program} {w : World} {n : String} {d : DataW Unit} : ∀ {l : List (String × DataW Unit)} {ps : List MemPlace}, DataW.LaidVars P w l ps → (n, d) ∈ l →
    ∃ g t cs fuel p, P.globalNamed n = some g ∧ (P.globals[g]?).map (·.type) = some t ∧ w.var? P n = some cs ∧ DataW.trod (fun _ => ()) P w 0 (fun _ => true) false fuel t cs.toList = some (d, p)
  | [], _, _, h => by cases h
  | (n', d') :: r, ps, hl, h => by
    obtain ⟨g, t, cs, fuel, p, q, h1, h2, h3, h4, h5, _⟩ := hl
    rcases List.mem_cons.1 h with h | h
    · cases h; exact ⟨g, t, cs, fuel, p, h1, h2, h3, h4⟩
    · exact laidVars_mem h5 h
theorem laidMetH_plain {P : Program} {l : List (String × DataW Unit)} {w : World} (hf : (l.filter fun x => x.2.handleName?.isSome) = []) (h : laidMetH P l w) : laidMet P l w := by
  unfold laidMetH at h
  rw [hf] at h
  exact h
theorem trod_ifc {H : Type} {enc : TypeId × Value → H} {P : Program} {w : World} {base : Nat} {sp : Nat → Bool} {held : Bool} {fuel : Nat} {t : TypeId} {ms} {cs : List Value} {tn : String} {d : DataW H} {p : List MemPlace}
    (ht : P.underlying t = some (.interface ms)) (h : DataW.trod enc P w base sp held fuel t cs = some (.iface tn d, p)) : ∃ u v, cs = [.iface u v] := by
  cases fuel with
  | zero => simp [DataW.trod] at h
  | succ fuel =>
    unfold DataW.trod at h
    rw [ht] at h
    match cs, h with
    | [.iface u v], _ => exact ⟨u, v, rfl⟩
    | [.nilIface], h => simp at h
    | [], h => simp at h
    | _ :: _ :: _, h => simp at h
    | [.int _ _], h | [.bool _], h | [.float _ _], h | [.string _], h | [.pointer _], h | [.slice _ _ _], h | [.agg _], h | [.map _], h | [.func _ _ _], h | [.nilFunc], h | [.tuple _], h | [.chan _], h => simp at h
/-- How a row lists a table. -/
def TbRow (P : Program) (laid : List (String × DataW Unit)) (g : Nat) : TbV → Prop
  | .ints k zs => ∃ n t N e, (n, Lib.tabData k zs) ∈ laid ∧ P.globalNamed n = some g ∧ (P.globals[g]?).map (·.type) = some t ∧ P.underlying t = some (.array N e) ∧ P.underlying e = some (.int k) ∧ P.cellsOf e = 1 ∧ P.cellsOf t = N
  | .ifc => ∃ n t ms tn d, (n, .iface tn d) ∈ laid ∧ P.globalNamed n = some g ∧ (P.globals[g]?).map (·.type) = some t ∧ P.underlying t = some (.interface ms)
theorem var_at {P : Program} {w : World} {n : String} {g : Nat} {cs : Array Value} (hg : P.globalNamed n = some g) (h : w.var? P n = some cs) : ∃ t fr, w.heap[g]? = some (.cells cs t fr) := by
  unfold World.var? at h
  rw [hg] at h
  simp only [Option.bind_some] at h
  split at h
  · rename_i c t fr hh; cases h; exact ⟨t, fr, hh⟩
  · cases h
theorem tabsIn_of {P : Program} {laid : List (String × DataW Unit)} {w : World} (hf : (laid.filter fun x => x.2.handleName?.isSome) = []) (h : laidMetH P laid w) (hr : ∀ g v, tabs g = some v → TbRow P laid g v) : TabsIn w := by
  obtain ⟨ps, hl, _⟩ := laidMetH_plain hf h
  intro g v hg
  have hv := hr g v hg
  cases v with
  | ints k zs =>
    obtain ⟨n, t, N, e, hm, h1, h2, h3, h4, h5, h6⟩ := hv
    obtain ⟨g', t', cs, fuel, p, g1, g2, g3, g4⟩ := laidVars_mem hl hm
    obtain rfl := Option.some.inj (h1.symm.trans g1)
    obtain rfl := Option.some.inj (h2.symm.trans g2)
    have := Lib.cells_of_tab h3 h4 h5 h6 g4
    obtain ⟨t2, fr, hh⟩ := var_at h1 g3
    refine ⟨t2, fr, ?_⟩
    show w.heap[g]? = _
    rw [hh, ← this]
  | ifc =>
    obtain ⟨n, t, ms, tn, d, hm, h1, h2, h3⟩ := hv
    obtain ⟨g', t', cs, fuel, p, g1, g2, g3, g4⟩ := laidVars_mem hl hm
    obtain rfl := Option.some.inj (h1.symm.trans g1)
    obtain rfl := Option.some.inj (h2.symm.trans g2)
    obtain ⟨u, v, hc⟩ := trod_ifc h3 g4
    obtain ⟨t2, fr, hh⟩ := var_at h1 g3
    refine ⟨u, v, t2, fr, ?_⟩
    show w.heap[g]? = _
    rw [hh]
    congr 2
    exact Array.toList_inj.1 (by simpa using hc)
end SX
end Go.Proofs.YtjpdnkfplnnhhaaGreatDoor

/- SX: from what a row lists to the tables in the world. -/
set_option maxRecDepth 100000
namespace Go.Proofs.YtjpdnkfplnnhhaaGreatDoor
namespace SX
open Go Go.Proofs
theorem tabsIn_row {laid : List (String × DataW Unit)} {W : World} (h : laidMetH Tryz.prog laid W) (hf : (laid.filter fun x => x.2.handleName?.isSome) = [])
    {n6 n7 n2 n1 : String} (h6 : (n6, Rows.laid_math_bits_deBruijn32tab) ∈ laid) (h7 : (n7, Rows.laid_math_bits_deBruijn64tab) ∈ laid) (h2 : (n2, Rows.laid_internal_strconv_uint64pow10) ∈ laid) (h1 : (n1, Rows.laid_strings_asciiSpace) ∈ laid) (g6 : Tryz.prog.globalNamed n6 = some 6) (g7 : Tryz.prog.globalNamed n7 = some 7) (g2 : Tryz.prog.globalNamed n2 = some 2) (g1 : Tryz.prog.globalNamed n1 = some 1) : TabsIn W := by
  refine tabsIn_of hf h fun g v hg => ?_
  unfold tabs at hg
  cases c0 : Nat.beq g 6 with
  | true =>
    rw [c0] at hg
    cases hg
    obtain rfl := Nat.eq_of_beq_eq_true c0
    exact ⟨_, 255, _, 5, h6, g6, by kernel_rfl, Tryz.underlying255, Tryz.underlying5, by kernel_rfl, by kernel_rfl⟩
  | false =>
  rw [c0] at hg
  simp only [cond_false] at hg
  cases c1 : Nat.beq g 7 with
  | true =>
    rw [c1] at hg
    cases hg
    obtain rfl := Nat.eq_of_beq_eq_true c1
    exact ⟨_, 256, _, 5, h7, g7, by kernel_rfl, Tryz.underlying256, Tryz.underlying5, by kernel_rfl, by kernel_rfl⟩
  | false =>
  rw [c1] at hg
  simp only [cond_false] at hg
  cases c2 : Nat.beq g 2 with
  | true =>
    rw [c2] at hg
    cases hg
    obtain rfl := Nat.eq_of_beq_eq_true c2
    exact ⟨_, 214, _, 138, h2, g2, by kernel_rfl, Tryz.underlying214, Tryz.underlying138, by kernel_rfl, by kernel_rfl⟩
  | false =>
  rw [c2] at hg
  simp only [cond_false] at hg
  cases c3 : Nat.beq g 1 with
  | true =>
    rw [c3] at hg
    cases hg
    obtain rfl := Nat.eq_of_beq_eq_true c3
    exact ⟨_, 191, _, 5, h1, g1, by kernel_rfl, Tryz.underlying191, Tryz.underlying5, by kernel_rfl, by kernel_rfl⟩
  | false =>
  rw [c3] at hg
  simp only [cond_false] at hg
  cases hg
end SX
end Go.Proofs.YtjpdnkfplnnhhaaGreatDoor

/- CondPrints: the row. -/
set_option linter.unusedVariables false
set_option maxRecDepth 100000
namespace Go.Proofs.YtjpdnkfplnnhhaaGreatDoor
open Go Go.ChangeShapes Go.WideShapes Go.ChangeAt Go.RowKit
theorem params_in : ∀ t ∈ Tryz.f4.params.toList, t < Tryz.prog.types.size := by
  have : (Tryz.f4.params.toList.all fun t => Nat.blt t Tryz.prog.types.size) = true := by kernel_rfl
  exact fun t ht => Nat.le_of_ble_eq_true (List.all_eq_true.1 this t ht)
theorem door_met (os : Os) (args : Array Value) : laidMetH Tryz.prog Rows.condPrintsRow.laid ((World.doorLaid Tryz.prog 400 os).forCall (fun _ _ => 0) ⟨#[], args, []⟩).memory :=
  laidMetH_of_parts3 (fuel := 8) (laidMet_of_run' 8 (by kernel_rfl) (by kernel_rfl)) (by kernel_rfl) (by kernel_rfl)
theorem lifted (os : Os) (started : os.Started) (H : Type) (enc : TypeId × Value → H) :
    ReturnsInHanded {} Tryz.checked os 4 .any (fun w args => (Rows.condPrintsSpec.pre enc Tryz.prog Tryz.f4 [] false w args ∧ laidMetH Tryz.prog Rows.condPrintsRow.laid w) ∧ sizedMet enc Tryz.prog Tryz.f4 (OpenSpec.ofChange Rows.condPrintsSpec) false w args)
      (Rows.condPrintsSpec.post enc Tryz.prog Tryz.f4 false true false false) := by
  refine returnsInHanded_of_change_and (C := Tryz.checked) (X := fun w _ => laidMetH Tryz.prog Rows.condPrintsRow.laid w) (fun _ _ _ hh h => h.of_heap hh) own started (by kernel_rfl) Tryz.func4
    (ChangeSpec.witness_shaped (enc := enc) (C := Tryz.checked) (os := os) (X := fun w _ => laidMetH Tryz.prog Rows.condPrintsRow.laid w) false (World.doorLaid Tryz.prog 400 os) #[.int .i64 0, .slice none 0 0] 8 rfl (World.shaped_of_RefB (by kernel_rfl) (by kernel_rfl)) (by kernel_rfl) (by kernel_rfl) (by kernel_rfl) (door_met os _)) ?_
  intro W base args ds gs before hval0 hW _ _ hL _
  have hval : ∀ (j : Nat) t v, Tryz.f4.params[j]? = some t → args[j]? = some v → Value.okWide Tryz.prog W .any base t v := hval0
  have hW' := hW
  obtain ⟨p, q, hA0, hV, rfl, hfz, hnd⟩ := hW
  have hA : DataW.TrodAll enc Tryz.prog W 0 (fun _ => true) true Tryz.f4.params.toList args.toList ds p := hA0
  rw [Tryz.params4] at hA hval
  obtain ⟨v0, v1, d0, d1, p0, p1, rfl, rfl, rfl, h0, h1⟩ := trodAll_two hA
  obtain ⟨rfl, rfl⟩ := trodVars_none hV
  obtain ⟨a, rfl, _⟩ := open_int Tryz.underlying3 (hval 0 _ v0 rfl rfl) h0
  obtain ⟨xs, ad, cap, S, rfl, hok, hv⟩ := conds_openZ (hval 1 _ v1 rfl rfl) h1
  clear hA0 hval0
  have hT := SX.tabsIn_row hL rfl (List.mem_of_getElem? (i := 0) rfl) (List.mem_of_getElem? (i := 1) rfl) (List.mem_of_getElem? (i := 2) rfl) (List.mem_of_getElem? (i := 4) rfl) (by kernel_rfl) (by kernel_rfl) (by kernel_rfl) (by kernel_rfl)
  refine (SX.law_callsM (args := [.i .i64 a, .imm SX.Cn SX.cn0 5 SX.cenc xs ad cap]) Tryz.func4 rfl rfl (SX.prints_ok a xs ad cap hv)  W hT S ?_ rfl).mono fun e W' ⟨he, hk, ho, hu⟩ => ?_
  · exact ⟨⟨rfl, trivial⟩, ⟨rfl, hok⟩, trivial⟩
  subst he
  exact ⟨_, rfl, SX.post_kept hk compsOk params_in (fun n hn => by cases hn) hW' ho hu rfl rfl rfl (fun _ _ _ => trodAll_mk1 (shut_bool Tryz.underlying4 _)) (ok_one (by kernel_rfl) rfl (okWide_bool_mk Tryz.underlying4 _))⟩
theorem condPrints_holds : Rows.CondPrintsSaid :=
  OpenClaim.holds_of_wide 4 Tryz.f4 rfl rfl rfl rfl rfl rfl rfl ⟨rfl, rfl, rfl, rfl, rfl⟩ rfl rfl rfl rfl rfl (by kernel_rfl) Tryz.func4 (by kernel_rfl)
    (of_decide_eq_true (by kernel_rfl)) (by unfold Func.isWrapper; first | (rw [if_pos (by decide +kernel)]; kernel_rfl) | (rw [if_neg (by decide +kernel)]; exact ⟨rfl, rfl⟩))
    (fun os started H enc _ => lifted os started H enc)
theorem condPrints_card : Rows.CondPrintsCardSaid :=
  Claim7.holds_tied_plain_at .later [] [.data, .data, .data, .listed, .data] true (true, "be092f51ca8b83d40ec68f0285afff7df209af5f4d9902e95f9a8a4fc8ea18dd") true
    condPrints_holds (fun _ h => by cases h) (by kernel_rfl) (fun _ h => by cases h) condPrints_row_tie rfl ⟨rfl, rfl⟩ (by kernel_rfl) rfl
    (fun f fn hf hfn => by
      obtain rfl : f = 4 := Option.some.inj ((show Tryz.prog.funcNamed "belated/belatedlaw8.CondPrints" = some 4 by kernel_rfl).symm.trans hf) |>.symm
      obtain rfl : fn = Tryz.f4 := (Option.some.inj (Tryz.func4.symm.trans hfn)).symm
      exact ⟨by kernel_rfl, fun j t ht => by
        rw [Tryz.params4] at ht
        have hm : t ∈ [3, 27] := by simpa using Array.mem_of_getElem? ht
        have hall : ([3, 27].all fun u => !Tryz.prog.wantsStandIn u) = true := by kernel_rfl
        exact (show Tryz.prog.wantsStandIn t = false by simpa using List.all_eq_true.1 hall t hm)⟩)
    (by kernel_rfl)
#print axioms condPrints_card
end Go.Proofs.YtjpdnkfplnnhhaaGreatDoor
