/- The conditions of law 8: judging. Law of CondJudges: the program judges and the reference judges, the walk and the plain law. -/
import Derived.IntWalk
import Derived.ChangeSame
import Derived.ChangeReads
import Derived.ProofKit
import Derived.Deep.Fields
import Derived.Shelf.SlSortCmp.WholeK
import Derived.Ground.SlsfProg
import Derived.OpenShut
import Derived.Test.YtjpdnkfplnnhhaaGreatDoorRows
import Derived.LaidMore
import Derived.Stop.Joined
import Derived.Test.YtjpdnkfplnnhhaaGreatDoorCards
import Derived.Test.YtjpdnkfplnnhhaaGreatDoorTie
import Derived.SevenTiedAt
import Derived.Test.YtjpdnkfplnnhhaaGreatDoorXG
set_option linter.unusedVariables false
set_option linter.unusedSimpArgs false
set_option linter.unusedSectionVars false
/- Conditions: what they are, what they say, in plain terms. -/
set_option linter.unusedVariables false
namespace Go.Proofs.YtjpdnkfplnnhhaaGreatDoor
namespace SX
open Go Go.Proofs
theorem wrap64 {x : Int} (h1 : -9223372036854775808 ≤ x) (h2 : x ≤ 9223372036854775807) : IntKind.i64.wrap x = x := IntWalk.i64_in x ⟨h1, h2⟩
theorem Joins.nil {new : List SV} : Joins [] new new := ⟨fun E => rfl, fun m V _ h => h⟩
/-- A node. -/
structure Cn where
  k : Int
  t : Int
  r : Int
  l : Int
  v : Int
  deriving DecidableEq
def cn0 : Cn := ⟨0, 0, 0, 0, 0⟩
def cenc (c : Cn) : List SV := [.i .i64 c.k, .i .i64 c.t, .i .i64 c.r, .i .i64 c.l, .i .i64 c.v]
def partsF (c : Cn) : Int :=
  if c.k = 1 then (if c.l = 0 ∧ 0 ≤ c.t ∧ c.t < 3 ∧ 0 ≤ c.r ∧ c.r < 8 then 0 else -1)
  else if c.k = 2 then (if c.t = 0 ∧ c.r = 0 ∧ 0 ≤ c.l ∧ c.l < 3 then 0 else -1)
  else if c.k = 3 then (if c.t = 0 ∧ c.r = 0 ∧ c.l = 0 ∧ c.v = 0 then 1 else -1)
  else if c.k = 4 ∨ c.k = 5 then (if c.t = 0 ∧ c.r = 0 ∧ c.l = 0 ∧ c.v = 0 then 2 else -1)
  else -1
theorem partsF_le (c : Cn) : -1 ≤ partsF c ∧ partsF c ≤ 2 := by
  unfold partsF
  repeat' split
  all_goals omega
/-- How many stand whole behind the first i nodes. -/
def nAt (cs : List Cn) : Nat → Int
  | 0 => 0
  | i + 1 => nAt cs i + (1 - partsF (cs.getD i cn0))
/-- The first i nodes are as they may be. -/
def okAt (cs : List Cn) (i : Nat) : Prop := ∀ j, j < i → 0 ≤ partsF (cs.getD j cn0) ∧ partsF (cs.getD j cn0) ≤ nAt cs j
def rightP (cs : List Cn) : Prop := (1 ≤ cs.length ∧ cs.length ≤ 32) ∧ okAt cs cs.length ∧ nAt cs cs.length = 1
open Classical in
noncomputable def rightB (cs : List Cn) : Bool := decide (rightP cs)
theorem okAt_succ {cs : List Cn} {i : Nat} (h : okAt cs i) (h1 : 0 ≤ partsF (cs.getD i cn0)) (h2 : partsF (cs.getD i cn0) ≤ nAt cs i) : okAt cs (i + 1) := by
  intro j hj
  rcases Nat.lt_succ_iff_lt_or_eq.1 hj with hj | rfl
  · exact h j hj
  · exact ⟨h1, h2⟩
theorem nAt_bd {cs : List Cn} : ∀ {i : Nat}, okAt cs i → 0 ≤ nAt cs i ∧ nAt cs i ≤ i ∧ (0 < i → 1 ≤ nAt cs i)
  | 0, _ => by simp [nAt]
  | i + 1, h => by
    have ih := nAt_bd (cs := cs) (i := i) fun j hj => h j (by omega)
    have h1 := h i (by omega)
    simp only [nAt]
    omega
/-- A final state: registers, 8 a thread, then memory. -/
structure Oc where
  l : List Int
  h : l.length = 27
def oc0 : Oc := ⟨List.replicate 27 0, by simp⟩
def Oc.at (o : Oc) (j : Nat) : Int := o.l.getD j 0
theorem Oc.ext' {a b : Oc} (h : a.l = b.l) : a = b := by cases a; cases b; cases h; rfl
def oenc (o : Oc) : List SV := [.i .i64 (o.at 0), .i .i64 (o.at 1), .i .i64 (o.at 2), .i .i64 (o.at 3), .i .i64 (o.at 4), .i .i64 (o.at 5), .i .i64 (o.at 6), .i .i64 (o.at 7),
  .i .i64 (o.at 8), .i .i64 (o.at 9), .i .i64 (o.at 10), .i .i64 (o.at 11), .i .i64 (o.at 12), .i .i64 (o.at 13), .i .i64 (o.at 14), .i .i64 (o.at 15),
  .i .i64 (o.at 16), .i .i64 (o.at 17), .i .i64 (o.at 18), .i .i64 (o.at 19), .i .i64 (o.at 20), .i .i64 (o.at 21), .i .i64 (o.at 22), .i .i64 (o.at 23),
  .i .i64 (o.at 24), .i .i64 (o.at 25), .i .i64 (o.at 26)]
theorem oc_cells (E : Env) (o : Oc) : cellsL E (oenc o) = o.l.map (.int .i64) := by
  obtain ⟨l, h⟩ := o
  match l, h with
  | [x0, x1, x2, x3, x4, x5, x6, x7, x8, x9, x10, x11, x12, x13, x14, x15, x16, x17, x18, x19, x20, x21, x22, x23, x24, x25, x26], _ => rfl
theorem oenc_w (o : Oc) : wdL (oenc o) = 27 := by unfold oenc; simp only [wdL, wd]
theorem oenc_ok (o : Oc) (m : Mem) : OkL m [] (oenc o) := by
  unfold oenc
  simp only [OkL, Ok, isUnit, and_self]
/-- What a node holds of, its parts at hand. -/
def nodeF (o : Oc) (c : Cn) (l : List Bool) : Bool :=
  if c.k = 1 then decide (o.at (c.t.toNat * 8 + c.r.toNat) = c.v)
  else if c.k = 2 then decide (o.at (24 + c.l.toNat) = c.v)
  else if c.k = 3 then !(l.getD 0 false)
  else if c.k = 4 then l.getD 0 false && l.getD 1 false
  else l.getD 0 false || l.getD 1 false
def stk (o : Oc) (cs : List Cn) : Nat → List Bool
  | 0 => []
  | i + 1 => (stk o cs i).take ((stk o cs i).length - (partsF (cs.getD i cn0)).toNat) ++ [nodeF o (cs.getD i cn0) ((stk o cs i).drop ((stk o cs i).length - (partsF (cs.getD i cn0)).toNat))]
noncomputable def evalF (o : Oc) (cs : List Cn) : Bool := if rightB cs then (stk o cs cs.length).getD 0 false else false
theorem stk_len {o : Oc} {cs : List Cn} : ∀ {i : Nat}, okAt cs i → ((stk o cs i).length : Int) = nAt cs i
  | 0, _ => rfl
  | i + 1, h => by
    have ih := stk_len (o := o) (i := i) fun j hj => h j (by omega)
    have h1 := h i (by omega)
    simp only [stk, nAt, List.length_append, List.length_take, List.length_singleton]
    omega
end SX
end Go.Proofs.YtjpdnkfplnnhhaaGreatDoor

/- Conditions: parts, one, Right. -/
set_option linter.unusedVariables false
set_option maxRecDepth 100000
namespace Go.Proofs.YtjpdnkfplnnhhaaGreatDoor
namespace SX
open Go Go.Proofs
theorem i64_congr {x y : Int} (h : x = y) : SV.i .i64 x = SV.i .i64 y := congrArg (SV.i .i64) h
theorem parts_ok (c : Cn) : CtrV Tryz.prog 28 [.agg (cenc c)] (.i .i64 (partsF c)) := by
  refine Ctr.enterV tabOk (fn := Tryz.f28) rfl rfl rfl rfl rfl rfl ?_
  refine ⟨fun h1 => ⟨fun h2 => ?_, fun h2 => ?_⟩, fun h1 => ⟨fun h2 => ⟨fun h3 => ?_, fun h3 => ?_⟩, fun h2 => ⟨fun h3 => ⟨fun h4 => ?_, fun h4 => ?_⟩, fun h3 => ⟨fun h4 => ⟨fun h5 => ⟨fun h6 => ?_, fun h6 => ?_⟩, fun h5 => Bool.noConfusion (h4.symm.trans h5)⟩, fun h4 => ⟨fun h5 => ⟨fun h6 => ?_, fun h6 => ?_⟩, fun h5 => ?_⟩⟩⟩⟩⟩
  · refine i64_congr (y := partsF c) ?_
    simp at h1 h2; unfold partsF; simp [h1, h2]
  · refine i64_congr (y := partsF c) ?_
    simp at h1 h2; unfold partsF; simp [h1]; intros; omega
  · refine i64_congr (y := partsF c) ?_
    simp at h1 h2 h3; unfold partsF; simp [h1, h2, h3]
  · refine i64_congr (y := partsF c) ?_
    simp at h1 h2 h3; unfold partsF; simp [h1, h2]; intros; omega
  · refine i64_congr (y := partsF c) ?_
    simp at h1 h2 h3 h4; unfold partsF; simp [h1, h2, h3, h4]
  · refine i64_congr (y := partsF c) ?_
    simp at h1 h2 h3 h4; unfold partsF; simp [h1, h2, h3]; intros; omega
  · refine i64_congr (y := partsF c) ?_
    simp at h1 h2 h3 h4 h6; unfold partsF; simp [h1, h2, h3, h4, h6]
  · refine i64_congr (y := partsF c) ?_
    simp at h1 h2 h3 h4 h6; unfold partsF; simp [h1, h2, h3, h4]; intros; omega
  · refine i64_congr (y := partsF c) ?_
    simp at h1 h2 h3 h4 h5 h6; unfold partsF; simp [h1, h2, h3, h4, h5, h6]
  · refine i64_congr (y := partsF c) ?_
    simp at h1 h2 h3 h4 h5 h6; unfold partsF; simp [h1, h2, h3, h4, h5]; intros; omega
  · refine i64_congr (y := partsF c) ?_
    simp at h1 h2 h3 h4 h5; unfold partsF; simp [h1, h2, h3, h4, h5]
theorem one_ok (c : Cn) : CtrV Tryz.prog 31 [.agg (cenc c)] (.i .i64 (partsF c)) := by
  refine Ctr.enterV tabOk (fn := Tryz.f31) rfl rfl rfl rfl rfl rfl ?_
  refine ⟨fun h1 => ⟨fun h2 => ⟨fun h9 => ?_, fun h9 => ?_⟩, fun h2 => ⟨fun h9 => ?_, fun h9 => ?_⟩⟩, fun h1 => ⟨fun h2 => ⟨fun h3 => ⟨fun h9 => ?_, fun h9 => ?_⟩, fun h3 => ⟨fun h9 => ?_, fun h9 => ?_⟩⟩, fun h2 => ⟨fun h3 => ⟨fun h9 => ?_, fun h9 => ?_⟩, fun h3 => ⟨fun h4 => ⟨fun h5 => ⟨fun h9 => ?_, fun h9 => ?_⟩, fun h5 => Bool.noConfusion (h4.symm.trans h5)⟩, fun h4 => ⟨fun h5 => ⟨fun h9 => ?_, fun h9 => ?_⟩, fun h5 => ⟨fun h9 => ?_, fun h9 => ?_⟩⟩⟩⟩⟩⟩
  all_goals refine i64_congr (y := partsF c) ?_
  · simp at h1 h2 h9; unfold partsF; simp [h1]; intros; omega
  · simp at h1 h2 h9; unfold partsF; simp [h1, h2, h9]
  · simp at h1 h2 h9; unfold partsF; simp [h1]; intros; omega
  · simp at h1 h2 h9; unfold partsF; simp [h1]; intros; omega
  · simp at h1 h2 h3 h9; unfold partsF; simp [h1, h2]; intros; omega
  · simp at h1 h2 h3 h9; unfold partsF; simp [h1, h2, h3, h9]
  · simp at h1 h2 h3 h9; unfold partsF; simp [h1, h2]; intros; omega
  · simp at h1 h2 h3 h9; unfold partsF; simp [h1, h2]; intros; omega
  · simp at h1 h2 h3 h9; unfold partsF; simp [h1, h2, h3]; intros; omega
  · simp at h1 h2 h3 h9; unfold partsF; simp [h1, h2, h3, h9]
  · simp at h1 h2 h3 h4 h9; unfold partsF; simp [h1, h2, h3, h4]; intros; omega
  · simp at h1 h2 h3 h4 h9; unfold partsF; simp [h1, h2, h3, h4, h9]
  · simp at h1 h2 h3 h4 h5 h9; unfold partsF; simp [h1, h2, h3, h4, h5]; intros; omega
  · simp at h1 h2 h3 h4 h5 h9; unfold partsF; simp [h1, h2, h3, h4, h5, h9]
  · simp at h1 h2 h3 h4 h5 h9; unfold partsF; simp [h1, h2, h3, h4, h5]
  · simp at h1 h2 h3 h4 h5 h9; unfold partsF; simp [h1, h2, h3, h4, h5]
end SX
end Go.Proofs.YtjpdnkfplnnhhaaGreatDoor

/- Conditions: Right. -/
set_option linter.unusedVariables false
set_option maxRecDepth 100000
namespace Go.Proofs.YtjpdnkfplnnhhaaGreatDoor
namespace SX
open Go Go.Proofs
theorem b_congr {x y : Bool} (h : x = y) : SV.b x = SV.b y := congrArg SV.b h
theorem right_false {cs : List Cn} (h : ¬ rightP cs) : rightB cs = false := by unfold rightB; simp [h]
theorem right_true {cs : List Cn} (h : rightP cs) : rightB cs = true := by unfold rightB; simp [h]
theorem right_len {cs : List Cn} (h1 : (decide ((cs.length : Int) < 1) || decide ((32 : Int) < cs.length)) = true) : rightB cs = false := by
  refine right_false fun h => ?_
  have h2 := h.1
  simp at h1
  omega
theorem right_bad {cs : List Cn} {i : Nat} (hi : i < cs.length) (h : partsF (cs.getD i cn0) < 0 ∨ nAt cs i < partsF (cs.getD i cn0)) : rightB cs = false := by
  refine right_false fun hr => ?_
  have := hr.2.1 i hi
  omega
theorem right_end {cs : List Cn} (h0 : 1 ≤ cs.length ∧ cs.length ≤ 32) (hk : okAt cs cs.length) : decide (nAt cs cs.length = 1) = rightB cs := by
  unfold rightB rightP
  rw [Bool.eq_iff_iff]
  simp only [decide_eq_true_eq]
  exact ⟨fun h => ⟨h0, hk, h⟩, fun h => h.2.2⟩
theorem right_ok (cs : List Cn) (a : Option Addr) (cap : Nat) : CtrV Tryz.prog 12 [.imm Cn cn0 5 cenc cs a cap] (.b (rightB cs)) := by
  refine Ctr.enterV tabOk (fn := Tryz.f12) rfl rfl rfl rfl rfl rfl ?_
  refine ⟨fun h1 => b_congr (right_len h1).symm, fun h1 => ?_⟩
  have hl : 1 ≤ cs.length ∧ cs.length ≤ 32 := by
    have h1 : (decide ((cs.length : Int) < 1) || decide ((32 : Int) < cs.length)) = false := h1
    simp at h1; omega
  refine WpC.loop tabOk (β := Nat) (fun i => i ≤ cs.length ∧ okAt cs i) (fun i => [(17, .i .i64 i), (3, .i .i64 (nAt cs i))]) (fun _ => []) (fun i => cs.length - i) 0 34359607404 ⟨Nat.zero_le _, fun j hj => by omega⟩ ?_ ?_
  · exact ⟨rfl, ⟨⟨rfl, rfl, rfl⟩, ⟨rfl, rfl, rfl⟩, trivial⟩, ⟨[], rfl⟩, trivial, rfl⟩
  · rintro i ⟨hi, ho⟩
    have hb := nAt_bd ho
    have hp := partsF_le (cs.getD i cn0)
    refine ⟨fun h2 => ?_, fun h2 => ?_⟩
    · have h2 : i < cs.length := by simpa using h2
      refine ⟨fun _ => ⟨by omega, by omega⟩, ?_⟩
      refine OpC.callV rfl rfl rfl rfl rfl rfl rfl (fun _ => parts_ok (cs.getD i cn0)) ?_
      refine ⟨fun h3 => ?_, fun h3 => ?_⟩
      · refine b_congr (right_bad h2 ?_).symm
        have h3 : (decide (partsF (cs.getD i cn0) < 0) || decide (nAt cs i < partsF (cs.getD i cn0))) = true := h3
        simpa only [Bool.or_eq_true, decide_eq_true_eq] using h3
      · have h3 : (decide (partsF (cs.getD i cn0) < 0) || decide (nAt cs i < partsF (cs.getD i cn0))) = false := h3
        simp only [Bool.or_eq_false_iff, decide_eq_false_iff_not] at h3
        refine ⟨i + 1, ⟨h2, okAt_succ ho (by omega) (by omega)⟩, by omega, rfl, ⟨⟨?_, rfl, rfl⟩, ⟨?_, rfl, rfl⟩, trivial⟩, ⟨_, rfl⟩, trivial, rfl⟩
        · show SV.i .i64 (IntKind.i64.wrap ((i : Int) + 1)) = SV.i .i64 ((i + 1 : Nat) : Int)
          rw [wrap64 (by omega) (by omega)]; rfl
        · show SV.i .i64 (IntKind.i64.wrap (nAt cs i + IntKind.i64.wrap (1 - partsF (cs.getD i cn0)))) = SV.i .i64 (nAt cs i + (1 - partsF (cs.getD i cn0)))
          rw [wrap64 (x := 1 - partsF (cs.getD i cn0)) (by omega) (by omega), wrap64 (by omega) (by omega)]
    · have h2 : i = cs.length := by simp at h2; omega
      subst h2
      exact b_congr (right_end hl ho)
theorem rright_ok (cs : List Cn) (a : Option Addr) (cap : Nat) : CtrV Tryz.prog 14 [.imm Cn cn0 5 cenc cs a cap] (.b (rightB cs)) := by
  refine Ctr.enterV tabOk (fn := Tryz.f14) rfl rfl rfl rfl rfl rfl ?_
  refine ⟨fun h1 => b_congr (right_len h1).symm, fun h1 => ?_⟩
  have hl : 1 ≤ cs.length ∧ cs.length ≤ 32 := by
    have h1 : (decide ((cs.length : Int) < 1) || decide ((32 : Int) < cs.length)) = false := h1
    simp at h1; omega
  refine WpC.loop tabOk (β := Nat) (fun i => i ≤ cs.length ∧ okAt cs i) (fun i => [(4, .i .i64 i), (3, .i .i64 (nAt cs i))]) (fun _ => []) (fun i => cs.length - i) 0 68719460412 ⟨Nat.zero_le _, fun j hj => by omega⟩ ?_ ?_
  · exact ⟨rfl, ⟨⟨rfl, rfl, rfl⟩, ⟨rfl, rfl, rfl⟩, trivial⟩, ⟨[], rfl⟩, trivial, rfl⟩
  · rintro i ⟨hi, ho⟩
    have hb := nAt_bd ho
    have hp := partsF_le (cs.getD i cn0)
    refine ⟨fun h2 => ?_, fun h2 => ?_⟩
    · have h2 : i < cs.length := by simpa using h2
      refine ⟨fun _ => ⟨by omega, by omega⟩, ?_⟩
      refine OpC.callV rfl rfl rfl rfl rfl rfl rfl (fun _ => one_ok (cs.getD i cn0)) ?_
      refine ⟨fun h3 => ?_, fun h3 => ?_⟩
      · refine b_congr (right_bad h2 ?_).symm
        have h3 : (decide (partsF (cs.getD i cn0) < 0) || decide (nAt cs i < partsF (cs.getD i cn0))) = true := h3
        simpa only [Bool.or_eq_true, decide_eq_true_eq] using h3
      · have h3 : (decide (partsF (cs.getD i cn0) < 0) || decide (nAt cs i < partsF (cs.getD i cn0))) = false := h3
        simp only [Bool.or_eq_false_iff, decide_eq_false_iff_not] at h3
        refine ⟨i + 1, ⟨h2, okAt_succ ho (by omega) (by omega)⟩, by omega, rfl, ⟨⟨?_, rfl, rfl⟩, ⟨?_, rfl, rfl⟩, trivial⟩, ⟨_, rfl⟩, trivial, rfl⟩
        · show SV.i .i64 (IntKind.i64.wrap ((i : Int) + 1)) = SV.i .i64 ((i + 1 : Nat) : Int)
          rw [wrap64 (by omega) (by omega)]; rfl
        · show SV.i .i64 (IntKind.i64.wrap (IntKind.i64.wrap (nAt cs i - partsF (cs.getD i cn0)) + 1)) = SV.i .i64 (nAt cs i + (1 - partsF (cs.getD i cn0)))
          rw [wrap64 (x := nAt cs i - partsF (cs.getD i cn0)) (by omega) (by omega), wrap64 (by omega) (by omega)]
          exact i64_congr (by omega)
    · have h2 : i = cs.length := by simp at h2; omega
      subst h2
      exact b_congr (right_end hl ho)
theorem decide_cn (x y : Cn) : (decide (x.k = y.k) && (decide (x.t = y.t) && (decide (x.r = y.r) && (decide (x.l = y.l) && decide (x.v = y.v))))) = decide (x = y) := by
  rw [Bool.eq_iff_iff]
  cases x; cases y
  simp
theorem conds_ok (xs ys : List Cn) (a : Option Addr) (cap : Nat) (a' : Option Addr) (cap' : Nat) (hlen : (xs.length : Int) < 9223372036854775807) : CtrV Tryz.prog 16 [.imm Cn cn0 5 cenc xs a cap, .imm Cn cn0 5 cenc ys a' cap'] (.b (decide (xs = ys))) := by
  refine Ctr.enterV tabOk (fn := Tryz.f16) rfl rfl rfl rfl rfl rfl ?_
  refine ⟨fun h1 => b_congr ?_, fun h1 => ?_⟩
  · have h1 : ¬ (xs.length : Int) = ys.length := by simpa using h1
    exact (decide_eq_false fun e => h1 (by rw [e])).symm
  have hl : xs.length = ys.length := by
    have h1 : (xs.length : Int) = ys.length := by simpa using h1
    omega
  refine WpC.loop tabOk (β := Nat) (fun i => i ≤ xs.length ∧ ∀ j, j < i → xs.getD j cn0 = ys.getD j cn0) (fun i => [(5, .i .i64 i)]) (fun _ => []) (fun i => xs.length - i) 0 67106864 ⟨Nat.zero_le _, fun j hj => by omega⟩ ?_ ?_
  · exact ⟨rfl, ⟨⟨rfl, rfl, rfl⟩, trivial⟩, ⟨[], rfl⟩, trivial, rfl⟩
  · rintro i ⟨hi, ho⟩
    refine ⟨fun h2 => ?_, fun h2 => ?_⟩
    · have h2 : i < xs.length := by simpa using h2
      refine WpC.dr tabOk mixed 0 ?_
      refine ⟨fun _ => ⟨by omega, by omega⟩, ?_⟩
      refine ⟨fun _ => ⟨by omega, by omega⟩, ?_⟩
      refine ⟨by kernel_rfl, ?_⟩
      refine ⟨fun h3 => ?_, fun h3 => ?_⟩
      · have h3 : (!(decide ((xs.getD i cn0).k = (ys.getD i cn0).k) && (decide ((xs.getD i cn0).t = (ys.getD i cn0).t) && (decide ((xs.getD i cn0).r = (ys.getD i cn0).r) && (decide ((xs.getD i cn0).l = (ys.getD i cn0).l) && decide ((xs.getD i cn0).v = (ys.getD i cn0).v)))))) = true := h3
        rw [decide_cn] at h3
        refine b_congr (decide_eq_false fun e => ?_).symm
        simp [e] at h3
      · have h3 : (!(decide ((xs.getD i cn0).k = (ys.getD i cn0).k) && (decide ((xs.getD i cn0).t = (ys.getD i cn0).t) && (decide ((xs.getD i cn0).r = (ys.getD i cn0).r) && (decide ((xs.getD i cn0).l = (ys.getD i cn0).l) && decide ((xs.getD i cn0).v = (ys.getD i cn0).v)))))) = false := h3
        rw [decide_cn] at h3
        have h4 : xs.getD i cn0 = ys.getD i cn0 := by simpa only [Bool.not_eq_false', decide_eq_true_eq] using h3
        refine ⟨i + 1, ⟨h2, fun j hj => ?_⟩, by omega, rfl, ⟨⟨?_, rfl, rfl⟩, trivial⟩, ⟨_, rfl⟩, trivial, rfl⟩
        · rcases Nat.lt_succ_iff_lt_or_eq.1 hj with hj | rfl
          · exact ho j hj
          · exact h4
        · show SV.i .i64 (IntKind.i64.wrap ((i : Int) + 1)) = SV.i .i64 ((i + 1 : Nat) : Int)
          rw [wrap64 (by omega) (by omega)]; rfl
    · have h2 : i = xs.length := by simp at h2; omega
      subst h2
      refine b_congr (decide_eq_true ?_).symm
      apply List.ext_getElem hl
      intro j h5 h6
      have := ho j h5
      simpa [List.getD_eq_getElem?_getD, List.getElem?_eq_getElem h5, List.getElem?_eq_getElem h6] using this
end SX
end Go.Proofs.YtjpdnkfplnnhhaaGreatDoor

/- Conditions: what a node says, the closure of Eval, fold. -/
set_option linter.unusedVariables false
set_option maxRecDepth 100000
namespace Go.Proofs.YtjpdnkfplnnhhaaGreatDoor
namespace SX
open Go Go.Proofs
section
variable {P : Program} {T : Tb}
/-- A function that hands back a value, and leaves what it is lent as it was. -/
theorem Ctr.enterG (hT : TabOk P T) {f : FuncId} {fn : Func} {c : Code} {n : Nat} (hf : P.funcs[f]? = some fn) (hb : fn.body = some c) (hn : fn.ntmps = n) (hnm : (fn.name == "runtime.NumGoroutine") = false) {args : List SV} {H : List SB} {r : SV}
    (hl : Nat.ble args.length n = true) (hr : Bnd H.length r) (hH : BndH H.length H) (h : sx P T c (retK T fn.results.toList (fun r' h => r' = r ∧ ∃ X, h = H ++ X)) ⟨args ++ List.replicate (n - args.length) .dead, H⟩) : Ctr P f args H (fun r' h => r' = r ∧ h = H) := by
  have h1 := Ctr.enter hT hf hb hn hnm hl h
  exact h1.trim callX_m fun r' H1 ⟨e, X, hX⟩ => ⟨H, X, hX, Nat.le_refl _, hH, by rw [e]; exact hr, e, rfl⟩
end
def benc (b : Bool) : List SV := [.b b]
theorem nodeF_reg {o : Oc} {c : Cn} {l : List Bool} (h : c.k = 1) : nodeF o c l = decide (o.at (c.t.toNat * 8 + c.r.toNat) = c.v) := by unfold nodeF; rw [if_pos h]
theorem nodeF_loc {o : Oc} {c : Cn} {l : List Bool} (h : c.k = 2) : nodeF o c l = decide (o.at (24 + c.l.toNat) = c.v) := by unfold nodeF; rw [if_neg (by omega), if_pos h]
theorem nodeF_not {o : Oc} {c : Cn} {l : List Bool} (h : c.k = 3) : nodeF o c l = !(l.getD 0 false) := by unfold nodeF; rw [if_neg (by omega), if_neg (by omega), if_pos h]
theorem nodeF_and {o : Oc} {c : Cn} {l : List Bool} (h : c.k = 4) : nodeF o c l = (l.getD 0 false && l.getD 1 false) := by unfold nodeF; rw [if_neg (by omega), if_neg (by omega), if_neg (by omega), if_pos h]
theorem nodeF_or {o : Oc} {c : Cn} {l : List Bool} (h : c.k ≠ 1 ∧ c.k ≠ 2 ∧ c.k ≠ 3 ∧ c.k ≠ 4) : nodeF o c l = (l.getD 0 false || l.getD 1 false) := by unfold nodeF; rw [if_neg h.1, if_neg h.2.1, if_neg h.2.2.1, if_neg h.2.2.2]
theorem parts_reg {c : Cn} (hp : 0 ≤ partsF c) (h : c.k = 1) : (c.t = 0 ∨ c.t = 1 ∨ c.t = 2) ∧ (c.r = 0 ∨ c.r = 1 ∨ c.r = 2 ∨ c.r = 3 ∨ c.r = 4 ∨ c.r = 5 ∨ c.r = 6 ∨ c.r = 7) := by
  unfold partsF at hp
  rw [if_pos h] at hp
  split at hp
  · omega
  · omega
theorem parts_loc {c : Cn} (hp : 0 ≤ partsF c) (h : c.k = 2) : c.l = 0 ∨ c.l = 1 ∨ c.l = 2 := by
  unfold partsF at hp
  rw [if_neg (by omega), if_pos h] at hp
  split at hp
  · omega
  · omega
theorem parts_not {c : Cn} (hp : 0 ≤ partsF c) (h : c.k = 3) : partsF c = 1 := by
  unfold partsF at hp ⊢
  rw [if_neg (by omega), if_neg (by omega), if_pos h] at *
  split at hp
  · rename_i h2; rw [if_pos h2]
  · omega
theorem parts_two {c : Cn} (hp : 0 ≤ partsF c) (h : c.k ≠ 1 ∧ c.k ≠ 2 ∧ c.k ≠ 3) : partsF c = 2 ∧ (c.k = 4 ∨ c.k = 5) := by
  unfold partsF at hp ⊢
  rw [if_neg h.1, if_neg h.2.1, if_neg h.2.2] at *
  split at hp
  · rename_i h1
    split at hp
    · rename_i h2; rw [if_pos h1, if_pos h2]; exact ⟨rfl, h1⟩
    · omega
  · omega
set_option maxHeartbeats 4000000 in
/-- The closure of Eval, at a node that may stand there, its parts at hand. -/
theorem evalC_ok (o : Oc) (c : Cn) (l : List Bool) (a : Option Addr) (cap : Nat) (hp : 0 ≤ partsF c) (hl : (l.length : Int) = partsF c) :
    Ctr Tryz.prog 30 [.agg (cenc c), .imm Bool false 1 benc l a cap, .ptr 0 1 0 []] [.mem 26 (oenc o) 1 0] (fun r h => r = .b (nodeF o c l) ∧ h = [.mem 26 (oenc o) 1 0]) := by
  refine Ctr.enterG tabOkF (fn := Tryz.f30) rfl rfl rfl rfl rfl rfl ⟨⟨rfl, rfl, rfl, rfl, rfl, rfl, rfl, rfl, rfl, rfl, rfl, rfl, rfl, rfl, rfl, rfl, rfl, rfl, rfl, rfl, rfl, rfl, rfl, rfl, rfl, rfl, rfl, trivial⟩, trivial⟩ ?_
  refine ⟨fun h1 => ?_, fun h1 => ⟨fun h2 => ?_, fun h2 => ⟨fun h3 => ?_, fun h3 => ⟨fun h4 => ?_, fun h4 => ?_⟩⟩⟩⟩
  · have h1 : c.k = 1 := of_decide_eq_true h1
    rw [nodeF_reg h1]
    obtain ⟨ht, hr⟩ := parts_reg hp h1
    obtain ⟨ck, ct, cr, cl, cv⟩ := c
    simp only at ht hr
    clear hp hl h1
    refine WpC.dr tabOkF mixed 0 ?_
    rcases ht with rfl | rfl | rfl <;> rcases hr with rfl | rfl | rfl | rfl | rfl | rfl | rfl | rfl
    all_goals exact ⟨fun _ => by simp, ⟨fun _ => by simp, ⟨by kernel_rfl, ⟨rfl, _, rfl⟩⟩⟩⟩
  · have h2 : c.k = 2 := of_decide_eq_true h2
    rw [nodeF_loc h2]
    have ht := parts_loc hp h2
    obtain ⟨ck, ct, cr, cl, cv⟩ := c
    simp only at ht
    clear hp hl h1 h2
    refine WpC.dr tabOkF mixed 0 ?_
    rcases ht with rfl | rfl | rfl
    all_goals exact ⟨fun _ => by simp, ⟨by kernel_rfl, ⟨rfl, _, rfl⟩⟩⟩
  · have h1 : ¬ c.k = 1 := of_decide_eq_false h1
    have h2 : ¬ c.k = 2 := of_decide_eq_false h2
    have h3 : c.k = 3 := of_decide_eq_true h3
    have := parts_not hp h3
    rw [nodeF_not h3]
    exact ⟨fun _ => ⟨by decide, by omega⟩, ⟨rfl, _, rfl⟩⟩
  · have h1 : ¬ c.k = 1 := of_decide_eq_false h1
    have h2 : ¬ c.k = 2 := of_decide_eq_false h2
    have h3 : ¬ c.k = 3 := of_decide_eq_false h3
    have h4 : c.k = 4 := of_decide_eq_true h4
    have := parts_two hp ⟨h1, h2, h3⟩
    rw [nodeF_and h4]
    exact ⟨fun _ => ⟨by decide, by omega⟩, ⟨fun _ => ⟨by decide, by omega⟩, ⟨rfl, _, rfl⟩⟩⟩
  · have h1 : ¬ c.k = 1 := of_decide_eq_false h1
    have h2 : ¬ c.k = 2 := of_decide_eq_false h2
    have h3 : ¬ c.k = 3 := of_decide_eq_false h3
    have h4 : ¬ c.k = 4 := of_decide_eq_false h4
    have := parts_two hp ⟨h1, h2, h3⟩
    rw [nodeF_or ⟨h1, h2, h3, h4⟩]
    exact ⟨fun _ => ⟨by decide, by omega⟩, ⟨fun _ => ⟨by decide, by omega⟩, ⟨rfl, _, rfl⟩⟩⟩
end SX
end Go.Proofs.YtjpdnkfplnnhhaaGreatDoor

/- Conditions: fold over bools, Eval. -/
set_option linter.unusedVariables false
set_option maxRecDepth 100000
namespace Go.Proofs.YtjpdnkfplnnhhaaGreatDoor
namespace SX
open Go Go.Proofs
theorem bndO {N : Nat} (o : Oc) : BndL N (oenc o) := ⟨rfl, rfl, rfl, rfl, rfl, rfl, rfl, rfl, rfl, rfl, rfl, rfl, rfl, rfl, rfl, rfl, rfl, rfl, rfl, rfl, rfl, rfl, rfl, rfl, rfl, rfl, rfl, trivial⟩
theorem cenc_w (c : Cn) : wdL (cenc c) = 5 := rfl
theorem cenc_ok (c : Cn) (m : Mem) : OkL m [] (cenc c) := by simp [cenc, OkL, Ok, isUnit]
theorem benc_w (b : Bool) : wdL (benc b) = 1 := rfl
theorem benc_ok (b : Bool) (m : Mem) : OkL m [] (benc b) := by simp [benc, OkL, Ok, isUnit]
def kAt (N : Nat) (c : Cn) : Int := IntKind.i64.wrap ((N : Int) - partsF c)
theorem kAt_eq {N : Nat} {c : Cn} (h0 : 0 ≤ partsF c) (h1 : partsF c ≤ N) (h2 : N ≤ 1000) : kAt N c = (N : Int) - partsF c := wrap64 (by omega) (by omega)
theorem stk_succ {o : Oc} {cs : List Cn} {i N : Nat} {xs : List Bool} (h : xs = stk o cs i) (hN : xs.length = N) (h0 : 0 ≤ partsF (cs.getD i cn0)) (h1 : partsF (cs.getD i cn0) ≤ N) (h2 : N ≤ 1000) :
    xs.take (kAt N (cs.getD i cn0)).toNat ++ [nodeF o (cs.getD i cn0) ((xs.drop (kAt N (cs.getD i cn0)).toNat).take (N - (kAt N (cs.getD i cn0)).toNat))] = stk o cs (i + 1) := by
  have e : (kAt N (cs.getD i cn0)).toNat = N - (partsF (cs.getD i cn0)).toNat := by rw [kAt_eq h0 h1 h2]; omega
  simp only [stk]
  rw [← h, hN, e, List.take_of_length_le (l := xs.drop _) (by simp; omega)]
set_option maxHeartbeats 1000000 in
theorem foldB_ok (o : Oc) (cs : List Cn) (a : Option Addr) (cap : Nat) (hr : okAt cs cs.length) (h1 : 1 ≤ cs.length) (h32 : cs.length ≤ 32) :
    Ctr Tryz.prog 29 [.imm Cn cn0 5 cenc cs a cap, .fn 30 [.ptr 0 1 0 []]] [.mem 26 (oenc o) 1 0] (fun r h => r = .b ((stk o cs cs.length).getD 0 false) ∧ h = [.mem 26 (oenc o) 1 0]) := by
  refine Ctr.enterG tabOk (fn := Tryz.f29) rfl rfl rfl rfl rfl rfl ⟨bndO o, trivial⟩ ?_
  refine WpC.shift (Shift.row (d := 5) rfl 0 4 [.arr 0 Bool false 1 benc []] (fun E => rfl) (fun m V => ⟨⟨rfl, rfl, benc_w, fun j hj => by omega⟩, trivial⟩)) ?_
  refine WpC.loop tabOk (β := Nat × Nat × List Bool) (fun b => b.1 ≤ cs.length ∧ b.2.2 = stk o cs b.1 ∧ b.2.2.length = b.2.1) (fun b => [(12, .i .i64 b.1), (5, .sl 1 b.1 0 b.2.1 none 0)]) (fun b => [.mem 26 (oenc o) 1 0, .mem 4 [.arr b.2.1 Bool false 1 benc b.2.2] b.1 1]) (fun b => cs.length - b.1) (0, 0, []) 17179866016 ⟨Nat.zero_le _, rfl, rfl⟩ ?_ ?_
  · exact ⟨rfl, ⟨⟨rfl, rfl, rfl⟩, ⟨rfl, rfl, rfl⟩, trivial⟩, ⟨[], rfl⟩, ⟨bndO o, ⟨fun _ => rfl, trivial⟩, trivial⟩, rfl⟩
  · rintro ⟨i, N, xs⟩ ⟨hi, hx, hN⟩
    simp only at hi hx hN
    have hoi : okAt cs i := fun j hj => hr j (by omega)
    have hnl := stk_len (o := o) hoi
    rw [← hx, hN] at hnl
    have hnb := nAt_bd hoi
    refine ⟨fun h2 => ?_, fun h2 => ?_⟩
    · have h2 : i < cs.length := by simpa using h2
      have hp := hr i h2
      rw [← hnl] at hp
      have hk := kAt_eq (N := N) (c := cs.getD i cn0) hp.1 hp.2 (by omega)
      refine ⟨fun _ => ⟨by omega, by omega⟩, ?_⟩
      refine OpC.callV rfl rfl rfl rfl rfl rfl rfl (fun _ => parts_ok (cs.getD i cn0)) ?_
      refine WpC.dr tabOk mixed 0 ?_
      refine ⟨fun _ => ?_, ?_⟩
      · show ((i = i ∧ 1 = 1 ∧ 0 < 1) ∧ 0 = 0 * 1 ∧ (0 + N) * 1 ≤ N * 1 + 0) ∧ ((kAt N (cs.getD i cn0)).toNat < N ∨ 0 = 0) ∧ 0 ≤ kAt N (cs.getD i cn0) ∧ kAt N (cs.getD i cn0) ≤ N
        omega
      refine OpD.callG [0, 1] rfl rfl rfl rfl rfl rfl (r := .b (nodeF o (cs.getD i cn0) ((xs.drop (kAt N (cs.getD i cn0)).toNat).take (N - (kAt N (cs.getD i cn0)).toNat)))) (fun _ H1 hH => ?_) ?_
      · have g0 : H1[0]? = some (.mem 26 (oenc o) 1 0) := hH 0 (by simp)
        have g1 : H1[1]? = some (.mem 4 [.arr N Bool false 1 benc xs] i 1) := hH 1 (by simp)
        refine Ctr.frzL (A := [.agg (cenc (cs.getD i cn0))]) (B := [.ptr 0 1 0 []]) (i := (kAt N (cs.getD i cn0)).toNat) (K := fun r => r = _) g1 rfl (by show (kAt N (cs.getD i cn0)).toNat + (N - (kAt N (cs.getD i cn0)).toNat) ≤ N; omega) hN ?_ benc_w benc_ok ?_ (fun r e => by rw [e]; rfl) (fun a cap => ?_)
        · show 0 + (kAt N (cs.getD i cn0)).toNat * 1 = (kAt N (cs.getD i cn0)).toNat * 1
          omega
        · exact ⟨rfl, by decide, (Nat.zero_add _).symm⟩
        · refine Ctr.spread (evalC_ok o (cs.getD i cn0) _ a cap hp.1 ?_) (fun ρ => rfl) _ [0] rfl rfl ⟨?_, trivial⟩ rfl
          · simp only [List.length_take, List.length_drop]; omega
          · show (H1.set 1 (.gone i))[0]? = some (.mem 26 (oenc o) 1 0)
            rw [List.getElem?_set_ne (by omega)]; exact g0
      refine ⟨by kernel_rfl, ?_⟩
      refine ⟨fun _ => ?_, ?_⟩
      · show ((i = i ∧ 1 = 1 ∧ 0 < 1) ∧ 0 = 0 * 1 ∧ (0 + N) * 1 ≤ N * 1 + 0) ∧ 0 ≤ kAt N (cs.getD i cn0) ∧ kAt N (cs.getD i cn0) ≤ N
        omega
      refine OpC.shift (Shift.trim (k := 1) (M := (kAt N (cs.getD i cn0)).toNat) rfl (by show (kAt N (cs.getD i cn0)).toNat ≤ N; omega) rfl) ?_
      refine OpC.yld 0 rfl (yld_app_row tabOk rfl rfl rfl rfl rfl rfl rfl rfl rfl (SrcA.sl rfl rfl rfl rfl (by decide) rfl) (Joins.arrN (y := nodeF o (cs.getD i cn0) ((xs.drop (kAt N (cs.getD i cn0)).toNat).take (N - (kAt N (cs.getD i cn0)).toNat))) ?_ rfl benc_w) (by decide) ?_ ?_) (fun d hd => by cases hd; rfl) ?_
      · show (xs.take (kAt N (cs.getD i cn0)).toNat).length = (kAt N (cs.getD i cn0)).toNat
        rw [List.length_take]; omega
      · exact Nat.le_trans (show (kAt N (cs.getD i cn0)).toNat + 1 ≤ 1000 by omega) (by decide)
      · show ((kAt N (cs.getD i cn0)).toNat + 1) * 1 ≤ 140737488355328
        omega
      refine ⟨(i + 1, (kAt N (cs.getD i cn0)).toNat + 1, _), ⟨h2, stk_succ hx hN hp.1 hp.2 (by omega), ?_⟩, ?_, rfl, ⟨⟨?_, rfl, rfl⟩, ⟨rfl, rfl, rfl⟩, trivial⟩, ⟨_, rfl⟩, ⟨bndO o, ⟨fun _ => rfl, trivial⟩, trivial⟩, rfl⟩
      · show (xs.take (kAt N (cs.getD i cn0)).toNat ++ [_]).length = (kAt N (cs.getD i cn0)).toNat + 1
        rw [List.length_append, List.length_take, List.length_singleton]; omega
      · show cs.length - (i + 1) < cs.length - i
        omega
      · show SV.i .i64 (IntKind.i64.wrap ((i : Int) + 1)) = SV.i .i64 ((i + 1 : Nat) : Int)
        rw [wrap64 (by omega) (by omega)]; rfl
    · have h2 : i = cs.length := by simp at h2; omega
      subst h2
      refine ⟨fun _ => ?_, ?_⟩
      · show 0 = 0 * 1 ∧ (0 : Int) ≤ 0 ∧ (0 : Int) < N
        have := hnb.2.2 (by omega)
        omega
      · refine ⟨fun _ => ⟨rfl, ?_⟩, b_congr ?_, ⟨_, rfl⟩⟩
        · show 0 + Int.toNat 0 < N
          have := hnb.2.2 (by omega)
          have : Int.toNat 0 = 0 := rfl
          omega
        · rw [← hx]
          rfl
theorem evalF_right {o : Oc} {cs : List Cn} (h : rightB cs = true) : evalF o cs = (stk o cs cs.length).getD 0 false := by unfold evalF; rw [if_pos h]
theorem evalF_wrong {o : Oc} {cs : List Cn} (h : rightB cs = false) : evalF o cs = false := by unfold evalF; rw [if_neg (by rw [h]; decide)]
theorem rightP_of {cs : List Cn} (h : rightB cs = true) : rightP cs := by unfold rightB at h; simpa using h
theorem eval_ok (o : Oc) (cs : List Cn) (a : Option Addr) (cap : Nat) : CtrV Tryz.prog 13 [.agg (oenc o), .imm Cn cn0 5 cenc cs a cap] (.b (evalF o cs)) := by
  refine Ctr.enterV tabOk (fn := Tryz.f13) rfl rfl rfl rfl rfl rfl ?_
  refine OpC.callV rfl rfl rfl rfl rfl rfl rfl (fun _ => right_ok cs a cap) ?_
  refine ⟨fun h1 => ?_, fun h1 => ?_⟩
  · have h1 : (!rightB cs) = true := h1
    exact b_congr (evalF_wrong (by simpa using h1)).symm
  · have h1 : (!rightB cs) = false := h1
    have h2 : rightB cs = true := by simpa using h1
    obtain ⟨⟨q1, q2⟩, q3, q4⟩ := rightP_of h2
    refine OpC.callG rfl rfl rfl rfl rfl rfl (fun _ => foldB_ok o cs a cap q3 q1 q2) ?_
    exact b_congr (evalF_right h2).symm
end SX
end Go.Proofs.YtjpdnkfplnnhhaaGreatDoor

/- Conditions: the reference's Eval. -/
set_option linter.unusedVariables false
set_option maxRecDepth 100000
namespace Go.Proofs.YtjpdnkfplnnhhaaGreatDoor
namespace SX
open Go Go.Proofs
theorem take_set_last {xs : List Bool} {N : Nat} {v : Bool} (h0 : 1 ≤ N) (hN : N ≤ xs.length) : (xs.set (N - 1) v).take N = xs.take (N - 1) ++ [v] := by
  apply List.ext_getElem?
  intro j
  by_cases hj : j < N - 1
  · rw [List.getElem?_append_left (by simp; omega), List.getElem?_take_of_lt (by omega), List.getElem?_take_of_lt (by omega), List.getElem?_set_ne (by omega)]
  · by_cases hj2 : j = N - 1
    · subst hj2
      rw [List.getElem?_append_right (by simp; omega), List.getElem?_take_of_lt (by omega), List.getElem?_set_self (by omega)]
      simp [List.length_take, Nat.min_eq_left (show N - 1 ≤ xs.length by omega)]
    · rw [List.getElem?_eq_none (by simp; omega), List.getElem?_eq_none (by simp; omega)]
theorem getD_take_drop {xs : List Bool} {N k j : Nat} (h : k + j < N) (hN : N ≤ xs.length) : ((xs.take N).drop k).getD j false = xs.getD (k + j) false := by
  simp [List.getD_eq_getElem?_getD, List.getElem?_drop, List.getElem?_take_of_lt h]
theorem stk_leaf {o : Oc} {cs : List Cn} {i N : Nat} {xs : List Bool} {v : Bool} (h : xs.take N = stk o cs i) (hp : partsF (cs.getD i cn0) = 0) (hv : ∀ l, nodeF o (cs.getD i cn0) l = v) (hN : N ≤ xs.length) : (xs.take N ++ [v]).take (N + 1) = stk o cs (i + 1) := by
  simp only [stk]
  rw [← h, hp, hv]
  simp [List.take_append, Nat.min_eq_left hN]
theorem stk_one {o : Oc} {cs : List Cn} {i N : Nat} {xs : List Bool} (h : xs.take N = stk o cs i) (hp : partsF (cs.getD i cn0) = 1) (hk : (cs.getD i cn0).k = 3) (h0 : 1 ≤ N) (hN : N ≤ xs.length) : (xs.set (N - 1) (!(xs.getD (N - 1) false))).take N = stk o cs (i + 1) := by
  rw [take_set_last h0 hN]
  simp only [stk]
  have hl : (xs.take N).length = N := by simp; omega
  rw [← h, hp, hl, nodeF_not hk]
  show _ = (xs.take N).take (N - 1) ++ [!((xs.take N).drop (N - 1)).getD 0 false]
  rw [getD_take_drop (by omega) hN, List.take_take, Nat.min_eq_left (by omega)]
  simp
theorem stk_pair {o : Oc} {cs : List Cn} {i N : Nat} {xs : List Bool} {v : Bool} (h : xs.take N = stk o cs i) (hp : partsF (cs.getD i cn0) = 2) (h0 : 2 ≤ N) (hN : N ≤ xs.length)
    (hv : ∀ l : List Bool, l.getD 0 false = xs.getD (N - 2) false → l.getD 1 false = xs.getD (N - 1) false → nodeF o (cs.getD i cn0) l = v) : (xs.set (N - 2) v).take (N - 1) = stk o cs (i + 1) := by
  have := take_set_last (xs := xs) (N := N - 1) (v := v) (by omega) (by omega)
  rw [show N - 1 - 1 = N - 2 by omega] at this
  rw [this]
  simp only [stk]
  have hl : (xs.take N).length = N := by simp; omega
  rw [← h, hp, hl]
  show _ = (xs.take N).take (N - 2) ++ [nodeF o (cs.getD i cn0) ((xs.take N).drop (N - 2))]
  rw [hv _ (by rw [getD_take_drop (by omega) hN]; rfl) (by rw [getD_take_drop (by omega) hN]; congr 1; omega), List.take_take, Nat.min_eq_left (by omega)]
set_option maxHeartbeats 4000000 in
theorem reval_ok (o : Oc) (cs : List Cn) (a : Option Addr) (cap : Nat) : CtrV Tryz.prog 15 [.agg (oenc o), .imm Cn cn0 5 cenc cs a cap] (.b (evalF o cs)) := by
  refine Ctr.enterV tabOkM (fn := Tryz.f15) rfl rfl rfl rfl rfl rfl ?_
  refine OpC.callV rfl rfl rfl rfl rfl rfl rfl (fun _ => rright_ok cs a cap) ?_
  refine ⟨fun h1 => ?_, fun h1 => ?_⟩
  · have h1 : (!rightB cs) = true := h1
    exact b_congr (evalF_wrong (by simpa using h1)).symm
  have h2 : rightB cs = true := by have h1 : (!rightB cs) = false := h1; simpa using h1
  obtain ⟨⟨q1, q2⟩, hr, q4⟩ := rightP_of h2
  rw [evalF_right h2]
  clear h1 h2
  refine WpC.shift (Shift.row (d := 6) rfl 0 4 [.arr 0 Bool false 1 benc []] (fun E => rfl) (fun m V => ⟨⟨rfl, rfl, benc_w, fun j hj => by omega⟩, trivial⟩)) ?_
  refine WpC.loop tabOkM (β := Nat × Nat × Nat × Nat × List Bool) (fun b => b.1 ≤ cs.length ∧ b.2.2.2.2.take b.2.2.1 = stk o cs b.1 ∧ b.2.2.2.2.length = b.2.2.2.1 ∧ b.2.2.1 ≤ b.2.2.2.1 ∧ (b.2.2.1 : Int) = nAt cs b.1 ∧ b.2.2.2.1 ≤ b.1) (fun b => [(7, .i .i64 b.1), (6, .sl 1 b.2.1 0 b.2.2.1 none 0)]) (fun b => [.mem 26 (oenc o) 1 0, .mem 4 [.arr b.2.2.2.1 Bool false 1 benc b.2.2.2.2] b.2.1 1]) (fun b => cs.length - b.1) (0, 0, 0, 0, []) 10384593717069655257060992658424768 ⟨Nat.zero_le _, rfl, rfl, Nat.le_refl _, rfl, Nat.le_refl _⟩ ?_ ?_
  · exact ⟨rfl, ⟨⟨rfl, rfl, rfl⟩, ⟨rfl, rfl, rfl⟩, trivial⟩, ⟨[], rfl⟩, ⟨bndO o, ⟨fun _ => rfl, trivial⟩, trivial⟩, rfl⟩
  · rintro ⟨i, ver, N, M, xs⟩ ⟨hi, hx, hM, hN, hn, hMi⟩
    simp only at hi hx hM hN hn hMi
    have hoi : okAt cs i := fun j hj => hr j (by omega)
    have hnb := nAt_bd hoi
    refine ⟨fun h2 => ?_, fun h2 => ?_⟩
    · have h2 : i < cs.length := by simpa using h2
      have hp := hr i h2
      rw [← hn] at hp
      have hn1 : nAt cs (i + 1) = nAt cs i + (1 - partsF (cs.getD i cn0)) := rfl
      refine ⟨fun _ => ⟨by omega, by omega⟩, ?_⟩
      refine ⟨fun h3 => ?_, fun h3 => ⟨fun h4 => ?_, fun h4 => ⟨fun h5 => ?_, fun h5 => ⟨fun h6 => ?_, fun h6 => ⟨fun h7 => ?_, fun h7 => ?_⟩⟩⟩⟩⟩
      · have h3 : (cs.getD i cn0).k = 1 := of_decide_eq_true h3
        have hp0 : partsF (cs.getD i cn0) = 0 := by
          have := hp.1
          unfold partsF at this ⊢
          rw [if_pos h3] at *
          split at this
          · rename_i h; rw [if_pos h]
          · omega
        obtain ⟨ht, hr'⟩ := parts_reg hp.1 h3
        have hleaf := fun v => stk_leaf (v := v) hx hp0
        simp only [nodeF_reg h3] at hleaf
        refine WpC.shift (Shift.trim (k := 1) (M := N) rfl hN rfl) ?_
        generalize hcc : cs.getD (Int.toNat ((i, ver, N, M, xs).fst : Int)) cn0 = c
        have hc2 : cs.getD i cn0 = c := hcc
        rw [hc2] at ht hr' hleaf
        rw [hp0] at hn1
        clear hcc h3 hp0 hp
        obtain ⟨ck, ct, cr, cl, cv⟩ := c
        simp only at ht hr' hleaf
        rcases ht with rfl | rfl | rfl <;> rcases hr' with rfl | rfl | rfl | rfl | rfl | rfl | rfl | rfl
        all_goals
          refine WpC.dr tabOkM mixed 1 ?_
          refine ⟨fun _ => by simp, ⟨fun _ => by simp, ?_⟩⟩
          refine OpD.yld 4 rfl rfl ?_ (yld_app_row tabOkM rfl rfl rfl rfl rfl rfl rfl rfl rfl (SrcA.sl rfl rfl rfl rfl (by decide) rfl) (Joins.arrN (y := _) ?_ rfl benc_w) (by decide) ?_ ?_) ?_
          · exact rowE_w
          · show (xs.take N).length = N
            rw [List.length_take]; omega
          · exact Nat.le_trans (show N + 1 ≤ 1000 by omega) (by decide)
          · show (N + 1) * 1 ≤ 140737488355328
            omega
          refine ⟨by kernel_rfl, ?_⟩
          refine ⟨(i + 1, ver + 1, N + 1, N + 1, _), ⟨h2, hleaf _ (fun _ => rfl) (by omega), ?_, Nat.le_refl _, ?_, ?_⟩, ?_, rfl, ⟨⟨?_, rfl, rfl⟩, ⟨rfl, rfl, rfl⟩, trivial⟩, ⟨_, rfl⟩, ⟨bndO o, ⟨fun _ => rfl, trivial⟩, trivial⟩, rfl⟩
          · show (xs.take N ++ [_]).length = N + 1
            rw [List.length_append, List.length_take, List.length_singleton]; omega
          · show ((N + 1 : Nat) : Int) = nAt cs (i + 1)
            omega
          · show N + 1 ≤ i + 1
            omega
          · show cs.length - (i + 1) < cs.length - i
            omega
          · show SV.i .i64 (IntKind.i64.wrap ((i : Int) + 1)) = SV.i .i64 ((i + 1 : Nat) : Int)
            rw [wrap64 (by omega) (by omega)]; rfl
      · have h4 : (cs.getD i cn0).k = 2 := of_decide_eq_true h4
        have hp0 : partsF (cs.getD i cn0) = 0 := by
          have := hp.1
          unfold partsF at this ⊢
          rw [if_neg (by omega), if_pos h4] at *
          split at this
          · rename_i h; rw [if_pos h]
          · omega
        have ht := parts_loc hp.1 h4
        have hleaf := fun v => stk_leaf (v := v) hx hp0
        simp only [nodeF_loc h4] at hleaf
        refine WpC.shift (Shift.trim (k := 1) (M := N) rfl hN rfl) ?_
        generalize hcc : cs.getD (Int.toNat ((i, ver, N, M, xs).fst : Int)) cn0 = c
        have hc2 : cs.getD i cn0 = c := hcc
        rw [hc2] at ht hleaf
        rw [hp0] at hn1
        clear hcc h4 hp0 hp
        obtain ⟨ck, ct, cr, cl, cv⟩ := c
        simp only at ht hleaf
        rcases ht with rfl | rfl | rfl
        all_goals
          refine WpC.dr tabOkM mixed 1 ?_
          refine ⟨fun _ => by simp, ?_⟩
          refine OpD.yld 4 rfl rfl ?_ (yld_app_row tabOkM rfl rfl rfl rfl rfl rfl rfl rfl rfl (SrcA.sl rfl rfl rfl rfl (by decide) rfl) (Joins.arrN (y := _) ?_ rfl benc_w) (by decide) ?_ ?_) ?_
          · exact rowE_w
          · show (xs.take N).length = N
            rw [List.length_take]; omega
          · exact Nat.le_trans (show N + 1 ≤ 1000 by omega) (by decide)
          · show (N + 1) * 1 ≤ 140737488355328
            omega
          refine ⟨by kernel_rfl, ?_⟩
          refine ⟨(i + 1, ver + 1, N + 1, N + 1, _), ⟨h2, hleaf _ (fun _ => rfl) (by omega), ?_, Nat.le_refl _, ?_, ?_⟩, ?_, rfl, ⟨⟨?_, rfl, rfl⟩, ⟨rfl, rfl, rfl⟩, trivial⟩, ⟨_, rfl⟩, ⟨bndO o, ⟨fun _ => rfl, trivial⟩, trivial⟩, rfl⟩
          · show (xs.take N ++ [_]).length = N + 1
            rw [List.length_append, List.length_take, List.length_singleton]; omega
          · show ((N + 1 : Nat) : Int) = nAt cs (i + 1)
            omega
          · show N + 1 ≤ i + 1
            omega
          · show cs.length - (i + 1) < cs.length - i
            omega
          · show SV.i .i64 (IntKind.i64.wrap ((i : Int) + 1)) = SV.i .i64 ((i + 1 : Nat) : Int)
            rw [wrap64 (by omega) (by omega)]; rfl
      · have h5 : (cs.getD i cn0).k = 3 := of_decide_eq_true h5
        have hp1 := parts_not hp.1 h5
        have hw1 : IntKind.i64.wrap ((N : Int) - 1) = (N : Int) - 1 := wrap64 (by omega) (by omega)
        have hone := stk_one hx hp1 h5 (by omega) (by omega)
        rw [hp1] at hn1
        have hj : 0 + (IntKind.i64.wrap ((N : Int) - 1)).toNat = N - 1 := by rw [hw1]; omega
        have ho1 : 0 = 0 * 1 ∧ 0 ≤ IntKind.i64.wrap ((N : Int) - 1) ∧ IntKind.i64.wrap ((N : Int) - 1) < N := by rw [hw1]; omega
        have ho2 : ver = ver ∧ 0 + (IntKind.i64.wrap ((N : Int) - 1)).toNat < M := by rw [hj]; omega
        refine ⟨fun _ => ho1, ⟨fun _ => ho2, ⟨fun _ => ho1, ⟨rfl, ⟨ho2.2, ⟨_, rfl, ?_⟩⟩⟩⟩⟩⟩
        refine ⟨(i + 1, ver, N, M, xs.set (0 + (IntKind.i64.wrap ((N : Int) - 1)).toNat) (!(xs.getD (0 + (IntKind.i64.wrap ((N : Int) - 1)).toNat) false))), ⟨h2, by rw [hj]; exact hone, ?_, hN, ?_, ?_⟩, ?_, rfl, ⟨⟨?_, rfl, rfl⟩, ⟨rfl, rfl, rfl⟩, trivial⟩, ⟨_, rfl⟩, ⟨bndO o, ⟨fun _ => rfl, trivial⟩, trivial⟩, rfl⟩
        · rw [List.length_set]; exact hM
        · show (N : Int) = nAt cs (i + 1)
          omega
        · show M ≤ i + 1
          omega
        · show cs.length - (i + 1) < cs.length - i
          omega
        · show SV.i .i64 (IntKind.i64.wrap ((i : Int) + 1)) = SV.i .i64 ((i + 1 : Nat) : Int)
          rw [wrap64 (by omega) (by omega)]; rfl
      · have h6 : (cs.getD i cn0).k = 4 := of_decide_eq_true h6
        have hk2 := parts_two hp.1 ⟨by have h3 : ¬ (cs.getD i cn0).k = 1 := of_decide_eq_false h3; exact h3, by have h4 : ¬ (cs.getD i cn0).k = 2 := of_decide_eq_false h4; exact h4, by have h5 : ¬ (cs.getD i cn0).k = 3 := of_decide_eq_false h5; exact h5⟩
        have hp2 := hk2.1
        have hw1 : IntKind.i64.wrap ((N : Int) - 1) = (N : Int) - 1 := wrap64 (by omega) (by omega)
        have hw2 : IntKind.i64.wrap ((N : Int) - 2) = (N : Int) - 2 := wrap64 (by omega) (by omega)
        have hpair := stk_pair (v := (xs.getD (N - 2) false && xs.getD (N - 1) false)) hx hp2 (by omega) (by omega) (fun l e1 e2 => by rw [nodeF_and h6, e1, e2])
        rw [hp2] at hn1
        have hj : 0 + (IntKind.i64.wrap ((N : Int) - 1)).toNat = N - 1 := by rw [hw1]; omega
        have hj2 : 0 + (IntKind.i64.wrap ((N : Int) - 2)).toNat = N - 2 := by rw [hw2]; omega
        have hj3 : (IntKind.i64.wrap ((N : Int) - 1)).toNat = N - 1 := by rw [hw1]; omega
        have ho1 : 0 = 0 * 1 ∧ 0 ≤ IntKind.i64.wrap ((N : Int) - 1) ∧ IntKind.i64.wrap ((N : Int) - 1) < N := by rw [hw1]; omega
        have ho2 : ver = ver ∧ 0 + (IntKind.i64.wrap ((N : Int) - 1)).toNat < M := by rw [hj]; omega
        have ho3 : 0 = 0 * 1 ∧ 0 ≤ IntKind.i64.wrap ((N : Int) - 2) ∧ IntKind.i64.wrap ((N : Int) - 2) < N := by rw [hw2]; omega
        have ho4 : ver = ver ∧ 0 + (IntKind.i64.wrap ((N : Int) - 2)).toNat < M := by rw [hj2]; omega
        have ho5 : ((ver = ver ∧ 1 = 1 ∧ 0 < 1) ∧ 0 = 0 * 1 ∧ (0 + N) * 1 ≤ M * 1 + 0) ∧ 0 ≤ IntKind.i64.wrap ((N : Int) - 1) ∧ IntKind.i64.wrap ((N : Int) - 1) ≤ N := by rw [hw1]; omega
        refine ⟨fun _ => ho3, ⟨fun _ => ho4, ⟨fun _ => ho1, ⟨fun _ => ho2, ⟨fun _ => ho3, ⟨rfl, ⟨ho4.2, ⟨_, rfl, ⟨fun _ => ho5, ?_⟩⟩⟩⟩⟩⟩⟩⟩⟩
        refine ⟨(i + 1, ver, (IntKind.i64.wrap ((N : Int) - 1)).toNat, M, xs.set (0 + (IntKind.i64.wrap ((N : Int) - 2)).toNat) (xs.getD (0 + (IntKind.i64.wrap ((N : Int) - 2)).toNat) false && xs.getD (0 + (IntKind.i64.wrap ((N : Int) - 1)).toNat) false)), ⟨h2, by rw [hj, hj2, hj3]; exact hpair, ?_, ?_, ?_, ?_⟩, ?_, rfl, ⟨⟨?_, rfl, rfl⟩, ⟨rfl, rfl, rfl⟩, trivial⟩, ⟨_, rfl⟩, ⟨bndO o, ⟨fun _ => rfl, trivial⟩, trivial⟩, rfl⟩
        · rw [List.length_set]; exact hM
        · show (IntKind.i64.wrap ((N : Int) - 1)).toNat ≤ M
          omega
        · show (((IntKind.i64.wrap ((N : Int) - 1)).toNat : Nat) : Int) = nAt cs (i + 1)
          omega
        · show M ≤ i + 1
          omega
        · show cs.length - (i + 1) < cs.length - i
          omega
        · show SV.i .i64 (IntKind.i64.wrap ((i : Int) + 1)) = SV.i .i64 ((i + 1 : Nat) : Int)
          rw [wrap64 (by omega) (by omega)]; rfl
      · have h7 : (cs.getD i cn0).k = 5 := of_decide_eq_true h7
        have hk2 := parts_two hp.1 ⟨by have h3 : ¬ (cs.getD i cn0).k = 1 := of_decide_eq_false h3; exact h3, by have h4 : ¬ (cs.getD i cn0).k = 2 := of_decide_eq_false h4; exact h4, by have h5 : ¬ (cs.getD i cn0).k = 3 := of_decide_eq_false h5; exact h5⟩
        have hp2 := hk2.1
        have hw1 : IntKind.i64.wrap ((N : Int) - 1) = (N : Int) - 1 := wrap64 (by omega) (by omega)
        have hw2 : IntKind.i64.wrap ((N : Int) - 2) = (N : Int) - 2 := wrap64 (by omega) (by omega)
        have hpair := stk_pair (v := (xs.getD (N - 2) false || xs.getD (N - 1) false)) hx hp2 (by omega) (by omega) (fun l e1 e2 => by rw [nodeF_or (by omega), e1, e2])
        rw [hp2] at hn1
        have hj : 0 + (IntKind.i64.wrap ((N : Int) - 1)).toNat = N - 1 := by rw [hw1]; omega
        have hj2 : 0 + (IntKind.i64.wrap ((N : Int) - 2)).toNat = N - 2 := by rw [hw2]; omega
        have hj3 : (IntKind.i64.wrap ((N : Int) - 1)).toNat = N - 1 := by rw [hw1]; omega
        have ho1 : 0 = 0 * 1 ∧ 0 ≤ IntKind.i64.wrap ((N : Int) - 1) ∧ IntKind.i64.wrap ((N : Int) - 1) < N := by rw [hw1]; omega
        have ho2 : ver = ver ∧ 0 + (IntKind.i64.wrap ((N : Int) - 1)).toNat < M := by rw [hj]; omega
        have ho3 : 0 = 0 * 1 ∧ 0 ≤ IntKind.i64.wrap ((N : Int) - 2) ∧ IntKind.i64.wrap ((N : Int) - 2) < N := by rw [hw2]; omega
        have ho4 : ver = ver ∧ 0 + (IntKind.i64.wrap ((N : Int) - 2)).toNat < M := by rw [hj2]; omega
        have ho5 : ((ver = ver ∧ 1 = 1 ∧ 0 < 1) ∧ 0 = 0 * 1 ∧ (0 + N) * 1 ≤ M * 1 + 0) ∧ 0 ≤ IntKind.i64.wrap ((N : Int) - 1) ∧ IntKind.i64.wrap ((N : Int) - 1) ≤ N := by rw [hw1]; omega
        refine ⟨fun _ => ho3, ⟨fun _ => ho4, ⟨fun _ => ho1, ⟨fun _ => ho2, ⟨fun _ => ho3, ⟨rfl, ⟨ho4.2, ⟨_, rfl, ⟨fun _ => ho5, ?_⟩⟩⟩⟩⟩⟩⟩⟩⟩
        refine ⟨(i + 1, ver, (IntKind.i64.wrap ((N : Int) - 1)).toNat, M, xs.set (0 + (IntKind.i64.wrap ((N : Int) - 2)).toNat) (xs.getD (0 + (IntKind.i64.wrap ((N : Int) - 2)).toNat) false || xs.getD (0 + (IntKind.i64.wrap ((N : Int) - 1)).toNat) false)), ⟨h2, by rw [hj, hj2, hj3]; exact hpair, ?_, ?_, ?_, ?_⟩, ?_, rfl, ⟨⟨?_, rfl, rfl⟩, ⟨rfl, rfl, rfl⟩, trivial⟩, ⟨_, rfl⟩, ⟨bndO o, ⟨fun _ => rfl, trivial⟩, trivial⟩, rfl⟩
        · rw [List.length_set]; exact hM
        · show (IntKind.i64.wrap ((N : Int) - 1)).toNat ≤ M
          omega
        · show (((IntKind.i64.wrap ((N : Int) - 1)).toNat : Nat) : Int) = nAt cs (i + 1)
          omega
        · show M ≤ i + 1
          omega
        · show cs.length - (i + 1) < cs.length - i
          omega
        · show SV.i .i64 (IntKind.i64.wrap ((i : Int) + 1)) = SV.i .i64 ((i + 1 : Nat) : Int)
          rw [wrap64 (by omega) (by omega)]; rfl
      · exfalso
        have h3 : ¬ (cs.getD i cn0).k = 1 := of_decide_eq_false h3
        have h4 : ¬ (cs.getD i cn0).k = 2 := of_decide_eq_false h4
        have h5 : ¬ (cs.getD i cn0).k = 3 := of_decide_eq_false h5
        have h6 : ¬ (cs.getD i cn0).k = 4 := of_decide_eq_false h6
        have h7 : ¬ (cs.getD i cn0).k = 5 := of_decide_eq_false h7
        have := (parts_two hp.1 ⟨h3, h4, h5⟩).2
        omega
    · have h2 : i = cs.length := by simp at h2; omega
      subst h2
      have hz : Int.toNat 0 = 0 := rfl
      have := hnb.2.2 (by omega)
      refine ⟨fun _ => ?_, ⟨fun _ => ⟨rfl, ?_⟩, b_congr ?_⟩⟩
      · show 0 = 0 * 1 ∧ (0 : Int) ≤ 0 ∧ (0 : Int) < N
        omega
      · show 0 + Int.toNat 0 < M
        omega
      · rw [← hx]
        show xs.getD (0 + Int.toNat 0) false = (xs.take N).getD 0 false
        simp [List.getD_eq_getElem?_getD, List.getElem?_take_of_lt (show 0 < N by omega)]
end SX
end Go.Proofs.YtjpdnkfplnnhhaaGreatDoor

/- Outcomes in their order, each once: plain lists. -/
set_option linter.unusedVariables false
namespace Go.Proofs.YtjpdnkfplnnhhaaGreatDoor
namespace SX
open Go Go.Proofs
def lexC : List Int → List Int → Int
  | [], [] => 0
  | [], _ :: _ => -1
  | _ :: _, [] => 1
  | x :: xs, y :: ys => if x < y then -1 else if y < x then 1 else lexC xs ys
theorem lexC_rng : ∀ a b : List Int, lexC a b = -1 ∨ lexC a b = 0 ∨ lexC a b = 1
  | [], [] => by simp [lexC]
  | [], _ :: _ => by simp [lexC]
  | _ :: _, [] => by simp [lexC]
  | x :: xs, y :: ys => by
    unfold lexC
    split
    · simp
    · split
      · simp
      · exact lexC_rng xs ys
theorem lexC_self : ∀ a : List Int, lexC a a = 0
  | [] => rfl
  | x :: xs => by unfold lexC; rw [if_neg (by omega), if_neg (by omega)]; exact lexC_self xs
theorem lexC_eq : ∀ {a b : List Int}, lexC a b = 0 → a = b
  | [], [], _ => rfl
  | [], _ :: _, h => by simp [lexC] at h
  | _ :: _, [], h => by simp [lexC] at h
  | x :: xs, y :: ys, h => by
    unfold lexC at h
    split at h
    · omega
    · split at h
      · omega
      · rw [lexC_eq h, show x = y by omega]
theorem lexC_neg : ∀ a b : List Int, lexC b a = - lexC a b
  | [], [] => by simp [lexC]
  | [], _ :: _ => by simp [lexC]
  | _ :: _, [] => by simp [lexC]
  | x :: xs, y :: ys => by
    unfold lexC
    by_cases h1 : x < y
    · rw [if_pos h1, if_neg (by omega), if_pos h1]; rfl
    · by_cases h2 : y < x
      · rw [if_pos h2, if_neg h1, if_pos h2]
      · rw [if_neg h2, if_neg h1, if_neg h1, if_neg h2]; exact lexC_neg xs ys
theorem lexC_trans : ∀ {a b c : List Int}, lexC a b ≤ 0 → lexC b c < 0 → lexC a c < 0
  | _, [], [], _, h => by simp [lexC] at h
  | [], [], _ :: _, _, h => by simp [lexC]
  | _ :: _, [], _ :: _, h, _ => by simp [lexC] at h
  | _, _ :: _, [], _, h => by simp [lexC] at h
  | [], _ :: _, _ :: _, _, _ => by simp [lexC]
  | x :: xs, y :: ys, z :: zs, h1, h2 => by
    unfold lexC at h1 h2 ⊢
    by_cases a1 : x < y
    · by_cases a2 : y < z
      · rw [if_pos (by omega)]; decide
      · rw [if_neg a2] at h2
        by_cases a3 : z < y
        · rw [if_pos a3] at h2; omega
        · rw [if_pos (by omega)]; decide
    · rw [if_neg a1] at h1
      by_cases a2 : y < x
      · rw [if_pos a2] at h1; omega
      · rw [if_neg a2] at h1
        by_cases a3 : y < z
        · rw [if_pos (by omega)]; decide
        · rw [if_neg a3] at h2
          by_cases a4 : z < y
          · rw [if_pos a4] at h2; omega
          · rw [if_neg a4] at h2
            rw [if_neg (by omega), if_neg (by omega)]
            exact lexC_trans h1 h2
theorem lexC_app : ∀ {a b : List Int} (c d : List Int), a.length = b.length → lexC (a ++ c) (b ++ d) = if lexC a b ≠ 0 then lexC a b else lexC c d
  | [], [], c, d, _ => by simp [lexC]
  | [], _ :: _, _, _, h => by simp at h
  | _ :: _, [], _, _, h => by simp at h
  | x :: xs, y :: ys, c, d, h => by
    have ih := lexC_app (a := xs) (b := ys) c d (by simpa using h)
    have e1 : lexC (x :: xs ++ c) (y :: ys ++ d) = if x < y then -1 else if y < x then 1 else lexC (xs ++ c) (ys ++ d) := rfl
    have e2 : lexC (x :: xs) (y :: ys) = if x < y then -1 else if y < x then 1 else lexC xs ys := rfl
    rw [e1]
    by_cases h1 : x < y
    · have e3 : lexC (x :: xs) (y :: ys) = -1 := by rw [e2, if_pos h1]
      simp only [e3, if_pos h1]; rfl
    · by_cases h2 : y < x
      · have e3 : lexC (x :: xs) (y :: ys) = 1 := by rw [e2, if_neg h1, if_pos h2]
        simp only [e3, if_neg h1, if_pos h2]; rfl
      · have e3 : lexC (x :: xs) (y :: ys) = lexC xs ys := by rw [e2, if_neg h1, if_neg h2]
        simp only [e3, if_neg h1, if_neg h2]
        exact ih
def cmpO (a b : Oc) : Int := lexC a.l b.l
def ltO (a b : Oc) : Prop := cmpO a b < 0
instance (a b : Oc) : Decidable (ltO a b) := by unfold ltO; infer_instance
instance : DecidableEq Oc := fun a b => decidable_of_iff (a.l = b.l) ⟨Oc.ext', fun h => by rw [h]⟩
theorem cmpO_eq {a b : Oc} (h : cmpO a b = 0) : a = b := Oc.ext' (lexC_eq h)
theorem ltO_irr (a : Oc) : ¬ ltO a a := by unfold ltO cmpO; rw [lexC_self]; omega
theorem ltO_trans {a b c : Oc} (h : ltO a b) (h' : ltO b c) : ltO a c := by unfold ltO cmpO at *; exact lexC_trans (by omega) h'
theorem ltO_tri (a b : Oc) : ltO a b ∨ a = b ∨ ltO b a := by
  unfold ltO
  have h1 := lexC_neg a.l b.l
  rcases lexC_rng a.l b.l with h | h | h
  · left; unfold cmpO; omega
  · right; left; exact Oc.ext' (lexC_eq h)
  · right; right; unfold cmpO; omega
/-- Rising, each once. -/
def SS (l : List Oc) : Prop := l.Pairwise ltO
def insF (x : Oc) : List Oc → List Oc
  | [] => [x]
  | y :: r => if ltO y x then y :: insF x r else if y = x then y :: r else x :: y :: r
theorem insF_mem {x z : Oc} : ∀ {l : List Oc}, z ∈ insF x l ↔ z = x ∨ z ∈ l
  | [] => by simp [insF]
  | y :: r => by
    unfold insF
    split
    · simp only [List.mem_cons, insF_mem (l := r)]
      constructor
      · rintro (h | h | h) <;> simp [h]
      · rintro (h | h | h) <;> simp [h]
    · split
      · rename_i h; subst h; simp
      · simp
theorem insF_SS {x : Oc} : ∀ {l : List Oc}, SS l → SS (insF x l)
  | [], _ => List.pairwise_singleton _ _
  | y :: r, h => by
    unfold SS at h ⊢
    rw [List.pairwise_cons] at h
    unfold insF
    split
    · rename_i h1
      rw [List.pairwise_cons]
      refine ⟨fun z hz => ?_, insF_SS h.2⟩
      rcases insF_mem.1 hz with rfl | hz
      · exact h1
      · exact h.1 z hz
    · rename_i h1
      split
      · exact List.pairwise_cons.2 h
      · rename_i h2
        have h3 : ltO x y := by
          rcases ltO_tri x y with h | h | h
          · exact h
          · exact absurd h.symm h2
          · exact absurd h h1
        rw [List.pairwise_cons]
        refine ⟨fun z hz => ?_, List.pairwise_cons.2 h⟩
        rcases List.mem_cons.1 hz with rfl | hz
        · exact h3
        · exact ltO_trans h3 (h.1 z hz)
def sortN (xs : List Oc) : Nat → List Oc
  | 0 => []
  | i + 1 => insF (xs.getD i oc0) (sortN xs i)
def sortF (xs : List Oc) : List Oc := sortN xs xs.length
theorem sortN_SS {xs : List Oc} : ∀ i, SS (sortN xs i)
  | 0 => List.Pairwise.nil
  | i + 1 => insF_SS (sortN_SS i)
theorem sortN_mem {xs : List Oc} {z : Oc} : ∀ {i}, z ∈ sortN xs i ↔ ∃ j, j < i ∧ xs.getD j oc0 = z
  | 0 => by simp [sortN]
  | i + 1 => by
    simp only [sortN, insF_mem, sortN_mem (i := i)]
    constructor
    · rintro (rfl | ⟨j, h1, h2⟩)
      · exact ⟨i, by omega, rfl⟩
      · exact ⟨j, by omega, h2⟩
    · rintro ⟨j, h1, h2⟩
      rcases Nat.lt_succ_iff_lt_or_eq.1 h1 with h | rfl
      · exact .inr ⟨j, h, h2⟩
      · exact .inl h2.symm
theorem mem_getD {xs : List Oc} {z : Oc} : (∃ j, j < xs.length ∧ xs.getD j oc0 = z) ↔ z ∈ xs := by
  rw [List.mem_iff_getElem]
  constructor
  · rintro ⟨j, h1, h2⟩
    exact ⟨j, h1, by simpa [List.getD_eq_getElem?_getD, List.getElem?_eq_getElem h1] using h2⟩
  · rintro ⟨j, h1, h2⟩
    exact ⟨j, h1, by simpa [List.getD_eq_getElem?_getD, List.getElem?_eq_getElem h1] using h2⟩
theorem sortF_mem {xs : List Oc} {z : Oc} : z ∈ sortF xs ↔ z ∈ xs := by unfold sortF; rw [sortN_mem, mem_getD]
theorem SS_ext : ∀ {l l' : List Oc}, SS l → SS l' → (∀ z, z ∈ l ↔ z ∈ l') → l = l'
  | [], [], _, _, _ => rfl
  | [], y :: r, _, _, h => by have := (h y).2 (by simp); simp at this
  | x :: s, [], _, _, h => by have := (h x).1 (by simp); simp at this
  | x :: s, y :: r, h1, h2, h => by
    unfold SS at h1 h2
    rw [List.pairwise_cons] at h1 h2
    have hxy : x = y := by
      rcases ltO_tri x y with h3 | h3 | h3
      · have := (h x).1 (by simp)
        rcases List.mem_cons.1 this with h4 | h4
        · exact h4
        · exact absurd (ltO_trans h3 (h2.1 x h4)) (ltO_irr _)
      · exact h3
      · have := (h y).2 (by simp)
        rcases List.mem_cons.1 this with h4 | h4
        · exact h4.symm
        · exact absurd (ltO_trans h3 (h1.1 y h4)) (ltO_irr _)
    subst hxy
    have hnx : x ∉ s := fun hx => ltO_irr _ (h1.1 x hx)
    have hny : x ∉ r := fun hx => ltO_irr _ (h2.1 x hx)
    rw [SS_ext (l := s) (l' := r) h1.2 h2.2 fun z => ?_]
    constructor
    · intro hz
      have := (h z).1 (by simp [hz])
      rcases List.mem_cons.1 this with h4 | h4
      · subst h4; exact absurd hz hnx
      · exact h4
    · intro hz
      have := (h z).2 (by simp [hz])
      rcases List.mem_cons.1 this with h4 | h4
      · subst h4; exact absurd hz hny
      · exact h4
/-- Of equal neighbours one. -/
def ddA (ys : List Oc) : Nat → List Oc
  | 0 => []
  | i + 1 => if i ≠ 0 ∧ ys.getD i oc0 = ys.getD (i - 1) oc0 then ddA ys i else ddA ys i ++ [ys.getD i oc0]
theorem ddA_mem {ys : List Oc} {z : Oc} : ∀ {i}, z ∈ ddA ys i ↔ ∃ j, j < i ∧ ys.getD j oc0 = z
  | 0 => by simp [ddA]
  | i + 1 => by
    simp only [ddA]
    split
    · rename_i h
      rw [ddA_mem (i := i)]
      constructor
      · rintro ⟨j, h1, h2⟩; exact ⟨j, by omega, h2⟩
      · rintro ⟨j, h1, h2⟩
        rcases Nat.lt_succ_iff_lt_or_eq.1 h1 with h3 | rfl
        · exact ⟨j, h3, h2⟩
        · exact ⟨j - 1, by omega, by rw [← h.2]; exact h2⟩
    · rw [List.mem_append, ddA_mem (i := i), List.mem_singleton]
      constructor
      · rintro (⟨j, h1, h2⟩ | h)
        · exact ⟨j, by omega, h2⟩
        · exact ⟨i, by omega, h.symm⟩
      · rintro ⟨j, h1, h2⟩
        rcases Nat.lt_succ_iff_lt_or_eq.1 h1 with h3 | rfl
        · exact .inl ⟨j, h3, h2⟩
        · exact .inr h2.symm
theorem ddA_SS {ys : List Oc} : ∀ {i}, (∀ a b, a < b → b < i → ¬ ltO (ys.getD b oc0) (ys.getD a oc0)) → SS (ddA ys i)
  | 0, _ => List.Pairwise.nil
  | i + 1, h => by
    have ih := ddA_SS (ys := ys) (i := i) fun a b h1 h2 => h a b h1 (by omega)
    simp only [ddA]
    split
    · exact ih
    · rename_i h0
      unfold SS at ih ⊢
      rw [List.pairwise_append]
      refine ⟨ih, List.pairwise_singleton _ _, fun x hx y hy => ?_⟩
      rw [List.mem_singleton] at hy
      subst hy
      obtain ⟨j, hj, rfl⟩ := ddA_mem.1 hx
      have hi0 : i ≠ 0 := by omega
      have h2 : ¬ ltO (ys.getD i oc0) (ys.getD (i - 1) oc0) := h (i - 1) i (by omega) (by omega)
      have h3 : ltO (ys.getD (i - 1) oc0) (ys.getD i oc0) := by
        rcases ltO_tri (ys.getD (i - 1) oc0) (ys.getD i oc0) with h4 | h4 | h4
        · exact h4
        · exact absurd ⟨hi0, h4.symm⟩ h0
        · exact absurd h4 h2
      by_cases hji : j = i - 1
      · subst hji; exact h3
      · have h5 : ¬ ltO (ys.getD (i - 1) oc0) (ys.getD j oc0) := h j (i - 1) (by omega) (by omega)
        rcases ltO_tri (ys.getD j oc0) (ys.getD (i - 1) oc0) with h6 | h6 | h6
        · exact ltO_trans h6 h3
        · rw [h6]; exact h3
        · exact absurd h6 h5
theorem dd_sort {xs ys : List Oc} (hp : ∀ z, z ∈ ys ↔ z ∈ xs) (hs : ∀ a b, a < b → b < ys.length → ¬ ltO (ys.getD b oc0) (ys.getD a oc0)) : ddA ys ys.length = sortF xs :=
  SS_ext (ddA_SS hs) (sortN_SS _) fun z => by rw [ddA_mem, mem_getD, hp]; exact sortF_mem.symm
theorem ddA_len {ys : List Oc} : ∀ i, (ddA ys i).length ≤ i
  | 0 => Nat.le_refl _
  | i + 1 => by
    have := ddA_len (ys := ys) i
    simp only [ddA]
    split
    · omega
    · simp; omega
end SX
end Go.Proofs.YtjpdnkfplnnhhaaGreatDoor

/- Outcomes: compare, Less. -/
set_option linter.unusedVariables false
set_option maxRecDepth 100000
namespace Go.Proofs.YtjpdnkfplnnhhaaGreatDoor
namespace SX
open Go Go.Proofs
def ienc (x : Int) : List SV := [.i .i64 x]
theorem ienc_w (x : Int) : wdL (ienc x) = 1 := rfl
theorem ienc_ok (x : Int) (m : Mem) : OkL m [] (ienc x) := by simp [ienc, OkL, Ok, isUnit]
def c1 (x y : Int) : Int := if x < y then -1 else if y < x then 1 else 0
theorem isNaN_ok (x : Int) : CtrV Tryz.prog 141 [.i .i64 x] (.b false) := by
  refine Ctr.enterV tabOk (fn := Tryz.f141) rfl rfl rfl rfl rfl rfl ?_
  refine b_congr ?_
  simp
theorem cmpI_ok (x y : Int) : CtrV Tryz.prog 110 [.i .i64 x, .i .i64 y] (.i .i64 (c1 x y)) := by
  refine Ctr.enterV tabOk (fn := Tryz.f110) rfl rfl rfl rfl rfl rfl ?_
  refine OpC.callV rfl rfl rfl rfl rfl rfl rfl (fun _ => isNaN_ok x) ?_
  refine OpC.callV rfl rfl rfl rfl rfl rfl rfl (fun _ => isNaN_ok y) ?_
  refine ⟨fun h => (by cases h), fun _ => ⟨fun h => (by cases h), fun _ => ⟨fun h1 => ?_, fun h1 => ⟨fun h2 => ?_, fun h2 => ?_⟩⟩⟩⟩
  all_goals refine i64_congr ?_
  · have h1 : x < y := of_decide_eq_true h1
    unfold c1; rw [if_pos h1]
  · have h1 : ¬ x < y := of_decide_eq_false h1
    have h2 : y < x := of_decide_eq_true h2
    unfold c1; rw [if_neg h1, if_pos h2]
  · have h1 : ¬ x < y := of_decide_eq_false h1
    have h2 : ¬ y < x := of_decide_eq_false h2
    unfold c1; rw [if_neg h1, if_neg h2]
theorem drop_getD {xs : List Int} {i : Nat} (h : i < xs.length) : xs.drop i = xs.getD i 0 :: xs.drop (i + 1) := by
  rw [List.drop_eq_getElem_cons h]
  simp [List.getD_eq_getElem?_getD, List.getElem?_eq_getElem h]
theorem lexC_at {xs ys : List Int} : ∀ {i : Nat}, i ≤ xs.length → i ≤ ys.length → (∀ j, j < i → xs.getD j 0 = ys.getD j 0) → lexC xs ys = lexC (xs.drop i) (ys.drop i)
  | 0, _, _, _ => by simp
  | i + 1, h1, h2, h => by
    rw [lexC_at (i := i) (by omega) (by omega) fun j hj => h j (by omega), drop_getD (by omega), drop_getD (xs := ys) (by omega), h i (by omega)]
    show (if _ then _ else if _ then _ else _) = _
    rw [if_neg (by omega), if_neg (by omega)]
theorem lexC_step {xs ys : List Int} {i : Nat} (h1 : i < xs.length) (h2 : i < ys.length) (h : ∀ j, j < i → xs.getD j 0 = ys.getD j 0) (hne : xs.getD i 0 ≠ ys.getD i 0) : lexC xs ys = c1 (xs.getD i 0) (ys.getD i 0) := by
  rw [lexC_at (by omega) (by omega) h, drop_getD h1, drop_getD (xs := ys) h2]
  unfold lexC c1
  by_cases a : xs.getD i 0 < ys.getD i 0
  · rw [if_pos a, if_pos a]
  · rw [if_neg a, if_neg a, if_pos (by omega), if_pos (by omega)]
theorem c1_zero {x y : Int} : c1 x y = 0 ↔ x = y := by
  unfold c1
  split
  · constructor <;> intro h <;> omega
  · split
    · constructor <;> intro h <;> omega
    · constructor
      · intro _; omega
      · intro _; rfl
theorem cmpL_ok (xs ys : List Int) (a : Option Addr) (cap : Nat) (a' : Option Addr) (cap' : Nat) (hl : xs.length ≤ 1000) : CtrV Tryz.prog 78 [.imm Int 0 1 ienc xs a cap, .imm Int 0 1 ienc ys a' cap'] (.i .i64 (lexC xs ys)) := by
  refine Ctr.enterV tabOk (fn := Tryz.f78) rfl rfl rfl rfl rfl rfl ?_
  refine WpC.loop tabOk (β := Nat) (fun i => i ≤ xs.length ∧ i ≤ ys.length ∧ ∀ j, j < i → xs.getD j 0 = ys.getD j 0) (fun i => [(11, .i .i64 i)]) (fun _ => []) (fun i => xs.length - i) 0 2147482096 ⟨Nat.zero_le _, Nat.zero_le _, fun j hj => by omega⟩ ?_ ?_
  · exact ⟨rfl, ⟨⟨rfl, rfl, rfl⟩, trivial⟩, ⟨[], rfl⟩, trivial, rfl⟩
  · rintro i ⟨hi, hi2, ho⟩
    refine ⟨fun h2 => ?_, fun h2 => ?_⟩
    · have h2 : i < xs.length := by simpa using h2
      refine ⟨fun _ => ⟨by omega, by omega⟩, ⟨fun h3 => ?_, fun h3 => ?_⟩⟩
      · have h3 : ¬ i < ys.length := by
          have h3 : decide ((ys.length : Int) ≤ (i : Int)) = true := h3
          simp at h3; omega
        refine i64_congr ?_
        rw [lexC_at (i := i) (by omega) hi2 ho, drop_getD h2, List.drop_of_length_le (l := ys) (by omega)]
        rfl
      · have h3 : i < ys.length := by
          have h3 : decide ((ys.length : Int) ≤ (i : Int)) = false := h3
          simp at h3; omega
        refine ⟨fun _ => ⟨by omega, by omega⟩, ?_⟩
        refine OpC.callV rfl rfl rfl rfl rfl rfl rfl (fun _ => cmpI_ok (xs.getD i 0) (ys.getD i 0)) ?_
        refine ⟨fun h4 => ?_, fun h4 => ?_⟩
        · have h4 : (!decide (c1 (xs.getD i 0) (ys.getD i 0) = 0)) = true := h4
          have h5 : ¬ xs.getD i 0 = ys.getD i 0 := fun e => by rw [c1_zero.2 e] at h4; simp at h4
          exact i64_congr (lexC_step h2 h3 ho h5).symm
        · have h4 : (!decide (c1 (xs.getD i 0) (ys.getD i 0) = 0)) = false := h4
          have h5 : xs.getD i 0 = ys.getD i 0 := c1_zero.1 (by simpa using h4)
          refine ⟨i + 1, ⟨h2, h3, fun j hj => ?_⟩, by omega, rfl, ⟨⟨?_, rfl, rfl⟩, trivial⟩, ⟨[], rfl⟩, trivial, rfl⟩
          · rcases Nat.lt_succ_iff_lt_or_eq.1 hj with hj | rfl
            · exact ho j hj
            · exact h5
          · show SV.i .i64 (IntKind.i64.wrap ((i : Int) + 1)) = SV.i .i64 ((i + 1 : Nat) : Int)
            rw [wrap64 (by omega) (by omega)]; rfl
    · have h2 : i = xs.length := by simp at h2; omega
      subst h2
      refine ⟨fun h3 => ?_, fun h3 => ?_⟩
      all_goals refine i64_congr ?_
      · have h3 : xs.length < ys.length := by simpa using h3
        rw [lexC_at (i := xs.length) (Nat.le_refl _) hi2 ho, List.drop_length, drop_getD (xs := ys) h3]
        rfl
      · have h3 : ¬ xs.length < ys.length := by simpa using h3
        rw [lexC_at (i := xs.length) (Nat.le_refl _) hi2 ho, List.drop_length, List.drop_of_length_le (l := ys) (by omega)]
        rfl
def chunk (o : Oc) (off len : Nat) : List Int := (o.l.drop off).take len
theorem chunk_len {o : Oc} {off len : Nat} (h : off + len ≤ 27) : (chunk o off len).length = len := by
  have := o.h
  simp [chunk]; omega
theorem frz_oc {o : Oc} {off len : Nat} (h : off + len ≤ 27) : ∀ E j, j < len → ∀ u c, (cellsL E0 (ienc ((chunk o off len).getD j 0)))[u]? = some c → (cellsL E (oenc o))[off + j * 1 + u]? = some c := by
  intro E j hj u c hu
  have ho := o.h
  have hu0 : u = 0 := by have := (List.getElem?_eq_some_iff.1 hu).1; simp [ienc, cellsL, cells] at this; exact this
  subst hu0
  rw [oc_cells, List.getElem?_map]
  simp only [ienc, cellsL, cells, List.cons_append, List.nil_append, List.getElem?_cons_zero, Option.some.injEq] at hu
  subst hu
  have e : (chunk o off len).getD j 0 = o.l.getD (off + j) 0 := by
    simp [chunk, List.getD_eq_getElem?_getD, List.getElem?_take_of_lt hj, List.getElem?_drop]
  rw [e, Nat.mul_one, Nat.add_zero, List.getElem?_eq_getElem (by omega)]
  simp [List.getD_eq_getElem?_getD, List.getElem?_eq_getElem (show off + j < o.l.length by omega)]
theorem cmpO_chunks (a b : Oc) : cmpO a b = if lexC (chunk a 0 8) (chunk b 0 8) ≠ 0 then lexC (chunk a 0 8) (chunk b 0 8) else if lexC (chunk a 8 8) (chunk b 8 8) ≠ 0 then lexC (chunk a 8 8) (chunk b 8 8) else if lexC (chunk a 16 8) (chunk b 16 8) ≠ 0 then lexC (chunk a 16 8) (chunk b 16 8) else lexC (chunk a 24 3) (chunk b 24 3) := by
  have e : ∀ o : Oc, o.l = chunk o 0 8 ++ (chunk o 8 8 ++ (chunk o 16 8 ++ chunk o 24 3)) := fun o => by
    have := o.h
    unfold chunk
    rw [List.take_of_length_le (l := o.l.drop 24) (by simp; omega)]
    have h1 : (o.l.drop 16).take 8 ++ o.l.drop 24 = o.l.drop 16 := by
      have := List.take_append_drop 8 (o.l.drop 16); rwa [List.drop_drop] at this
    have h2 : (o.l.drop 8).take 8 ++ o.l.drop 16 = o.l.drop 8 := by
      have := List.take_append_drop 8 (o.l.drop 8); rwa [List.drop_drop] at this
    rw [h1, h2, List.drop_zero, List.take_append_drop]
  unfold cmpO
  rw [e a, e b, lexC_app _ _ (by rw [chunk_len (by omega), chunk_len (by omega)]), lexC_app _ _ (by rw [chunk_len (by omega), chunk_len (by omega)]), lexC_app _ _ (by rw [chunk_len (by omega), chunk_len (by omega)])]
/-- Two stretches of two outcomes, compared. -/
theorem cmpS_ok (a b : Oc) (off len : Nat) (h : off + len ≤ 27) {H1 : List SB} {j k : Nat} (hjk : j ≠ k) (h0 : H1[j]? = some (.mem 26 (oenc a) 1 0)) (h1 : H1[k]? = some (.mem 26 (oenc b) 1 0)) :
    Ctr Tryz.prog 78 [.sl j 1 off len (some len) 0, .sl k 1 off len (some len) 0] H1 (fun r h => r = .i .i64 (lexC (chunk a off len) (chunk b off len)) ∧ h = H1) := by
  refine Cp.freeze callX_m (A := []) (B := [.sl k 1 off len (some len) 0]) (d := (0 : Int)) (n := 1) (enc := ienc) (xs := chunk a off len) (K := fun r => r = _) h0 (chunk_len h) ienc_w ienc_ok (frz_oc h) (Nat.le_refl _) (fun r e => by rw [e]; rfl) fun ad cap => ?_
  refine Cp.freezeV callX_m (A := [.imm Int 0 1 ienc (chunk a off len) ad cap]) (B := []) (d := (0 : Int)) (n := 1) (enc := ienc) (xs := chunk b off len) (k := k) (by rw [List.getElem?_set_ne hjk]; exact h1) (chunk_len h) ienc_w ienc_ok (frz_oc h) (Nat.le_refl _) rfl rfl rfl fun ad' cap' => ?_
  exact cmpL_ok (chunk a off len) (chunk b off len) ad cap ad' cap' (by rw [chunk_len h]; omega)
theorem compare_ok (a b : Oc) : CtrV Tryz.prog 43 [.agg (oenc a), .agg (oenc b)] (.i .i64 (cmpO a b)) := by
  refine Ctr.enterV tabOkF (fn := Tryz.f43) rfl rfl rfl rfl rfl rfl ?_
  refine WpC.loop tabOkF (β := Nat) (fun t => t ≤ 3 ∧ ∀ s, s < t → lexC (chunk a (8 * s) 8) (chunk b (8 * s) 8) = 0) (fun t => [(7, .i .i64 t)]) (fun _ => [.mem 26 (oenc a) 1 0, .mem 26 (oenc b) 1 0]) (fun t => 3 - t) 0 8388592 ⟨Nat.zero_le _, fun j hj => by omega⟩ ?_ ?_
  · exact ⟨rfl, ⟨⟨rfl, rfl, rfl⟩, trivial⟩, ⟨[], rfl⟩, ⟨bndO a, bndO b, trivial⟩, rfl⟩
  · rintro t ⟨ht, ho⟩
    refine ⟨fun h2 => ?_, fun h2 => ?_⟩
    · have h2 : t < 3 := by
        have h2 : decide ((t : Int) < 3) = true := h2
        simp at h2; omega
      refine WpC.dr tabOkF mixed 0 ?_
      refine ⟨fun _ => ⟨by omega, by show (t : Int) < 3; omega⟩, ⟨fun _ => ⟨by omega, by show (t : Int) < 3; omega⟩, ?_⟩⟩
      refine OpD.callG [0, 1] rfl rfl rfl rfl rfl rfl (r := .i .i64 (lexC (chunk a (0 + t * 8) 8) (chunk b (0 + t * 8) 8))) (fun _ H1 hH => cmpS_ok a b (0 + t * 8) 8 (by omega) (j := 0) (k := 1) (by decide) (hH 0 (by simp)) (hH 1 (by simp))) ?_
      refine ⟨by kernel_rfl, ?_⟩
      have e8 : 0 + t * 8 = 8 * t := by omega
      rw [e8]
      refine ⟨fun h3 => ?_, fun h3 => ?_⟩
      · have h3 : (!decide (lexC (chunk a (8 * t) 8) (chunk b (8 * t) 8) = 0)) = true := h3
        have h4 : ¬ lexC (chunk a (8 * t) 8) (chunk b (8 * t) 8) = 0 := by simpa using h3
        refine i64_congr ?_
        rw [cmpO_chunks]
        have hc : t = 0 ∨ t = 1 ∨ t = 2 := by omega
        rcases hc with rfl | rfl | rfl
        · rw [if_pos h4]
        · rw [if_neg (by rw [ho 0 (by omega)]; decide), if_pos h4]
        · rw [if_neg (by rw [ho 0 (by omega)]; decide), if_neg (by have := ho 1 (by omega); simp only [Nat.mul_one] at this; rw [this]; decide), if_pos h4]
      · have h3 : (!decide (lexC (chunk a (8 * t) 8) (chunk b (8 * t) 8) = 0)) = false := h3
        have h4 : lexC (chunk a (8 * t) 8) (chunk b (8 * t) 8) = 0 := by simpa using h3
        refine ⟨t + 1, ⟨h2, fun s hs => ?_⟩, by omega, rfl, ⟨⟨?_, rfl, rfl⟩, trivial⟩, ⟨[], rfl⟩, ⟨bndO a, bndO b, trivial⟩, rfl⟩
        · rcases Nat.lt_succ_iff_lt_or_eq.1 hs with hs | rfl
          · exact ho s hs
          · exact h4
        · show SV.i .i64 (IntKind.i64.wrap ((t : Int) + 1)) = SV.i .i64 ((t + 1 : Nat) : Int)
          rw [wrap64 (by omega) (by omega)]; rfl
    · have h2 : t = 3 := by
        have h2 : decide ((t : Int) < 3) = false := h2
        simp at h2; omega
      subst h2
      refine WpC.dr tabOkF mixed 0 ?_
      refine OpD.callG [0, 1] rfl rfl rfl rfl rfl rfl (r := .i .i64 (lexC (chunk a 24 3) (chunk b 24 3))) (fun _ H1 hH => cmpS_ok a b 24 3 (by omega) (j := 0) (k := 1) (by decide) (hH 0 (by simp)) (hH 1 (by simp))) ?_
      refine ⟨by kernel_rfl, ?_⟩
      refine i64_congr ?_
      rw [cmpO_chunks, if_neg (by rw [ho 0 (by omega)]; decide), if_neg (by have := ho 1 (by omega); simp only [Nat.mul_one] at this; rw [this]; decide), if_neg (by have := ho 2 (by omega); simp only [Nat.reduceMul] at this; rw [this]; decide)]
theorem less_ok (a b : Oc) : CtrV Tryz.prog 23 [.agg (oenc a), .agg (oenc b)] (.b (decide (ltO a b))) := by
  refine Ctr.enterV tabOkF (fn := Tryz.f23) rfl rfl rfl rfl rfl rfl ?_
  refine OpC.callV rfl rfl rfl rfl rfl rfl rfl (fun _ => compare_ok a b) ?_
  exact b_congr (by unfold ltO; rfl)
end SX
end Go.Proofs.YtjpdnkfplnnhhaaGreatDoor

/- Outcomes: the reference's Less. -/
set_option linter.unusedVariables false
set_option maxRecDepth 100000
namespace Go.Proofs.YtjpdnkfplnnhhaaGreatDoor
namespace SX
open Go Go.Proofs
/-- A call sees the values alone. -/
theorem Cp.argsEq {X : List Value → World → (Value → World → Prop) → Prop} {args args' : List SV} {H : List SB} {K : SV → List SB → Prop} (hd : ∀ E, denL E args = denL E args') (ho : ∀ m V, OkA m V args') (h : Cp X args' H K) : Cp X args H K :=
  ⟨fun C E m w hr ha => by rw [hd]; exact h.out C E m w hr (ho _ _)⟩
def rowsO (o : Oc) : List (List Int) := [chunk o 0 8, chunk o 8 8, chunk o 16 8]
def e8 (x : List Int) : List SV := [.ints .i64 8 x]
def z8 : List Int := [0, 0, 0, 0, 0, 0, 0, 0]
/-- An outcome's cells as rows. -/
def oenc2 (o : Oc) : List SV := [.arr 3 (List Int) z8 8 e8 (rowsO o), .ints .i64 3 (chunk o 24 3)]
theorem oenc2_cells (E : Env) (o : Oc) : cellsL E (oenc2 o) = cellsL E (oenc o) := by
  rw [oc_cells]
  obtain ⟨l, h⟩ := o
  match l, h with
  | [x0, x1, x2, x3, x4, x5, x6, x7, x8, x9, x10, x11, x12, x13, x14, x15, x16, x17, x18, x19, x20, x21, x22, x23, x24, x25, x26], _ => rfl
theorem oenc2_ok (o : Oc) (m : Mem) (V : List Nat) : OkL m V (oenc2 o) := by
  simp only [oenc2, OkL, Ok, isUnit, true_and, and_true]
  refine ⟨⟨rfl, fun x => rfl, fun j hj => ?_⟩, chunk_len (by omega)⟩
  have hc : j = 0 ∨ j = 1 ∨ j = 2 := by omega
  rcases hc with rfl | rfl | rfl <;> simp only [e8, OkL, Ok, isUnit, true_and, and_true] <;> exact chunk_len (by omega)
theorem bndO2 {N : Nat} (o : Oc) : BndL N (oenc2 o) := ⟨fun _ => rfl, rfl, trivial⟩
theorem rows_at (o : Oc) {t r : Nat} (ht : t < 3) (hr : r < 8) : ((rowsO o).getD t z8).getD r 0 = o.at (8 * t + r) := by
  have h8 : ∀ off, (chunk o off 8).getD r 0 = o.at (off + r) := fun off => by
    simp [chunk, Oc.at, List.getD_eq_getElem?_getD, List.getElem?_take_of_lt hr, List.getElem?_drop]
  have hc : t = 0 ∨ t = 1 ∨ t = 2 := by omega
  rcases hc with rfl | rfl | rfl
  · exact h8 0
  · exact h8 8
  · exact h8 16
theorem mem_at (o : Oc) {k : Nat} (hk : k < 3) : (chunk o 24 3).getD k 0 = o.at (24 + k) := by
  simp [chunk, Oc.at, List.getD_eq_getElem?_getD, List.getElem?_take_of_lt hk, List.getElem?_drop]
theorem lt_step {a b : Oc} {p : Nat} (hp : p < 27) (h : ∀ j, j < p → a.at j = b.at j) (hne : a.at p ≠ b.at p) : decide (a.at p < b.at p) = decide (ltO a b) := by
  have := lexC_step (xs := a.l) (ys := b.l) (i := p) (by rw [a.h]; exact hp) (by rw [b.h]; exact hp) h hne
  refine decide_eq_decide.2 ?_
  unfold ltO cmpO
  rw [this]
  unfold c1
  unfold Oc.at at *
  by_cases h1 : a.l.getD p 0 < b.l.getD p 0
  · rw [if_pos h1]; simp only [h1, true_iff]; decide
  · rw [if_neg h1, if_pos (by omega)]; simp only [h1, false_iff]; decide
theorem lt_all {a b : Oc} (h : ∀ j, j < 27 → a.at j = b.at j) : decide (ltO a b) = false := by
  have hab : a = b := Oc.ext' (by
    apply List.ext_getElem (by rw [a.h, b.h])
    intro j h1 h2
    have := h j (by rw [← a.h]; exact h1)
    simpa [Oc.at, List.getD_eq_getElem?_getD, List.getElem?_eq_getElem h1, List.getElem?_eq_getElem h2] using this)
  subst hab
  exact decide_eq_false (ltO_irr a)
set_option maxHeartbeats 1000000 in
theorem rless2_ok (a b : Oc) : CtrV Tryz.prog 24 [.agg (oenc2 a), .agg (oenc2 b)] (.b (decide (ltO a b))) := by
  refine Ctr.enterV tabOk (fn := Tryz.f24) rfl rfl rfl rfl rfl rfl ?_
  refine WpC.loop tabOk (β := Nat) (fun t => t ≤ 3 ∧ ∀ j, j < 8 * t → a.at j = b.at j) (fun t => [(5, .i .i64 t)]) (fun _ => [.mem 26 (oenc2 a) 1 0, .mem 26 (oenc2 b) 1 0]) (fun t => 3 - t) 0 4398046510960 ⟨Nat.zero_le _, fun j hj => by omega⟩ ?_ ?_
  · exact ⟨rfl, ⟨⟨rfl, rfl, rfl⟩, trivial⟩, ⟨[], rfl⟩, ⟨bndO2 a, bndO2 b, trivial⟩, rfl⟩
  · rintro t ⟨ht, ho⟩
    refine ⟨fun h2 => ?_, fun h2 => ?_⟩
    · have h2 : t < 3 := by
        have h2 : decide ((t : Int) < 3) = true := h2
        simp at h2; omega
      refine WpC.loop tabOk (β := Nat) (fun r => r ≤ 8 ∧ ∀ j, j < 8 * t + r → a.at j = b.at j) (fun r => [(6, .i .i64 r)]) (fun _ => [.mem 26 (oenc2 a) 1 0, .mem 26 (oenc2 b) 1 0]) (fun r => 8 - r) 0 4398046507088 ⟨Nat.zero_le _, fun j hj => ho j (by omega)⟩ ?_ ?_
      · exact ⟨rfl, ⟨⟨rfl, rfl, rfl⟩, trivial⟩, ⟨[], rfl⟩, ⟨bndO2 a, bndO2 b, trivial⟩, rfl⟩
      · rintro r ⟨hr, ho2⟩
        refine ⟨fun h3 => ?_, fun h3 => ?_⟩
        · have h3 : r < 8 := by
            have h3 : decide ((r : Int) < 8) = true := h3
            simp at h3; omega
          have t1 : 0 ≤ (t : Int) ∧ (t : Int) < 3 := by omega
          have t2 : 0 ≤ (r : Int) ∧ (r : Int) < 8 := by omega
          refine WpC.dr tabOk mixed 0 ?_
          refine ⟨fun _ => t1, ⟨fun _ => t2, ⟨fun _ => ⟨h2, h3⟩, ⟨fun _ => t1, ⟨fun _ => t2, ⟨fun _ => ⟨h2, h3⟩, ?_⟩⟩⟩⟩⟩⟩
          refine ⟨by kernel_rfl, ?_⟩
          have ea := rows_at a h2 h3
          have eb := rows_at b h2 h3
          refine ⟨fun h4 => ?_, fun h4 => ?_⟩
          · have h4 : (!decide (((rowsO a).getD t z8).getD r 0 = ((rowsO b).getD t z8).getD r 0)) = true := h4
            rw [ea, eb] at h4
            refine WpC.dr tabOk mixed 0 ?_
            refine ⟨fun _ => t1, ⟨fun _ => t2, ⟨fun _ => ⟨h2, h3⟩, ⟨fun _ => t1, ⟨fun _ => t2, ⟨fun _ => ⟨h2, h3⟩, ?_⟩⟩⟩⟩⟩⟩
            refine ⟨by kernel_rfl, ?_⟩
            refine b_congr ?_
            show decide (((rowsO a).getD t z8).getD r 0 < ((rowsO b).getD t z8).getD r 0) = _
            rw [ea, eb]
            exact lt_step (by omega) ho2 (by simpa using h4)
          · have h4 : (!decide (((rowsO a).getD t z8).getD r 0 = ((rowsO b).getD t z8).getD r 0)) = false := h4
            rw [ea, eb] at h4
            have h5 : a.at (8 * t + r) = b.at (8 * t + r) := by simpa using h4
            refine ⟨r + 1, ⟨h3, fun j hj => ?_⟩, by omega, rfl, ⟨⟨?_, rfl, rfl⟩, trivial⟩, ⟨[], rfl⟩, ⟨bndO2 a, bndO2 b, trivial⟩, rfl⟩
            · by_cases hj2 : j = 8 * t + r
              · rw [hj2]; exact h5
              · exact ho2 j (by omega)
            · show SV.i .i64 (IntKind.i64.wrap ((r : Int) + 1)) = SV.i .i64 ((r + 1 : Nat) : Int)
              rw [wrap64 (by omega) (by omega)]; rfl
        · have h3 : r = 8 := by
            have h3 : decide ((r : Int) < 8) = false := h3
            simp at h3; omega
          subst h3
          refine ⟨t + 1, ⟨h2, fun j hj => ho2 j (by omega)⟩, by omega, rfl, ⟨⟨?_, rfl, rfl⟩, trivial⟩, ⟨[], rfl⟩, ⟨bndO2 a, bndO2 b, trivial⟩, rfl⟩
          show SV.i .i64 (IntKind.i64.wrap ((t : Int) + 1)) = SV.i .i64 ((t + 1 : Nat) : Int)
          rw [wrap64 (by omega) (by omega)]; rfl
    · have h2 : t = 3 := by
        have h2 : decide ((t : Int) < 3) = false := h2
        simp at h2; omega
      subst h2
      refine WpC.loop tabOk (β := Nat) (fun k => k ≤ 3 ∧ ∀ j, j < 24 + k → a.at j = b.at j) (fun k => [(7, .i .i64 k)]) (fun _ => [.mem 26 (oenc2 a) 1 0, .mem 26 (oenc2 b) 1 0]) (fun k => 3 - k) 0 18446739675663040656 ⟨Nat.zero_le _, fun j hj => ho j (by omega)⟩ ?_ ?_
      · exact ⟨rfl, ⟨⟨rfl, rfl, rfl⟩, trivial⟩, ⟨[], rfl⟩, ⟨bndO2 a, bndO2 b, trivial⟩, rfl⟩
      · rintro k ⟨hk, ho2⟩
        refine ⟨fun h3 => ?_, fun h3 => ?_⟩
        · have h3 : k < 3 := by
            have h3 : decide ((k : Int) < 3) = true := h3
            simp at h3; omega
          have t1 : 0 ≤ (k : Int) ∧ (k : Int) < 3 := by omega
          have ea := mem_at a h3
          have eb := mem_at b h3
          refine WpC.dr tabOk mixed 0 ?_
          refine ⟨fun _ => t1, ⟨fun _ => h3, ⟨fun _ => t1, ⟨fun _ => h3, ?_⟩⟩⟩⟩
          refine ⟨by kernel_rfl, ?_⟩
          refine ⟨fun h4 => ?_, fun h4 => ?_⟩
          · have h4 : (!decide ((chunk a 24 3).getD k 0 = (chunk b 24 3).getD k 0)) = true := h4
            rw [ea, eb] at h4
            refine WpC.dr tabOk mixed 0 ?_
            refine ⟨fun _ => t1, ⟨fun _ => h3, ⟨fun _ => t1, ⟨fun _ => h3, ?_⟩⟩⟩⟩
            refine ⟨by kernel_rfl, ?_⟩
            refine b_congr ?_
            show decide ((chunk a 24 3).getD k 0 < (chunk b 24 3).getD k 0) = _
            rw [ea, eb]
            exact lt_step (by omega) ho2 (by simpa using h4)
          · have h4 : (!decide ((chunk a 24 3).getD k 0 = (chunk b 24 3).getD k 0)) = false := h4
            rw [ea, eb] at h4
            have h5 : a.at (24 + k) = b.at (24 + k) := by simpa using h4
            refine ⟨k + 1, ⟨h3, fun j hj => ?_⟩, by omega, rfl, ⟨⟨?_, rfl, rfl⟩, trivial⟩, ⟨[], rfl⟩, ⟨bndO2 a, bndO2 b, trivial⟩, rfl⟩
            · by_cases hj2 : j = 24 + k
              · rw [hj2]; exact h5
              · exact ho2 j (by omega)
            · show SV.i .i64 (IntKind.i64.wrap ((k : Int) + 1)) = SV.i .i64 ((k + 1 : Nat) : Int)
              rw [wrap64 (by omega) (by omega)]; rfl
        · have h3 : k = 3 := by
            have h3 : decide ((k : Int) < 3) = false := h3
            simp at h3; omega
          subst h3
          exact b_congr (lt_all fun j hj => ho2 j (by omega)).symm
theorem rless_ok (a b : Oc) : CtrV Tryz.prog 24 [.agg (oenc a), .agg (oenc b)] (.b (decide (ltO a b))) :=
  Cp.argsEq (args' := [.agg (oenc2 a), .agg (oenc2 b)]) (fun E => by simp only [denL, wrapV, cells, oenc2_cells]) (fun m V => ⟨⟨rfl, by simp only [Ok]; exact oenc2_ok a m V⟩, ⟨rfl, by simp only [Ok]; exact oenc2_ok b m V⟩, trivial⟩) (rless2_ok a b)
end SX
end Go.Proofs.YtjpdnkfplnnhhaaGreatDoor

/- SX: clear of a row's end; what is known of slices that stay. -/
set_option linter.unusedVariables false
set_option linter.unusedSimpArgs false
namespace Go.Proofs.YtjpdnkfplnnhhaaGreatDoor
namespace SX
open Go

/-- An immutable slice that is not empty is not nil. -/
theorem Cp.immSome {X : List Value → World → (Value → World → Prop) → Prop} {A B : List SV} {α : Type} {d : α} {n : Nat} {enc : α → List SV} {xs : List α} {a : Option Addr} {cap : Nat} {H : List SB} {K : SV → List SB → Prop}
    (h : (a = none → xs = []) → Cp X (A ++ .imm α d n enc xs a cap :: B) H K) : Cp X (A ++ .imm α d n enc xs a cap :: B) H K := by
  refine ⟨fun C E m w hr ha => (h ?_).out C E m w hr ha⟩
  have := (OkA_split ha).2
  simp only [OkA, Ok] at this
  rintro rfl
  by_cases hx : xs = []
  · exact hx
  · obtain ⟨ad, _, _, _, h1, _⟩ := this.1.2.2.1 hx
    cases h1
theorem zeroCells_toList (c : Array Value) : ∀ n : Nat, (Builtin.zeroCells c n).toList = (List.range n).flatMap fun _ => c.toList
  | 0 => by simp [Builtin.zeroCells]
  | n + 1 => by
    have ih := zeroCells_toList c n
    simp only [Builtin.zeroCells, Array.toList_map, Array.toList_range] at ih ⊢
    rw [show (n + 1) * c.size = c.size + n * c.size by rw [Nat.succ_mul, Nat.add_comm], List.range_add, List.map_append, List.map_map, List.range_succ_eq_map, List.flatMap_cons, List.flatMap_map, ← ih]
    congr 1
    · apply List.ext_getElem?
      intro j
      by_cases hj : j < c.size
      · rw [List.getElem?_map, List.getElem?_range hj]
        simp [Nat.mod_eq_of_lt hj, getElem!_pos, hj]
      · rw [List.getElem?_eq_none (by simpa using hj), List.getElem?_eq_none (by simpa using hj)]
    · apply List.map_congr_left
      intro i _
      simp [Nat.add_mod_left]
section
variable {P : Program} {T : Tb} {ops : Array Oper} {o : Oper}
theorem cells_append {α : Type} {d : α} {n : Nat} {enc : α → List SV} (E : Env) (xs ys : List α) : cellsL E [.arr (xs ++ ys).length α d n enc (xs ++ ys)] = cellsL E [.arr xs.length α d n enc xs] ++ cellsL E [.arr ys.length α d n enc ys] := by
  induction ys generalizing xs with
  | nil => simp [cellsL, cells]
  | cons y ys ih =>
    have h1 := ih (xs ++ [y])
    rw [List.append_assoc, List.singleton_append] at h1
    rw [h1]
    simp only [cellsL, cells, List.append_nil]
    rw [range_append_one xs y d fun x => cellsL E (enc x), List.append_assoc]
    congr 1
    rw [List.length_cons, List.range_succ_eq_map, List.flatMap_cons, List.flatMap_map]
    rfl
theorem splV_mid0 (A B Z S : List Value) (h : B.length = Z.length) : splV (A ++ B ++ S) A.length Z = A ++ Z ++ S := by
  unfold splV
  rw [List.append_assoc A B S, List.take_left, ← h, List.drop_append, List.drop_of_length_le (by omega), List.nil_append, Nat.add_sub_cancel_left, List.drop_left]
/-- 'clear' of a row's end. -/
theorem OpC.clearRow (hT : TabOk P T) {K : St → Prop} {t : List SV} {h : List SB} {x : Operand} {ty e : TypeId} (hop : o.op = .call { callee := .builtin .clear, args := #[x], argTypes := #[ty] }) (hd : o.dst = none) (hg : guardOf ops t o = some []) {ti te : TI} (ht : T ty = some ti) (hk : ti.k = .slice e) (hte : T e = some te)
    {k ver off len dc N n g : Nat} {α : Type} {d z : α} {enc : α → List SV} {xs : List α} (hx : evG [] t x = .sl k ver off len none dc) (hh : h[k]? = some (.mem e [.arr N α d n enc xs] ver (g + 1))) (hn : n = g + 1) (hsz : te.size = n) (hoff : off = dc * n) (hlen : dc + len = N) (hw : ∀ x, wdL (enc x) = n) (hok : ∀ x m, OkL m [] (enc x))
    (hz : cellsL E0 te.zero = cellsL E0 (enc z)) (hK : K ⟨t, h.set k (.mem e [.arr N α d n enc (xs.take dc ++ List.replicate len z)] ver (g + 1))⟩) : OpC P T ops o K ⟨t, h⟩ := by
  refine ⟨fun C E m a w hr => ?_⟩
  unfold opW
  rw [show Region.wanted o (yielded ops a.tmps) = true by simp [Region.wanted, guard_none hg], if_pos rfl]
  have hti := hT.ti ty ti ht
  obtain ⟨i, zz, hi, hsi, hbi, hzz, hzc⟩ := (hT.ti e te hte).inf
  obtain ⟨gx, ex⟩ := (hr.evs .nil).live (o := x) (by rw [hx]; rfl)
  rw [hx] at gx ex
  obtain ⟨o1, o2, o3⟩ := hr.rel.bl k _ hh
  have hxl : xs.length = N := by simp only [OkL, Ok] at o1; exact o1.1.2.1
  have hvs : ∀ B', B'.lim = (SB.mem e [.arr N α d n enc xs] ver (g + 1)).lim → vers (h.set k B') = vers h := fun B' hl => vers_set hh hl
  have hok2 : OkL m (vers h) [.arr N α d n enc (xs.take dc ++ List.replicate len z)] := by
    simp only [OkL, Ok, isUnit]
    exact ⟨⟨trivial, by simp; omega, hw, fun j hj => OkL.mono (fun _ _ h => h) _ _ _ (fun k v hv => (Vle_nil hv).elim) (hok _ m)⟩, trivial⟩
  have hlx : (cellsL E [.arr N α d n enc xs]).length = N * n := by rw [length_cellsL E _ _ o1]; simp [wdL, wd]
  have hly : (cellsL E [.arr N α d n enc (xs.take dc ++ List.replicate len z)]).length = N * n := by rw [length_cellsL E _ _ hok2]; simp [wdL, wd]
  have fin : ∀ w', (execOp a.eval o).run P w = .ok (.value (.tuple #[])) w' → Rel E C m (h.set k (.mem e [.arr N α d n enc (xs.take dc ++ List.replicate len z)] ver (g + 1))) w' →
      o.wp P a w (fun a' w' => ∃ E' m' S', K S' ∧ Ext E m (vers h) E' m' (vers S'.h) ∧ Rep E' C m' S' a' w') (onlyN fun a' w' => ∃ E' m' S', K S' ∧ Ext E m (vers h) E' m' (vers S'.h) ∧ Rep E' C m' S' a' w') := fun w' h1 h2 => by
    have hx2 : Ext E m (vers h) E m (vers (h.set k (.mem e [.arr N α d n enc (xs.take dc ++ List.replicate len z)] ver (g + 1)))) := by rw [hvs (.mem e [.arr N α d n enc (xs.take dc ++ List.replicate len z)] ver (g + 1)) rfl]; exact .refl ..
    simp only [Oper.wp, h1, Oper.upon]
    have := (hr.up hx2 h2).put o.dst (x := .dead) (v := .tuple #[]) fun d' hd' => by rw [hd] at hd'; cases hd'
    rw [hd] at this ⊢
    exact ⟨E, m, _, hK, hx2, this⟩
  by_cases hl0 : len = 0
  · subst hl0
    have hv : ∃ ad cp, a.eval x = .slice ad 0 cp := by
      rw [ex]
      simp only [den, wrapV, cells, List.headD_cons]
      cases E k ver with
      | none => exact ⟨_, _, rfl⟩
      | some q => exact ⟨_, _, rfl⟩
    obtain ⟨ad, cp, hv⟩ := hv
    have hr0 : (Builtin.clear_ #[ty] o.type #[.slice ad 0 cp]).run P w = .ok (.tuple #[]) w := by
      cases ad <;> simp [Builtin.clear_, run_underlying' (hti.slice hk)]
    refine fin w (by simp only [execOp, hop, resolve, Go.invoke, builtin, Sem.run_bind, Sem.run_pure, Result.andThen_ok, List.map_toArray, List.map_cons, List.map_nil, hv, hr0]) ?_
    have e9 : xs.take dc ++ List.replicate 0 z = xs := by rw [List.replicate_zero, List.append_nil, List.take_of_length_le (by omega)]
    rw [e9]
    have : h.set k (.mem e [.arr N α d n enc xs] ver (g + 1)) = h := by
      apply List.ext_getElem?
      intro j
      by_cases hj : j = k
      · subst hj; rw [hh]; simp [List.getElem?_set, (List.getElem?_eq_some_iff.1 hh).1]
      · rw [List.getElem?_set_ne (Ne.symm hj)]
    rw [this]; exact hr.rel
  · have hv0 : ver ≠ 0 := fun e => by
      have := gx.1
      simp only [Ok] at this
      exact hl0 (this.2 e)
    obtain ⟨b, c, sp, e1, e2, e3, e4⟩ := o3 hv0
    have hv : a.eval x = .slice (some ⟨b, off, none⟩) len (c - dc) := by
      rw [ex]
      simp [den, wrapV, cells, e1, hl0]
    have hzl : (Builtin.zeroCells zz.cells len).toList = cellsL E [.arr len α d n enc (List.replicate len z)] := by
      have hst : ∀ x, cellsL E (enc x) = cellsL E0 (enc x) := fun x => cellsL_stable (m := fun _ => none) (V := []) (fun k v hv => (Vle_nil hv).elim) _ (hok x _)
      simp only [cellsL, cells, List.append_nil]
      have h1 : (List.range len).flatMap (fun j => cellsL E (enc ((List.replicate len z).getD j d))) = (List.range len).flatMap (fun _ => zz.cells.toList) := by
        rw [List.flatMap_def, List.flatMap_def]
        congr 1
        apply List.map_congr_left
        intro j hj
        have hj' : j < len := by simpa using hj
        rw [hzc, hz, ← hst z]
        simp [List.getD_eq_getElem?_getD, List.getElem?_replicate, hj']
      rw [h1]
      exact zeroCells_toList zz.cells len
    have hzlen : (Builtin.zeroCells zz.cells len).toList.length = len * n := by
      rw [hzl, length_cellsL E (m := m) (V := []) _ (by simp only [OkL, Ok, isUnit]; exact ⟨⟨trivial, by simp, hw, fun j hj => hok _ m⟩, trivial⟩)]
      simp [wdL, wd]
    have hone : ∀ v ∈ (Builtin.zeroCells zz.cells len).toList, v.oneCell' = true := by
      rw [hzl]
      exact oneCell_cellsL E (m := m) (V := []) _ (by simp only [OkL, Ok, isUnit]; exact ⟨⟨trivial, by simp, hw, fun j hj => hok _ m⟩, trivial⟩)
    have hNn : N * n = dc * n + len * n := by rw [← hlen, Nat.add_mul]
    have hst := run_storeCells (P := P) (Builtin.zeroCells zz.cells len).toList w b off 0 (cellsL E [.arr N α d n enc xs] ++ sp) e e2 hone (by rw [hzlen, List.length_append, hlx, hoff]; omega)
    have hz2 : ∀ w, (zeroValue e).run P w = .ok zz w := fun w => by simp [zeroValue, typeInfo, hi, hzz]
    have hr0 : (Builtin.clear_ #[ty] o.type #[.slice (some ⟨b, off, none⟩) len (c - dc)]).run P w = .ok (.tuple #[]) (setBlk w b (.cells (splV (cellsL E [.arr N α d n enc xs] ++ sp) (off + 0) (Builtin.zeroCells zz.cells len).toList).toArray e (0, 0))) := by
      obtain ⟨l', rfl⟩ : ∃ l', len = l' + 1 := ⟨len - 1, by omega⟩
      simp only [Builtin.clear_, Sem.run_bind, run_underlying' (hti.slice hk), Result.andThen_ok, List.getElem?_toArray, List.getElem?_cons_zero, hz2, hst, Sem.run_pure]
    refine fin (setBlk w b (.cells (splV (cellsL E [.arr N α d n enc xs] ++ sp) (off + 0) (Builtin.zeroCells zz.cells len).toList).toArray e (0, 0))) (by simp only [execOp, hop, resolve, Go.invoke, builtin, Sem.run_bind, Sem.run_pure, Result.andThen_ok, List.map_toArray, List.map_cons, List.map_nil, hv, hr0]) ?_
    have hlt := size_of_heap e2
    refine hr.rel.set (B' := .mem e [.arr N α d n enc (xs.take dc ++ List.replicate len z)] ver (g + 1)) hh rfl ⟨hv0, c, e1⟩ (fun c2 hc => by obtain ⟨_, c3, he2⟩ := hc; rw [e1] at he2; cases he2; rfl) ⟨rfl, rfl, rfl, Nat.le_refl _⟩ (fun i hi => setBlk_ne hi _) ⟨hok2, fun e => absurd e hv0, fun _ => ⟨b, c, sp, e1, ?_, by rw [hly, ← hlx]; exact e3, e4⟩⟩
    rw [setBlk_same hlt]
    congr 2
    apply Array.ext'
    simp only
    have hsp1 : cellsL E [.arr N α d n enc xs] = cellsL E [.arr (xs.take dc).length α d n enc (xs.take dc)] ++ cellsL E [.arr (xs.drop dc).length α d n enc (xs.drop dc)] := by
      rw [← cells_append, List.take_append_drop, hxl]
    have hsp2 : cellsL E [.arr N α d n enc (xs.take dc ++ List.replicate len z)] = cellsL E [.arr (xs.take dc).length α d n enc (xs.take dc)] ++ cellsL E [.arr (List.replicate len z).length α d n enc (List.replicate len z)] := by
      rw [← cells_append]
      congr 3
      simp; omega
    have hlt1 : (cellsL E [.arr (xs.take dc).length α d n enc (xs.take dc)]).length = dc * n := by
      rw [length_cellsL E (m := m) (V := []) _ (by simp only [OkL, Ok, isUnit]; exact ⟨⟨trivial, trivial, hw, fun j hj => hok _ m⟩, trivial⟩)]
      simp only [wdL, wd, Nat.add_zero, List.length_take]
      rw [Nat.min_eq_left (by omega)]
    have hlt2 : (cellsL E [.arr (xs.drop dc).length α d n enc (xs.drop dc)]).length = len * n := by
      have := congrArg List.length hsp1
      rw [List.length_append, hlx, hlt1] at this
      omega
    rw [hsp2, hsp1, Nat.add_zero, hoff, ← hlt1, splV_mid0 _ _ _ _ (by rw [hlt2, hzlen]), hzl, List.length_replicate]
end
end SX
end Go.Proofs.YtjpdnkfplnnhhaaGreatDoor

/- Outcomes: Clone, Compact. -/
set_option linter.unusedVariables false
set_option maxRecDepth 100000
namespace Go.Proofs.YtjpdnkfplnnhhaaGreatDoor
namespace SX
open Go Go.Proofs
def eqB (a b : Oc) : Nat → Nat → Bool
  | _, 0 => true
  | p, 1 => decide (a.at p = b.at p)
  | p, n + 2 => decide (a.at p = b.at p) && eqB a b (p + 1) (n + 1)
theorem eqB_iff {a b : Oc} : ∀ {n p : Nat}, eqB a b p n = true ↔ ∀ j, j < n → a.at (p + j) = b.at (p + j)
  | 0, p => by simp [eqB]
  | 1, p => by
    simp only [eqB, decide_eq_true_eq]
    constructor
    · intro h j hj
      have : j = 0 := by omega
      subst this; exact h
    · intro h; exact h 0 (by omega)
  | n + 2, p => by
    simp only [eqB, Bool.and_eq_true, decide_eq_true_eq, eqB_iff (n := n + 1) (p := p + 1)]
    constructor
    · rintro ⟨h1, h2⟩ j hj
      cases j with
      | zero => exact h1
      | succ j => have := h2 j (by omega); rwa [show p + 1 + j = p + (j + 1) by omega] at this
    · intro h
      exact ⟨h 0 (by omega), fun j hj => by have := h (j + 1) (by omega); rwa [show p + (j + 1) = p + 1 + j by omega] at this⟩
theorem oc_ext {a b : Oc} (h : ∀ j, j < 27 → a.at j = b.at j) : a = b := Oc.ext' (by
  apply List.ext_getElem (by rw [a.h, b.h])
  intro j h1 h2
  have := h j (by rw [← a.h]; exact h1)
  simpa [Oc.at, List.getD_eq_getElem?_getD, List.getElem?_eq_getElem h1, List.getElem?_eq_getElem h2] using this)
theorem eq27 (a b : Oc) : eqB a b 0 27 = decide (a = b) := by
  rw [Bool.eq_iff_iff, eqB_iff, decide_eq_true_eq]
  constructor
  · intro h; exact oc_ext fun j hj => by have := h j hj; rwa [Nat.zero_add] at this
  · rintro rfl j hj; rfl
def rowB (N : Nat) (xs : List Oc) (ver : Nat) : SB := .mem 26 [.arr N Oc oc0 27 oenc xs] ver 27
theorem bndR {M N ver : Nat} {xs : List Oc} : BndB M (rowB N xs ver) := ⟨fun _ => rfl, trivial⟩
theorem clone_ok (xs : List Oc) (ad : Addr) (cap : Nat) (hn : xs.length ≤ 1000) : Ctr Tryz.prog 41 [.imm Oc oc0 27 oenc xs (some ad) cap] [] (fun r h => r = .sl 1 1 0 xs.length none 0 ∧ h = [.gone 1, rowB xs.length xs 1]) := by
  refine Ctr.enter tabOk (fn := Tryz.f41) rfl rfl rfl rfl rfl ?_
  refine ⟨fun h => (by cases h), fun _ => ?_⟩
  refine OpC.yld 1 rfl (yld_app_lit tabOk rfl rfl rfl rfl rfl rfl rfl rfl (fun E => rfl) (SrcA.imm rfl rfl rfl) (p := 1) rfl Joins.nil (Nat.le_trans hn (by decide)) ?_) (fun d hd => by cases hd; rfl) ?_
  · show xs.length * 216 ≤ 140737488355328
    omega
  exact ⟨rfl, rfl⟩
theorem takeS {xs : List Oc} {K : Nat} {v : Oc} (h : K < xs.length) : (xs.set K v).take (K + 1) = xs.take K ++ [v] := by
  apply List.ext_getElem?
  intro j
  by_cases hj : j < K
  · rw [List.getElem?_append_left (by simp; omega), List.getElem?_take_of_lt (by omega), List.getElem?_take_of_lt (by omega), List.getElem?_set_ne (by omega)]
  · by_cases hj2 : j = K
    · subst hj2
      rw [List.getElem?_append_right (by simp; omega), List.getElem?_take_of_lt (by omega), List.getElem?_set_self (by omega)]
      simp [List.length_take, Nat.min_eq_left (show j ≤ xs.length by omega)]
    · rw [List.getElem?_eq_none (by simp; omega), List.getElem?_eq_none (by simp; omega)]
theorem take_S {xs : List Oc} {k : Nat} (h : k < xs.length) : xs.take (k + 1) = xs.take k ++ [xs.getD k oc0] := by
  rw [List.take_add_one]
  simp [List.getElem?_eq_getElem h, List.getD_eq_getElem?_getD]
set_option maxHeartbeats 4000000 in
theorem compact_ok (ys : List Oc) (N : Nat) (hN : ys.length = N) (hn : N ≤ 1000) : Ctr Tryz.prog 44 [.sl 0 1 0 N none 0] [rowB N ys 1]
    (fun r h => ∃ zs K, r = .sl 0 1 0 K none 0 ∧ h = [rowB N zs 1] ∧ zs.length = N ∧ K ≤ N ∧ zs.take K = ddA ys N) := by
  refine Ctr.enter tabOk (fn := Tryz.f44) rfl rfl rfl rfl rfl ?_
  refine ⟨fun h1 => ?_, fun h1 => ?_⟩
  · have h1 : N < 2 := by
      have h1 : decide ((N : Int) < 2) = true := h1
      simp at h1; omega
    refine ⟨ys, N, rfl, rfl, hN, Nat.le_refl _, ?_⟩
    rw [List.take_of_length_le (by omega)]
    have hc : N = 0 ∨ N = 1 := by omega
    rcases hc with rfl | rfl
    · exact List.eq_nil_of_length_eq_zero hN
    · match ys, hN with
      | [y], _ => rfl
  have h2 : 2 ≤ N := by
    have h1 : decide ((N : Int) < 2) = false := h1
    simp at h1; omega
  clear h1
  refine WpC.loop tabOk (β := Nat) (fun k => 1 ≤ k ∧ k ≤ N ∧ ddA ys k = ys.take k) (fun k => [(3, .i .i64 k)]) (fun _ => [rowB N ys 1]) (fun k => N - k) 1 1152921504606846012 ⟨Nat.le_refl _, by omega, ?_⟩ ?_ ?_
  · show [ys.getD 0 oc0] = ys.take 1
    rw [take_S (k := 0) (by omega)]; rfl
  · exact ⟨rfl, ⟨⟨rfl, rfl, rfl⟩, trivial⟩, ⟨[], rfl⟩, ⟨bndR, trivial⟩, rfl⟩
  · rintro k ⟨hk1, hk2, hd⟩
    refine ⟨fun h3 => ?_, fun h3 => ?_⟩
    · have h3 : k < N := by
        have h3 : decide ((k : Int) < N) = true := h3
        simp at h3; omega
      have hw : IntKind.i64.wrap ((k : Int) - 1) = (k : Int) - 1 := wrap64 (by omega) (by omega)
      have hj : 0 + (IntKind.i64.wrap ((k : Int) - 1)).toNat = k - 1 := by rw [hw]; omega
      have g1 : 0 = 0 * 27 ∧ 0 ≤ (k : Int) ∧ (k : Int) < N := by omega
      have g2 : 1 = 1 ∧ 0 + k < N := by omega
      have g3 : 0 = 0 * 27 ∧ 0 ≤ IntKind.i64.wrap ((k : Int) - 1) ∧ IntKind.i64.wrap ((k : Int) - 1) < N := by rw [hw]; omega
      have g4 : 1 = 1 ∧ 0 + (IntKind.i64.wrap ((k : Int) - 1)).toNat < N := by rw [hj]; omega
      refine WpC.dr tabOk mixed 0 ?_
      refine ⟨fun _ => g1, ⟨fun _ => g2, ⟨fun _ => g3, ⟨fun _ => g4, ?_⟩⟩⟩⟩
      refine ⟨by kernel_rfl, ?_⟩
      refine ⟨fun h4 => ?_, fun h4 => ?_⟩
      · have h4 : eqB (ys.getD (0 + k) oc0) (ys.getD (0 + (IntKind.i64.wrap ((k : Int) - 1)).toNat) oc0) 0 27 = true := h4
        rw [eq27, hj, Nat.zero_add] at h4
        have h5 : ys.getD k oc0 = ys.getD (k - 1) oc0 := of_decide_eq_true h4
        clear h4 g2 g3 g4
        have g5 : ((1 = 1 ∧ 27 = 27 ∧ 0 < 27) ∧ 0 = 0 * 27 ∧ (0 + N) * 27 ≤ N * 27 + 0) ∧ ((k : Int).toNat < N ∨ 0 = 0) ∧ 0 ≤ (k : Int) ∧ (k : Int) ≤ N := by omega
        refine ⟨fun _ => g5, ?_⟩
        have hk3 : (k : Int).toNat = k := rfl
        refine WpC.loop tabOk (β := Nat × Nat × List Oc) (fun b => 1 ≤ b.1 ∧ b.1 ≤ N - k ∧ b.2.2.length = N ∧ b.2.2.take b.2.1 = ddA ys (k + b.1) ∧ b.2.1 = (ddA ys (k + b.1)).length ∧ b.2.1 ≤ k + b.1 - 1 ∧ ∀ p, k + b.1 - 1 ≤ p → b.2.2.getD p oc0 = ys.getD p oc0) (fun b => [(5, .i .i64 b.1), (3, .i .i64 b.2.1)]) (fun b => [rowB N b.2.2 1]) (fun b => N - b.1) (1, k, ys) 18014397972611112 ⟨Nat.le_refl _, by omega, hN, ?_, ?_, by simp, fun p _ => rfl⟩ ?_ ?_
        · show ys.take k = ddA ys (k + 1)
          simp only [ddA]
          rw [if_pos ⟨by omega, h5⟩, hd]
        · show k = (ddA ys (k + 1)).length
          simp only [ddA]
          rw [if_pos ⟨by omega, h5⟩, hd, List.length_take]; omega
        · exact ⟨rfl, ⟨⟨rfl, rfl, rfl⟩, ⟨rfl, rfl, rfl⟩, trivial⟩, ⟨[], rfl⟩, ⟨bndR, trivial⟩, rfl⟩
        · rintro ⟨k2, K, zs⟩ ⟨i1, i2, i3, i4, i5, i6, i7⟩
          simp only at i1 i2 i3 i4 i5 i6 i7
          refine ⟨fun h6 => ?_, fun h6 => ?_⟩
          · have h6 : k2 < N - k := by
              have h6 : decide ((k2 : Int) < ((N - k : Nat) : Int)) = true := h6
              simp at h6; omega
            have hw2 : IntKind.i64.wrap ((k2 : Int) - 1) = (k2 : Int) - 1 := wrap64 (by omega) (by omega)
            have hj2 : 0 + k + (IntKind.i64.wrap ((k2 : Int) - 1)).toNat = k + k2 - 1 := by rw [hw2]; omega
            have q1 : 0 + k * 27 = (0 + k) * 27 ∧ 0 ≤ (k2 : Int) ∧ (k2 : Int) < ((N - k : Nat) : Int) := by omega
            have q2 : 1 = 1 ∧ 0 + k + k2 < N := by omega
            have q3 : 0 + k * 27 = (0 + k) * 27 ∧ 0 ≤ IntKind.i64.wrap ((k2 : Int) - 1) ∧ IntKind.i64.wrap ((k2 : Int) - 1) < ((N - k : Nat) : Int) := by rw [hw2]; omega
            have q4 : 1 = 1 ∧ 0 + k + (IntKind.i64.wrap ((k2 : Int) - 1)).toNat < N := by rw [hj2]; omega
            refine WpC.dr tabOk mixed 0 ?_
            refine ⟨fun _ => q1, ⟨fun _ => q2, ⟨fun _ => q3, ⟨fun _ => q4, ?_⟩⟩⟩⟩
            refine ⟨by kernel_rfl, ?_⟩
            have e1 : zs.getD (k + k2) oc0 = ys.getD (k + k2) oc0 := i7 _ (by omega)
            have e2 : zs.getD (k + k2 - 1) oc0 = ys.getD (k + k2 - 1) oc0 := i7 _ (by omega)
            refine ⟨fun h7 => ?_, fun h7 => ?_⟩
            · have h7 : (!eqB (zs.getD (0 + k + k2) oc0) (zs.getD (0 + k + (IntKind.i64.wrap ((k2 : Int) - 1)).toNat) oc0) 0 27) = true := h7
              rw [eq27, hj2, Nat.zero_add, e1, e2] at h7
              have h8 : ¬ ys.getD (k + k2) oc0 = ys.getD (k + k2 - 1) oc0 := by simpa using h7
              have hdd : ddA ys (k + (k2 + 1)) = ddA ys (k + k2) ++ [ys.getD (k + k2) oc0] := by
                show (if _ then _ else _) = _
                rw [if_neg (fun h => h8 h.2)]; rfl
              have q5 : 0 = 0 * 27 ∧ 0 ≤ (K : Int) ∧ (K : Int) < N := by omega
              refine ⟨fun _ => q1, ⟨fun _ => q2, ⟨fun _ => q5, ⟨rfl, ⟨by show 0 + K < N; omega, ⟨zs.getD (0 + k + k2) oc0, rfl, ?_⟩⟩⟩⟩⟩⟩
              refine ⟨(k2 + 1, K + 1, zs.set (0 + K) (zs.getD (0 + k + k2) oc0)), ⟨by omega, by show k2 + 1 ≤ N - k; omega, by simpa using i3, ?_, ?_, by show K + 1 ≤ k + (k2 + 1) - 1; omega, fun p hp => ?_⟩, by show N - (k2 + 1) < N - k2; omega, rfl, ⟨⟨?_, rfl, rfl⟩, ⟨?_, rfl, rfl⟩, trivial⟩, ⟨[], rfl⟩, ⟨bndR, trivial⟩, rfl⟩
              · show (zs.set (0 + K) (zs.getD (0 + k + k2) oc0)).take (K + 1) = ddA ys (k + (k2 + 1))
                rw [hdd, Nat.zero_add, Nat.zero_add, takeS (by omega), i4, e1]
              · show K + 1 = (ddA ys (k + (k2 + 1))).length
                rw [hdd, List.length_append, ← i5]; rfl
              · show (zs.set (0 + K) (zs.getD (0 + k + k2) oc0)).getD p oc0 = ys.getD p oc0
                have hp : k + (k2 + 1) - 1 ≤ p := hp
                rw [← i7 p (by omega)]
                simp only [List.getD_eq_getElem?_getD]
                rw [List.getElem?_set_ne (by omega)]
              · show SV.i .i64 (IntKind.i64.wrap ((k2 : Int) + 1)) = SV.i .i64 ((k2 + 1 : Nat) : Int)
                rw [wrap64 (by omega) (by omega)]; rfl
              · show SV.i .i64 (IntKind.i64.wrap ((K : Int) + 1)) = SV.i .i64 ((K + 1 : Nat) : Int)
                rw [wrap64 (by omega) (by omega)]; rfl
            · have h7 : (!eqB (zs.getD (0 + k + k2) oc0) (zs.getD (0 + k + (IntKind.i64.wrap ((k2 : Int) - 1)).toNat) oc0) 0 27) = false := h7
              rw [eq27, hj2, Nat.zero_add, e1, e2] at h7
              have h8 : ys.getD (k + k2) oc0 = ys.getD (k + k2 - 1) oc0 := by simpa using h7
              have e0 : ddA ys (k + (k2 + 1)) = if k + k2 ≠ 0 ∧ ys.getD (k + k2) oc0 = ys.getD (k + k2 - 1) oc0 then ddA ys (k + k2) else ddA ys (k + k2) ++ [ys.getD (k + k2) oc0] := rfl
              have hdd : ddA ys (k + (k2 + 1)) = ddA ys (k + k2) := by rw [e0, if_pos ⟨by omega, h8⟩]
              refine ⟨(k2 + 1, K, zs), ⟨by omega, by show k2 + 1 ≤ N - k; omega, i3, ?_, ?_, by show K ≤ k + (k2 + 1) - 1; omega, fun p hp => i7 p (by have hp : k + (k2 + 1) - 1 ≤ p := hp; omega)⟩, by show N - (k2 + 1) < N - k2; omega, rfl, ⟨⟨?_, rfl, rfl⟩, ⟨rfl, rfl, rfl⟩, trivial⟩, ⟨[], rfl⟩, ⟨bndR, trivial⟩, rfl⟩
              · show zs.take K = ddA ys (k + (k2 + 1))
                rw [hdd]; exact i4
              · show K = (ddA ys (k + (k2 + 1))).length
                rw [hdd]; exact i5
              · show SV.i .i64 (IntKind.i64.wrap ((k2 : Int) + 1)) = SV.i .i64 ((k2 + 1 : Nat) : Int)
                rw [wrap64 (by omega) (by omega)]; rfl
          · have h6 : k2 = N - k := by
              have h6 : decide ((k2 : Int) < ((N - k : Nat) : Int)) = false := h6
              simp at h6; omega
            have hkk : k + k2 = N := by omega
            rw [hkk] at i4 i5
            have q6 : ((1 = 1 ∧ 27 = 27 ∧ 0 < 27) ∧ 0 = 0 * 27 ∧ (0 + N) * 27 ≤ N * 27 + 0) ∧ ((K : Int).toNat < N ∨ 0 = 0) ∧ 0 ≤ (K : Int) ∧ (K : Int) ≤ N := by omega
            refine ⟨fun _ => q6, ?_⟩
            refine OpC.clearRow tabOk (k := 0) (ver := 1) (off := 0 + K * 27) (len := N - K) (dc := 0 + K) (N := N) (n := 27) (g := 26) (α := Oc) (d := oc0) (z := oc0) (enc := oenc) (xs := zs) rfl rfl rfl rfl rfl rfl rfl rfl rfl rfl (by omega) (by omega) oenc_w oenc_ok rfl ?_
            have q7 : ((1 = 1 ∧ 27 = 27 ∧ 0 < 27) ∧ 0 = 0 * 27 ∧ (0 + N) * 27 ≤ N * 27 + 0) ∧ 0 ≤ (K : Int) ∧ (K : Int) ≤ N := by omega
            refine ⟨fun _ => q7, ?_⟩
            refine ⟨_, K, rfl, rfl, ?_, by omega, ?_⟩
            · simp; omega
            · rw [Nat.zero_add, List.take_append_of_le_length (by simp; omega), List.take_take, Nat.min_self]
              exact i4
      · have h4 : eqB (ys.getD (0 + k) oc0) (ys.getD (0 + (IntKind.i64.wrap ((k : Int) - 1)).toNat) oc0) 0 27 = false := h4
        rw [eq27, hj, Nat.zero_add] at h4
        have h5 : ¬ ys.getD k oc0 = ys.getD (k - 1) oc0 := of_decide_eq_false h4
        refine ⟨k + 1, ⟨by omega, h3, ?_⟩, by omega, rfl, ⟨⟨?_, rfl, rfl⟩, trivial⟩, ⟨[], rfl⟩, ⟨bndR, trivial⟩, rfl⟩
        · simp only [ddA]
          rw [if_neg (fun h => h5 h.2), hd, take_S (by omega)]
        · show SV.i .i64 (IntKind.i64.wrap ((k : Int) + 1)) = SV.i .i64 ((k + 1 : Nat) : Int)
          rw [wrap64 (by omega) (by omega)]; rfl
    · have h3 : k = N := by
        have h3 : decide ((k : Int) < N) = false := h3
        simp at h3; omega
      subst h3
      exact ⟨ys, k, rfl, rfl, hN, Nat.le_refl _, hd.symm⟩
end SX
end Go.Proofs.YtjpdnkfplnnhhaaGreatDoor

/- SX: rows: what was read is read again when no old block has changed. -/
set_option linter.unusedVariables false
set_option linter.unusedSimpArgs false
namespace Go.Proofs.YtjpdnkfplnnhhaaGreatDoor
namespace SX
open Go Go.ChangeShapes Go.WideShapes
theorem mapM_to {α β : Type} {f g : α → Option β} : ∀ {l : List α} {r : List β}, l.mapM f = some r → (∀ x ∈ l, ∀ y, f x = some y → g x = some y) → l.mapM g = some r
  | [], r, h, hr => by simpa using h
  | a :: as1, r, h, hr => by
    rw [List.mapM_cons] at h ⊢
    cases ha : f a with
    | none => simp [ha] at h
    | some b =>
      cases has : as1.mapM f with
      | none => simp [ha, has] at h
      | some bs =>
        simp [ha, has] at h
        subst h
        rw [hr a (by simp) b ha, mapM_to has fun x hx y hy => hr x (by simp [hx]) y hy]
        rfl
theorem mapM_at {α β : Type} {f : α → Option β} : ∀ {l : List α} {r : List β}, l.mapM f = some r → ∀ {x}, x ∈ l → ∃ y, f x = some y
  | [], r, h, x, hx => by simp at hx
  | a :: as1, r, h, x, hx => by
    rw [List.mapM_cons] at h
    cases ha : f a with
    | none => simp [ha] at h
    | some b =>
      cases has : as1.mapM f with
      | none => simp [ha, has] at h
      | some bs =>
        rcases List.mem_cons.1 hx with rfl | hx
        · exact ⟨b, ha⟩
        · exact mapM_at has hx
/-- No block of the first world has changed in the second one. -/
def Kept (w w' : World) : Prop := ∀ b, b < w.heap.size → w'.heap[b]? = w.heap[b]?
section
variable {H : Type} {enc : TypeId × Value → H} {P : Program} {w w' : World} {base : Nat} {sp sp' : Nat → Bool} {held : Bool}
theorem Kept.cell (hk : Kept w w') {a : Addr} {v : Value} (h : w.cell? a = some v) : w'.cell? a = some v := by
  have hb := World.block_lt_of_cell? w _ h
  have := hk a.block hb
  unfold World.cell? at h ⊢
  rw [this]
  exact h
theorem Kept.cells (hk : Kept w w') {a : Addr} {n : Nat} {cs : List Value} (h : w.cells? base a n = some cs) : w'.cells? base a n = some cs := by
  unfold World.cells? at h ⊢
  split at h
  · rename_i hb
    rw [if_pos hb]
    exact mapM_to h fun i _ y hy => hk.cell hy
  · cases h
/-- What a type is made of is among these types; the elements of slices have cells. -/
def CompsOk (P : Program) (S : TypeId → Prop) (t : TypeId) : Prop := match P.underlying t with
  | some (.pointer e) => S e
  | some (.slice e) => S e ∧ 0 < P.cellsOf e
  | some (.struct fs) => ∀ f ∈ fs.toList, S f.type
  | some (.array _ e) => S e
  | some (.map _ e) => S e
  | _ => True
def compsB (P : Program) (n : Nat) (t : TypeId) : Bool := match P.underlying t with
  | some (.pointer e) => Nat.blt e n
  | some (.slice e) => Nat.blt e n && Nat.blt 0 (P.cellsOf e)
  | some (.struct fs) => fs.toList.all fun f => Nat.blt f.type n
  | some (.array _ e) => Nat.blt e n
  | some (.map _ e) => Nat.blt e n
  | _ => true
theorem compsOk_of {P : Program} {n : Nat} (h : ((List.range n).all (compsB P n)) = true) : ∀ t, t < n → CompsOk P (· < n) t := by
  intro t ht
  have := List.all_eq_true.1 h t (List.mem_range.2 ht)
  unfold compsB at this
  unfold CompsOk
  split <;> rename_i hu <;> first | trivial | (rw [hu] at this; simp only at this)
  · exact Nat.le_of_ble_eq_true this
  · rw [Bool.and_eq_true] at this
    exact ⟨Nat.le_of_ble_eq_true this.1, Nat.le_of_ble_eq_true this.2⟩
  · intro f hf
    exact Nat.le_of_ble_eq_true (List.all_eq_true.1 this f hf)
  · exact Nat.le_of_ble_eq_true this
  · exact Nat.le_of_ble_eq_true this
theorem trodStep_grow {S : TypeId → Prop} {r r' : TypeId → List Value → Option (DataW H × List MemPlace)} (hk : Kept w w') (hsp : ∀ b, b < w.heap.size → sp' b = true) (hz : ∀ t, S t → CompsOk P S t)
    (hr : ∀ t, S t → ∀ cs x, r t cs = some x → r' t cs = some x) {t : TypeId} (hS : S t) {cs : List Value} {x : DataW H × List MemPlace}
    (h : DataW.trodStep enc P w base (fun _ => true) true r t cs = some x) : DataW.trodStep enc P w' base sp' true r' t cs = some x := by
  have hcp := hz t hS
  unfold CompsOk at hcp
  unfold DataW.trodStep at h ⊢
  split at h
  case h_1 => exact h
  case h_2 => exact h
  case h_3 => exact h
  case h_4 => exact h
  case h_5 => exact h
  case h_6 e a ht =>
    rw [ht] at hcp
    simp only [Option.map_eq_some_iff, Option.bind_eq_some_iff] at h ⊢
    obtain ⟨y, ⟨cs', hc, hy⟩, rfl⟩ := h
    exact ⟨y, ⟨cs', hk.cells hc, hr _ hcp _ _ hy⟩, rfl⟩
  case h_7 => exact h
  case h_8 e a len cap ht =>
    rw [ht] at hcp
    simp only at h ⊢
    split at h
    · rename_i hc
      rw [if_pos hc]
      simp only [Option.map_eq_some_iff, Option.bind_eq_some_iff] at h ⊢
      obtain ⟨elems, he, rest, hrest, rfl⟩ := h
      have one : ∀ i y, (w.cells? base (a.add (i * P.cellsOf e)) (P.cellsOf e)).bind (r e) = some y → (w'.cells? base (a.add (i * P.cellsOf e)) (P.cellsOf e)).bind (r' e) = some y := fun i y hy => by
        simp only [Option.bind_eq_some_iff] at hy ⊢
        obtain ⟨cs', hc', hy'⟩ := hy
        exact ⟨cs', hk.cells hc', hr _ hcp.1 _ _ hy'⟩
      refine ⟨elems, mapM_to he fun i _ y hy => one i y hy, rest, ?_, rfl⟩
      by_cases hcap : cap - len = 0
      · rw [hcap] at hrest ⊢
        simp only [List.range_zero, List.mapM_nil] at hrest ⊢
        revert hrest
        cases sp' a.block <;> simp
      · rw [if_pos trivial] at hrest
        obtain ⟨y, hy⟩ := mapM_at hrest (List.mem_range.2 (Nat.pos_of_ne_zero hcap))
        simp only [Option.bind_eq_some_iff] at hy
        obtain ⟨cs', hc', _⟩ := hy
        have hb : (a.add ((len + 0) * P.cellsOf e)).block < w.heap.size := World.cells?_block hc' hcp.2
        have hb : a.block < w.heap.size := by
          have e1 : (a.add ((len + 0) * P.cellsOf e)).block = a.block := by unfold Addr.add; split <;> rfl
          rw [← e1]; exact hb
        rw [if_pos (hsp _ hb)]
        exact mapM_to hrest fun i _ y hy => one _ y hy
    · cases h
  case h_9 fs ht =>
    rw [ht] at hcp
    split at h
    · rename_i hc
      rw [if_pos hc]
      simp only [Option.map_eq_some_iff] at h ⊢
      obtain ⟨xs, hx, rfl⟩ := h
      exact ⟨xs, mapM_to hx fun f hf y hy => hr _ (hcp f hf) _ _ hy, rfl⟩
    · cases h
  case h_10 n e ht =>
    rw [ht] at hcp
    split at h
    · rename_i hc
      rw [if_pos hc]
      simp only [Option.map_eq_some_iff] at h ⊢
      obtain ⟨xs, hx, rfl⟩ := h
      exact ⟨xs, mapM_to hx fun f _ y hy => hr _ hcp _ _ hy, rfl⟩
    · cases h
  case h_11 => exact h
  case h_12 => exact h
  case h_13 => exact h
  case h_14 k e b ht =>
    rw [ht] at hcp
    split at h
    · rename_i es clock hb
      have hlt : b < w.heap.size := by
        rcases Nat.lt_or_ge b w.heap.size with h1 | h1
        · exact h1
        · rw [Array.getElem?_eq_none h1] at hb; cases hb
      have hb' : w'.heap[b]? = some (.map es clock) := by rw [hk b hlt]; exact hb
      rw [hb']
      simp only
      split at h
      · rename_i hc
        rw [if_pos hc]
        simp only [Option.bind_eq_some_iff] at h ⊢
        obtain ⟨entries, he, hd⟩ := h
        refine ⟨entries, mapM_to he fun x _ y hy => ?_, hd⟩
        simp only [Option.bind_eq_some_iff] at hy ⊢
        obtain ⟨key, hk, hz⟩ := hy
        refine ⟨key, hk, ?_⟩
        split at hz
        · rename_i hf
          rw [if_pos hf]
          simp only [Option.map_eq_some_iff] at hz ⊢
          obtain ⟨q, hq, rfl⟩ := hz
          exact ⟨q, hr _ hcp _ _ hq, rfl⟩
        · cases hz
      · cases h
    · cases h
  all_goals exact h
variable {S : TypeId → Prop} (hk : Kept w w') (hz : ∀ t, S t → CompsOk P S t)
include hk hz
theorem trod_grow (hsp : ∀ b, b < w.heap.size → sp' b = true) : ∀ (n : Nat) (t : TypeId), S t → ∀ (cs : List Value) (x : DataW H × List MemPlace), DataW.trod enc P w base (fun _ => true) true n t cs = some x → DataW.trod enc P w' base sp' true n t cs = some x := by
  intro n
  induction n with
  | zero => intro t _ cs x h; simp [DataW.trod] at h
  | succ n ih =>
    intro t hS cs x h
    rw [DataW.trod_step] at h ⊢
    exact trodStep_grow hk hsp hz ih hS h
theorem trodAll_grow (hsp : ∀ b, b < w.heap.size → sp' b = true) : ∀ {ts : List TypeId} {vs : List Value} {ds : List (DataW H)} {ps : List MemPlace}, (∀ t ∈ ts, S t) →
    DataW.TrodAll enc P w base (fun _ => true) true ts vs ds ps → DataW.TrodAll enc P w' base sp' true ts vs ds ps
  | [], [], [], _, _, h => h
  | _ :: _, _ :: _, _ :: _, _, hS, ⟨p, q, ⟨n, h⟩, hs, e⟩ => ⟨p, q, ⟨n, trod_grow hk hz hsp n _ (hS _ (List.mem_cons_self ..)) _ _ h⟩, trodAll_grow hsp (fun t ht => hS t (List.mem_cons_of_mem _ ht)) hs, e⟩
theorem trodVars_grow (hsp : ∀ b, b < w.heap.size → sp' b = true) (hv : ∀ n cs, w.var? P n = some cs → w'.var? P n = some cs) : ∀ {ns : List String} {ds : List (DataW H)} {ps : List MemPlace}, (∀ n ∈ ns, ∀ g t, P.globalNamed n = some g → (P.globals[g]?).map (·.type) = some t → S t) →
    DataW.TrodVars enc P w (fun _ => true) ns ds ps → DataW.TrodVars enc P w' sp' ns ds ps
  | [], [], _, _, h => h
  | n :: _, _ :: _, _, hS, ⟨g, t, cs, fuel, p, q, h1, h2, h3, h4, hs, e⟩ =>
    ⟨g, t, cs, fuel, p, q, h1, h2, hv _ _ h3, trod_grow hk hz hsp _ _ (hS n (List.mem_cons_self ..) g t h1 h2) _ _ h4, trodVars_grow hsp hv (fun n hn => hS n (List.mem_cons_of_mem _ hn)) hs, e⟩
omit hz in
theorem Kept.var {n : String} {cs : Array Value} (h : w.var? P n = some cs) : w'.var? P n = some cs := by
  unfold World.var? at h ⊢
  cases hg : P.globalNamed n with
  | none => rw [hg] at h; cases h
  | some g =>
    rw [hg] at h
    simp only [Option.bind_some] at h ⊢
    rcases Nat.lt_or_ge g w.heap.size with h1 | h1
    · rw [hk g h1]; exact h
    · rw [Array.getElem?_eq_none h1] at h; cases h
omit hz in
theorem Kept.noneFrozen {ps : List MemPlace} (hl : ∀ p ∈ ps, p.block < w.heap.size) (h : w.noneFrozen ps) : w'.noneFrozen ps := by
  intro b off hp
  have h1 := h b off hp
  have h2 := hl _ hp
  unfold World.frozen? at h1 ⊢
  rw [hk b h2]
  exact h1
/-- A law that keeps all old memory: what it hands back is what the row wants. -/
theorem post_kept {f : Func} {s : ChangeSpec} {apart fresh handsOn again : Bool} {args : Array Value} {v : Value} {ds gs : List (DataW H)} {before : List MemPlace} {res : List (DataW H)}
    (hS : ∀ t ∈ f.params.toList, S t) (hSv : ∀ n ∈ s.vars, ∀ g t, P.globalNamed n = some g → (P.globals[g]?).map (·.type) = some t → S t)
    (hW : DataW.Whole enc P f.params.toList s.vars apart w args.toList ds gs before) (hos : w'.os = w.os) (hout : w'.output = w.output)
    (hr : (s.fn H (ds ++ gs)).results = res) (ha : (s.fn H (ds ++ gs)).args = ds) (hvv : (s.fn H (ds ++ gs)).vars = gs)
    (hres : ∀ (b : Nat) (sp : Nat → Bool) (hd : Bool), DataW.TrodAll enc P w' b sp hd f.resultTypes.toList (v.resultList f.resultTypes.size) res [])
    (hok : ∀ (j : Nat) (t : TypeId) (r : Value), f.resultTypes[j]? = some t → (v.resultList f.resultTypes.size)[j]? = some r → Value.okWide P w' .any 0 t r) :
    s.post enc P f apart fresh handsOn again w args v w' := by
  have hlt := hW.lt
  have hW0 := hW
  obtain ⟨p, q, h1, h2, rfl, h4, h5⟩ := hW
  have hsp : ∀ b, b < w.heap.size → (fun b => decide (b < w.heap.size)) b = true := fun b hb => by simpa using hb
  refine ⟨ds, gs, p ++ q, [], p, q, hW0, by rw [hr]; exact hres _ _ _, by rw [ha]; exact trodAll_grow hk hz hsp hS h1, by rw [hvv]; exact trodVars_grow hk hz hsp (fun n cs => hk.var) hSv h2, ⟨hos, hout, fun i hi => ?_⟩, fun _ => ⟨hok, _, _, ([] ++ p) ++ q, ⟨[] ++ p, q, trodAll_append (trodAll_grow hk hz (fun _ _ => rfl) hS h1) (hres _ _ _), trodVars_grow hk hz (fun _ _ => rfl) (fun n cs => hk.var) hSv h2, rfl, ?_, ?_⟩, ?_⟩⟩
  · rw [hk i hi]
    cases w.heap[i]? with
    | none => rfl
    | some o => cases o <;> simp
  · simpa using hk.noneFrozen hlt h4
  · simpa using h5
  · intro p hp _
    simpa using hp
end
end SX
end Go.Proofs.YtjpdnkfplnnhhaaGreatDoor

/- SX: rows: from a contract to the law's call. -/
set_option linter.unusedVariables false
set_option linter.unusedSimpArgs false
namespace Go.Proofs.YtjpdnkfplnnhhaaGreatDoor
namespace SX
open Go Go.ChangeShapes Go.WideShapes Go.Deep
section
variable {P : Program}
/-- A contract, as a call. -/
theorem Ctr.calls {f : FuncId} {fn : Func} {c : Code} (hf : P.funcs[f]? = some fn) (hb : fn.body = some c) (hnm : (fn.name == "runtime.NumGoroutine") = false) {args : List SV} {H : List SB} {K : SV → List SB → Prop} (h : Ctr P f args H K)
    {C : Fr} {E : Env} {m : Mem} {w : World} (hr : Rel E C m H w) (ho : OkA m (vers H) args) :
    Calls P f (denL E args).toArray w (fun e w' => ∃ v, e = .returned v ∧ ∃ r H' E' m', v = den E' r ∧ K r H' ∧ (Ok m' (vers H') r ∧ live r = true) ∧ Ext E m (vers H) E' m' (vers H') ∧ Rel E' C m' H' w') := by
  have h1 := h.out C E m w hr ho
  have hrun : (callFunc f (denL E args).toArray).run P w = .ok (.enter f (denL E args).toArray) w := by
    have h1 : fn.name ≠ "runtime.NumGoroutine" := by simpa using hnm
    simp [callFunc, hf, h1, hb]
  unfold callX at h1
  rw [hrun] at h1
  exact h1
/-- The frame that holds all that is there. -/
def frAll (w : World) : Fr := ⟨w.os, w.tape, w.output, fun b => w.heap[b]?, w.drawn⟩
theorem rel_all (w : World) (E : Env) : Rel E (frAll w) (fun _ => none) [] w := {
  os := rfl
  tape := rfl
  output := ⟨rfl, Nat.le_refl _⟩
  im := fun b o h => by cases h
  fr := fun b o h => h
  mf := fun b o h => rfl
  bl := fun k B h => by simp at h
  nn := fun k v h hv => by
    exfalso
    unfold Vle at h
    simp [vers] at h
  sp := fun k b ⟨B, h, _⟩ => by simp at h
  inj := fun j k b ⟨B, h, _⟩ => by simp at h }
theorem Rel.kept {w w' : World} {E : Env} {m : Mem} {H : List SB} (h : Rel E (frAll w) m H w') : Kept w w' ∧ w'.os = w.os ∧ w'.output = w.output := by
  refine ⟨fun b hb => ?_, h.os, h.output.1⟩
  have hg : w.heap[b]? = some w.heap[b] := Array.getElem?_eq_getElem hb
  rw [h.fr b _ hg, hg]
/-- A law of plain values. -/
theorem law_calls {f : FuncId} {fn : Func} {c : Code} (hf : P.funcs[f]? = some fn) (hb : fn.body = some c) (hnm : (fn.name == "runtime.NumGoroutine") = false) {args : List SV} (h : CtrV P f args (.b true))
    (ho : OkA (fun _ => none) [] args) (w : World) {vs : Array Value} (hvs : vs = (denL (fun _ _ => none) args).toArray) :
    Calls P f vs w (fun e w' => e = .returned (.bool true) ∧ Kept w w' ∧ w'.os = w.os ∧ w'.output = w.output) := by
  subst hvs
  refine (h.calls hf hb hnm (rel_all w _) ho).mono fun e w' he => ?_
  obtain ⟨v, rfl, r, H', E', m', rfl, ⟨rfl, rfl⟩, _, _, hrel⟩ := he
  exact ⟨rfl, hrel.kept⟩
/-- The blocks that the arguments lean on, and the rest. -/
def memOf (w : World) (S : Nat → Bool) : Mem := fun b => if S b then w.heap[b]? else none
def frOf (w : World) (S : Nat → Bool) : Fr := ⟨w.os, w.tape, w.output, fun b => if S b then none else w.heap[b]?, w.drawn⟩
theorem rel_of (w : World) (S : Nat → Bool) (E : Env) : Rel E (frOf w S) (memOf w S) [] w := {
  os := rfl
  tape := rfl
  output := ⟨rfl, Nat.le_refl _⟩
  im := fun b o h => by
    unfold memOf at h
    split at h
    · exact h
    · cases h
  fr := fun b o h => by
    simp only [frOf] at h
    split at h
    · cases h
    · exact h
  mf := fun b o h => by
    simp only [frOf] at h
    unfold memOf
    split at h
    · cases h
    · rename_i hs; rw [if_neg hs]
  bl := fun k B h => by simp at h
  nn := fun k v h hv => by
    exfalso
    unfold Vle at h
    simp [vers] at h
  sp := fun k b ⟨B, h, _⟩ => by simp at h
  inj := fun j k b ⟨B, h, _⟩ => by simp at h }
theorem Rel.keptOf {w w' : World} {S : Nat → Bool} {E : Env} {m : Mem} {H : List SB} (hm : ∀ b o, memOf w S b = some o → m b = some o) (h : Rel E (frOf w S) m H w') : Kept w w' ∧ w'.os = w.os ∧ w'.output = w.output := by
  refine ⟨fun b hb => ?_, h.os, h.output.1⟩
  have hg : w.heap[b]? = some w.heap[b] := Array.getElem?_eq_getElem hb
  cases hs : S b with
  | true =>
    have := h.im b _ (hm b w.heap[b] (by unfold memOf; rw [hs]; exact hg))
    rw [this, hg]
  | false =>
    have := h.fr b w.heap[b] (by simp only [frOf, hs]; exact hg)
    rw [this, hg]
/-- A law whose arguments lean on memory that it only reads. -/
theorem law_callsM {f : FuncId} {fn : Func} {c : Code} (hf : P.funcs[f]? = some fn) (hb : fn.body = some c) (hnm : (fn.name == "runtime.NumGoroutine") = false) {args : List SV} (h : CtrV P f args (.b true))
    (w : World) (S : Nat → Bool) (ho : OkA (memOf w S) [] args) {vs : Array Value} (hvs : vs = (denL (fun _ _ => none) args).toArray) :
    Calls P f vs w (fun e w' => e = .returned (.bool true) ∧ Kept w w' ∧ w'.os = w.os ∧ w'.output = w.output) := by
  subst hvs
  refine (h.calls hf hb hnm (rel_of w S _) ho).mono fun e w' he => ?_
  obtain ⟨v, rfl, r, H', E', m', rfl, ⟨rfl, rfl⟩, _, hx, hrel⟩ := he
  exact ⟨rfl, hrel.keptOf hx.mm⟩
end
section
variable {H : Type} {enc : TypeId × Value → H} {P : Program} {w : World} {base : Nat} {spare : Nat → Bool} {held : Bool}
/-- A struct of integers and bools, by value, opened. -/
theorem open_flat {r : Reach} {b0 : Nat} {t : TypeId} {fs : Array Field} {v : Value} {d : DataW H} {p : List MemPlace} (hs : P.underlying t = some (.struct fs)) (hone : oneCellFields P fs = true) (hC : P.cellsOf t = fs.size)
    (hv : Value.okWide P w r b0 t v) (h : DataW.Trod enc P w base spare held t v d p) :
    ∃ cs : List Value, v = .agg cs.toArray ∧ cs.length = fs.size ∧ ∀ (i : Nat) (f : Field), fs[i]? = some f → (∀ k, P.underlying f.type = some (.int k) → ∃ n, cs[i]? = some (.int k n)) ∧ (P.underlying f.type = some .bool → ∃ b, cs[i]? = some (.bool b)) := by
  obtain ⟨cs, rfl, hsz⟩ := okWide_struct hs hv
  obtain ⟨fuel, hf⟩ := h
  obtain ⟨xs, n, _, _, hl, hlen, hg⟩ := DataW.trod_struct hs hf
  refine ⟨cs.toList, by simp, by simpa [hC] using hsz, fun i f hi => ?_⟩
  obtain ⟨o0, k0⟩ := hone_of hone i f hi
  have h1 := hg i f hi
  rw [o0, k0] at h1
  have hilt : i < cs.size := by
    rw [hsz, hC]
    rcases Nat.lt_or_ge i fs.size with h | h
    · exact h
    · rw [Array.getElem?_eq_none h] at hi; cases hi
  have hcell : ((Value.agg cs).cells.toList.drop i).take 1 = [cs[i]] := by
    simp only [Value.cells]
    rw [List.drop_eq_getElem_cons (by simpa using hilt)]
    simp
  rw [hcell] at h1
  have hx : ∃ y, xs[i]? = some y := by
    have : i < xs.length := by rw [hlen]; rw [hsz, hC] at hilt; exact hilt
    exact ⟨_, List.getElem?_eq_getElem this⟩
  obtain ⟨y, hy⟩ := hx
  rw [hy] at h1
  have hci : cs.toList[i]? = some cs[i] := by simp [hilt]
  refine ⟨fun k hk => ?_, fun hk => ?_⟩
  · obtain ⟨n, e, _⟩ := DataW.trod_int hk h1
    simp only [List.cons.injEq, and_true] at e
    exact ⟨n, by rw [hci, e]⟩
  · obtain ⟨b, e, _⟩ := DataW.trod_bool hk h1
    simp only [List.cons.injEq, and_true] at e
    exact ⟨b, by rw [hci, e]⟩
end
end SX
end Go.Proofs.YtjpdnkfplnnhhaaGreatDoor

/- SX: slices.SortFunc, by the kit's contract. -/
set_option linter.unusedVariables false
set_option linter.unusedSimpArgs false
namespace Go.Proofs.YtjpdnkfplnnhhaaGreatDoor
namespace SX
open Go Go.Proofs Go.Sort
/-- A call that hands back a value: the world behind it has grown, and drawn. -/
theorem CtrV.grows {P : Program} {f : FuncId} {fn : Func} {c : Code} (hf : P.funcs[f]? = some fn) (hb : fn.body = some c) (hnm : (fn.name == "runtime.NumGoroutine") = false) {args : List SV} {r : SV} (h : CtrV P f args r) (W : World) (ho : ∀ m, OkA m [] args) (hr : ∀ E E', den E' r = den E r) :
    Calls P f (denL E0 args).toArray W (fun e w' => e = .returned (den E0 r) ∧ ∃ q os', w' = grow (W.drewN q) os') := by
  have h1 := h.calls hf hb hnm (rel_all W E0) (ho _)
  refine h1.mono ?_
  rintro e w' ⟨v, rfl, r', H', E', m', rfl, ⟨rfl, rfl⟩, _, _, hrel⟩
  refine ⟨by rw [hr E0 E'], w'.drawn - W.drawn, w'.heap.extract W.heap.size w'.heap.size, ?_⟩
  have hd : W.drawn ≤ w'.drawn := hrel.output.2
  have hk := (Rel.kept hrel).1
  have hsz : W.heap.size ≤ w'.heap.size := by
    rcases Nat.lt_or_ge w'.heap.size W.heap.size with h | h
    · have := hk w'.heap.size h
      rw [Array.getElem?_eq_none (Nat.le_refl _), Array.getElem?_eq_getElem h] at this
      cases this
    · exact h
  have hheap : w'.heap = W.heap ++ w'.heap.extract W.heap.size w'.heap.size := by
    apply Array.ext_getElem?
    intro i
    by_cases hi : i < W.heap.size
    · rw [Array.getElem?_append_left hi, hk i hi]
    · rw [Array.getElem?_append_right (by omega), Array.getElem?_extract]
      by_cases h2 : i < w'.heap.size
      · rw [if_pos (by omega)]
        congr 1; omega
      · rw [Array.getElem?_eq_none (by omega), if_neg (by omega)]
  have e1 : w'.os = W.os := hrel.os
  have e2 : w'.tape = W.tape := hrel.tape
  have e3 : w'.output = W.output := hrel.output.1
  obtain ⟨h', t', d', o', u'⟩ := w'
  simp only at hd hheap e1 e2 e3
  unfold grow World.drewN
  simp only [World.mk.injEq]
  exact ⟨hheap, e2, by omega, e1, e3⟩
section
variable {P : Program} {ρ : Go.Shelf.Ren} {α : Type} [Inhabited α]
theorem sort_ctr (L : SlLaysF0.n6 P ρ) {d : α} (hd : d = default) {en : α → List SV} {k g : Nat} (hk1 : k = g + 1) (aE : ∀ w, (isAgg (ρ.t 24)).run P w = .ok true w) (zE : ∀ w, (Go.sizeOf (ρ.t 24)).run P w = .ok k w)
    (hw : ∀ x, wdL (en x) = k) (hok : ∀ x m, OkL m [] (en x)) (cf : α → α → Int) (hO : SWO (ltOf cf)) {f : FuncId} {fn : Func} {c : Code} (hf : P.funcs[f]? = some fn) (hb : fn.body = some c) (hnm : (fn.name == "runtime.NumGoroutine") = false)
    (hc : ∀ x y, CtrV P f [.agg (en x), .agg (en y)] (.i .i64 (cf x y))) {fn6 : Func} {c6 : Code} {f6 : FuncId} (hf6 : ρ.f 6 = f6) (h6 : P.funcs[f6]? = some fn6) (hb6 : fn6.body = some c6) (hnm6 : (fn6.name == "runtime.NumGoroutine") = false) (ty : TypeId) (xs : List α) (hn : xs.length < 4611686018427387904) :
    Ctr P f6 [.sl 0 1 0 xs.length none 0, .fn f []] [.mem ty [.arr xs.length α d k en xs] 1 k]
      (fun r h => ∃ ys : List α, ys.Perm xs ∧ (∀ a b, a < b → b < ys.length → ¬ cf (ys.getD b d) (ys.getD a d) < 0) ∧ r = .tup [] ∧ h = [.mem ty [.arr ys.length α d k en ys] 1 k]) := by
  subst hf6 hk1 hd
  refine ⟨fun C E m w hr ha => ?_⟩
  obtain ⟨o1, _, o3⟩ := hr.bl 0 _ rfl
  obtain ⟨b, cp, spare, e1, e2, e3, e4⟩ := o3 (by decide)
  have hat : BlkAt E [.mem ty [.arr xs.length α default (g + 1) en xs] 1 (g + 1)] 0 b := ⟨_, rfl, by decide, cp, e1⟩
  obtain ⟨s1, s2⟩ := hr.sp 0 b hat
  have hblk : b < w.heap.size := size_of_heap e2
  have hlen0 : ∀ x, (cellsL E0 (en x)).length = g + 1 := fun x => by rw [length_cellsL E0 _ [] (hok x (fun _ => none)), hw]
  have hst : ∀ (E : Env) x, cellsL E (en x) = cellsL E0 (en x) := fun E x => cellsL_stable (m := fun _ => none) (V := []) (fun k v hv => (Vle_nil hv).elim) _ (hok x _)
  have harr : ∀ (E : Env) (zs : List α) j, j < zs.length * (g + 1) → (cellsL E [.arr zs.length α default (g + 1) en zs])[j]? = some ((cellsL E0 (en (zs.toArray[j / (g + 1)]!)))[j % (g + 1)]!) := fun E zs j hj => by
    have hq : j / (g + 1) < zs.length := Nat.div_lt_of_lt_mul (by rw [Nat.mul_comm]; exact hj)
    have hm : j % (g + 1) < g + 1 := Nat.mod_lt _ (by omega)
    have hz : zs.getD (j / (g + 1)) default = zs.toArray[j / (g + 1)]! := by
      simp [List.getD_eq_getElem?_getD, List.getElem?_eq_getElem hq, getElem!_pos, hq]
    have := cells_arr (d := default) (ys := zs) hw hok E hq (u := j % (g + 1)) (c := (cellsL E0 (en (zs.toArray[j / (g + 1)]!)))[j % (g + 1)]!) (by
      rw [hz, List.getElem?_eq_getElem (by rw [hlen0]; exact hm)]
      simp [getElem!_pos, hlen0, hm])
    rwa [Nat.div_add_mod'] at this
  have hl0 : (cellsL E [.arr xs.length α default (g + 1) en xs]).length = xs.length * (g + 1) := by
    rw [length_cellsL E _ _ o1]; simp [wdL, wd]
  have hH : HoldsK (fun x => cellsL E0 (en x)) (g + 1) w b 0 xs.toArray := by
    intro j hj
    rw [size_flatK] at hj
    have hj : j < xs.length * (g + 1) := by simpa using hj
    rw [get_flatK _ _ _ _ (by simpa using hj)]
    have := harr E xs j hj
    refine ⟨?_, ?_⟩
    · rw [cell_of_heap e2, Nat.zero_add, List.getElem?_append_left (by rw [hl0]; exact hj)]
      exact this
    · simp [World.frozen?, e2]
  have hone : ∀ x, ∀ v ∈ cellsL E0 (en x), v.oneCell' = true := fun x => oneCell_cellsL E0 _ _ (hok x (fun _ => none))
  have hcmp : CmpLays P f #[] (fun x => cellsL E0 (en x)) (g + 1) cf b 0 xs.toArray.size w := fun mm os dk hs x y => by
    have := (hc x y).grows hf hb hnm (sortWorldK (fun x => cellsL E0 (en x)) (g + 1) w b 0 mm dk os) (fun m => ⟨⟨rfl, by simp only [Ok]; exact hok x m⟩, ⟨rfl, by simp only [Ok]; exact hok y m⟩, trivial⟩) (fun E E' => rfl)
    simpa [denL, wrapV, cells, den] using this
  have eg : ∀ args w, (callFunc f args).run P w = .ok (.enter f args) w := enters_of hf hnm hb
  have e6 : ∀ args w, (callFunc (ρ.f 6) args).run P w = .ok (.enter (ρ.f 6) args) w := enters_of h6 hnm6 hb6
  have hcon := AnyQ.slices_SortFunc L (g + 1) aE zE (fun x => cellsL E0 (en x)) hlen0 hone cf hO f #[] b 0 cp xs.toArray w eg hcmp hH hblk (by simpa using hn)
  have hargs : (denL E [.sl 0 1 0 xs.length none 0, .fn f []]).toArray = #[.slice (some ⟨b, 0, none⟩) xs.toArray.size cp, .func (.func f) #[] #[]] := by
    simp [denL, wrapV, cells, e1]
  unfold callX
  rw [e6, hargs]
  simp only [callN]
  refine hcon.mono ?_
  rintro e w' ⟨rfl, d', n, os, hp, hs, rfl⟩
  obtain ⟨hp1, _, hp3⟩ := hp
  have hys : d'.toList.length = xs.length := by simpa using hp1
  refine ⟨_, rfl, .tup [], [.mem ty [.arr d'.toList.length α default (g + 1) en d'.toList] 1 (g + 1)], E, m, rfl, ⟨d'.toList, ?_, ?_, rfl, rfl⟩, ⟨by simp [Ok, OkA], rfl⟩, .refl .., ?_⟩
  · have e7 : (d'.extract 0 xs.toArray.size).toList = d'.toList := by simp [← hp1]
    have e8 : (xs.toArray.extract 0 xs.toArray.size).toList = xs := by simp
    rw [e7, e8] at hp3; exact hp3
  · intro a b' h1 h2
    have := hs a b' (Nat.zero_le _) h1 (by simpa using (by omega : b' < xs.length))
    simp only [ltOf, decide_eq_false_iff_not] at this
    have ha' : a < d'.size := by simpa using (show a < d'.toList.length by omega)
    have hb' : b' < d'.size := by simpa using h2
    have g1 : d'.toList.getD a default = d'[a]! := by simp [List.getD_eq_getElem?_getD, getElem!_pos, ha']
    have g2 : d'.toList.getD b' default = d'[b']! := by simp [List.getD_eq_getElem?_getD, getElem!_pos, hb']
    rw [g1, g2]; exact this
  · have hheap : ∀ i, i < w.heap.size → i ≠ b → (sortWorldK (fun x => cellsL E0 (en x)) (g + 1) w b 0 n d' os).heap[i]? = w.heap[i]? := fun i hi hib => by
      simp only [sortWorldK, grow, putRowK, putRow, mapBlock, Sort.ahead]
      rw [Array.getElem?_append_left (by simpa using hi), Array.getElem?_modify, if_neg (Ne.symm hib)]
    have hok2 : OkL m (vers [SB.mem ty [.arr xs.length α default (g + 1) en xs] 1 (g + 1)]) [.arr d'.toList.length α default (g + 1) en d'.toList] := by
      simp only [OkL, Ok, isUnit]
      exact ⟨⟨trivial, trivial, hw, fun j hj => OkL.mono (fun _ _ h => h) _ _ _ (fun k v hv => (Vle_nil hv).elim) (hok _ m)⟩, trivial⟩
    have hblk2 : (sortWorldK (fun x => cellsL E0 (en x)) (g + 1) w b 0 n d' os).heap[b]? = some (.cells (cellsL E [.arr d'.toList.length α default (g + 1) en d'.toList] ++ spare).toArray ty (0, 0)) := by
      simp only [sortWorldK, grow, putRowK, putRow, mapBlock, Sort.ahead]
      rw [Array.getElem?_append_left (by simpa using hblk), Array.getElem?_modify, if_pos rfl, e2]
      simp only [Option.map_some, onCells, Option.some.injEq, Obj.cells.injEq, and_true]
      apply Array.ext'
      apply List.ext_getElem?
      intro j
      have hl2 : (cellsL E [.arr d'.toList.length α default (g + 1) en d'.toList]).length = xs.length * (g + 1) := by
        rw [length_cellsL E _ _ hok2]; simp only [wdL, wd, Nat.add_zero]; rw [hys]
      simp only [putCells, Array.toList_mapIdx, List.getElem?_mapIdx, size_flatK, Nat.zero_le, true_and, Nat.zero_add, Nat.sub_zero]
      have hds : d'.size = xs.length := by simpa using hp1
      by_cases hj : j < xs.length * (g + 1)
      · rw [List.getElem?_append_left (by rw [hl0]; exact hj), harr E xs j hj, List.getElem?_append_left (by rw [hl2]; exact hj), harr E d'.toList j (by rw [hys]; exact hj)]
        simp only [Option.map_some, hds, hj, if_true, id]
        rw [get_flatK _ _ _ _ (by rw [hds]; exact hj)]
      · rw [List.getElem?_append_right (by rw [hl0]; omega), List.getElem?_append_right (by rw [hl2]; omega), hl0, hl2]
        simp only [hds, hj, if_false]
        simp
    have hbl2 : ∀ i j, BlkAt E [SB.mem ty [.arr d'.toList.length α default (g + 1) en d'.toList] 1 (g + 1)] i j → i = 0 ∧ j = b := by
      rintro i j ⟨B, hB, hb'⟩
      cases i with
      | zero =>
        simp only [List.getElem?_cons_zero, Option.some.injEq] at hB
        subst hB
        obtain ⟨_, c', hc'⟩ := hb'
        rw [e1] at hc'; cases hc'; exact ⟨rfl, rfl⟩
      | succ i => simp at hB
    refine ⟨hr.os, hr.tape, ⟨hr.output.1, Nat.le_trans hr.output.2 (Nat.le_add_right _ _)⟩, fun i o hi => ?_, fun i o hi => ?_, hr.mf, fun i B hB => ?_, hr.nn, ?_, ?_⟩
    · have h9 := hr.im i o hi
      rw [hheap i (size_of_heap h9) (fun e => by subst e; rw [s1] at hi; cases hi)]
      exact h9
    · have h9 := hr.fr i o hi
      rw [hheap i (size_of_heap h9) (fun e => by subst e; rw [s2] at hi; cases hi)]
      exact h9
    · cases i with
      | zero =>
        simp only [List.getElem?_cons_zero, Option.some.injEq] at hB
        subst hB
        refine ⟨hok2, fun e => (by cases e), fun _ => ⟨b, cp, spare, e1, hblk2, ?_, e4⟩⟩
        rw [← e3, length_cellsL E _ _ hok2, length_cellsL E _ _ o1]
        simp only [wdL, wd]; rw [hys]
      | succ i => simp at hB
    · intro i j hb'
      obtain ⟨rfl, rfl⟩ := hbl2 i j hb'
      exact ⟨s1, s2⟩
    · intro i j b' h1 h2
      rw [(hbl2 i b' h1).1, (hbl2 j b' h2).1]
end
end SX
end Go.Proofs.YtjpdnkfplnnhhaaGreatDoor

/- Outcomes: Sort, and the reference's. -/
set_option linter.unusedVariables false
set_option maxRecDepth 100000
namespace Go.Proofs.YtjpdnkfplnnhhaaGreatDoor
open Go.Shelf Go.RowKit Go.Lib Go.Sort
def Tryz.sortOc_ren : Go.Shelf.Ren := ⟨fun | 6 => 42 | 15 => 77 | 14 => 76 | 28 => 108 | 29 => 109 | 20 => 100 | 21 => 101 | 22 => 102 | 23 => 103 | 24 => 104 | 25 => 105 | 26 => 106 | 27 => 107 | 46 => 136 | 47 => 137 | 48 => 138 | 49 => 139 | 50 => 140 | 57 => 182 | n => n, fun | 22 => 42 | 24 => 26 | 25 => 87 | 3 => 3 | 39 => 134 | 0 => 0 | 53 => 161 | 55 => 138 | 4 => 4 | 46 => 155 | 45 => 154 | 50 => 92 | 5 => 5 | 9 => 9 | 66 => 175 | 70 => 179 | 76 => 216 | 77 => 217 | n => n, fun | n => n⟩
theorem Tryz.sortOc : Go.Proofs.SlLaysF0.n6 Tryz.prog Tryz.sortOc_ren := {
  mixed := by kernel_rfl
  f6 := ⟨Tryz.f42.name, by decide, Tryz.func42.trans (congrArg some (by kernel_rfl))⟩
  f14 := ⟨Tryz.f76.name, by decide, Tryz.func76.trans (congrArg some (by kernel_rfl))⟩
  f15 := Tryz.func77.trans (congrArg some (by kernel_rfl))
  f20 := ⟨Tryz.f100.name, by decide, Tryz.func100.trans (congrArg some (by kernel_rfl))⟩
  f21 := ⟨Tryz.f101.name, by decide, Tryz.func101.trans (congrArg some (by kernel_rfl))⟩
  f22 := ⟨Tryz.f102.name, by decide, Tryz.func102.trans (congrArg some (by kernel_rfl))⟩
  f23 := ⟨Tryz.f103.name, by decide, Tryz.func103.trans (congrArg some (by kernel_rfl))⟩
  f24 := ⟨Tryz.f104.name, by decide, Tryz.func104.trans (congrArg some (by kernel_rfl))⟩
  f25 := ⟨Tryz.f105.name, by decide, Tryz.func105.trans (congrArg some (by kernel_rfl))⟩
  f26 := ⟨Tryz.f106.name, by decide, Tryz.func106.trans (congrArg some (by kernel_rfl))⟩
  f27 := ⟨Tryz.f107.name, by decide, Tryz.func107.trans (congrArg some (by kernel_rfl))⟩
  f28 := Tryz.func108.trans (congrArg some (by kernel_rfl))
  f29 := Tryz.func109.trans (congrArg some (by kernel_rfl))
  f46 := ⟨Tryz.f136.name, by decide, Tryz.func136.trans (congrArg some (by kernel_rfl))⟩
  f47 := Tryz.func137.trans (congrArg some (by kernel_rfl))
  f48 := Tryz.func138.trans (congrArg some (by kernel_rfl))
  f49 := ⟨Tryz.f139.name, by decide, Tryz.func139.trans (congrArg some (by kernel_rfl))⟩
  f50 := ⟨Tryz.f140.name, by decide, Tryz.func140.trans (congrArg some (by kernel_rfl))⟩
  f57 := ⟨Tryz.f182.name, by decide, Tryz.func182.trans (congrArg some (by kernel_rfl))⟩
  t0 := Tryz.underlying0
  a0 := Tryz.isAgg0
  z0 := Tryz.sizeOf0
  v0 := Tryz.zeroValue0
  t3 := Tryz.underlying3
  a3 := Tryz.isAgg3
  z3 := Tryz.sizeOf3
  v3 := Tryz.zeroValue3
  t4 := Tryz.underlying4
  a4 := Tryz.isAgg4
  z4 := Tryz.sizeOf4
  v4 := Tryz.zeroValue4
  t5 := Tryz.underlying5
  a5 := Tryz.isAgg5
  z5 := Tryz.sizeOf5
  v5 := Tryz.zeroValue5
  t9 := Tryz.underlying9
  a9 := Tryz.isAgg9
  z9 := Tryz.sizeOf9
  v9 := Tryz.zeroValue9
  t22 := Tryz.underlying42
  a22 := Tryz.isAgg42
  z22 := Tryz.sizeOf42
  v22 := Tryz.zeroValue42
  t25 := Tryz.underlying87
  a25 := Tryz.isAgg87
  z25 := Tryz.sizeOf87
  v25 := Tryz.zeroValue87
  t39 := Tryz.underlying134
  a39 := Tryz.isAgg134
  z39 := Tryz.sizeOf134
  v39 := Tryz.zeroValue134
  t45 := Tryz.underlying154
  a45 := Tryz.isAgg154
  z45 := Tryz.sizeOf154
  v45 := Tryz.zeroValue154
  t46 := Tryz.underlying155
  a46 := Tryz.isAgg155
  z46 := Tryz.sizeOf155
  v46 := Tryz.zeroValue155
  t50 := Tryz.underlying92
  a50 := Tryz.isAgg92
  z50 := Tryz.sizeOf92
  v50 := Tryz.zeroValue92
  t53 := Tryz.underlying161
  a53 := Tryz.isAgg161
  z53 := Tryz.sizeOf161
  v53 := Tryz.zeroValue161
  t55 := Tryz.underlying138
  a55 := Tryz.isAgg138
  z55 := Tryz.sizeOf138
  v55 := Tryz.zeroValue138
  t66 := Tryz.underlying175
  a66 := Tryz.isAgg175
  z66 := Tryz.sizeOf175
  v66 := Tryz.zeroValue175
  t70 := Tryz.underlying179
  a70 := Tryz.isAgg179
  z70 := Tryz.sizeOf179
  v70 := Tryz.zeroValue179
  t76 := Tryz.underlying216
  a76 := Tryz.isAgg216
  z76 := Tryz.sizeOf216
  v76 := Tryz.zeroValue216
  t77 := Tryz.underlying217
  a77 := Tryz.isAgg217
  z77 := Tryz.sizeOf217
  v77 := Tryz.zeroValue217 }
namespace SX
open Go Go.Proofs
instance : Inhabited Oc := ⟨oc0⟩
theorem swoO : SWO (ltOf cmpO) := {
  irrefl x := by unfold ltOf cmpO; rw [lexC_self]; decide
  trans x y z h1 h2 := by
    simp only [ltOf, decide_eq_true_eq] at *
    exact ltO_trans h1 h2
  ntrans x y z h1 h2 := by
    simp only [ltOf, decide_eq_false_iff_not] at *
    have e1 := lexC_neg x.l y.l
    have e2 := lexC_neg y.l z.l
    have e3 := lexC_neg x.l z.l
    unfold cmpO at *
    by_cases h3 : lexC z.l y.l = 0
    · rw [← lexC_eq h3] at e1 h1; exact h1
    · have := lexC_trans (a := z.l) (b := y.l) (c := x.l)
      by_cases h4 : lexC y.l x.l = 0
      · rw [← lexC_eq h4]; exact h2
      · have := this (by omega) (by omega)
        omega }
theorem sortFunc_ok (xs : List Oc) (hn : xs.length ≤ 1000) : Ctr Tryz.prog 42 [.sl 0 1 0 xs.length none 0, .fn 43 []] [rowB xs.length xs 1]
    (fun r h => ∃ ys : List Oc, ys.Perm xs ∧ (∀ a b, a < b → b < ys.length → ¬ cmpO (ys.getD b oc0) (ys.getD a oc0) < 0) ∧ r = .tup [] ∧ h = [rowB ys.length ys 1]) :=
  sort_ctr (d := oc0) (k := 27) Tryz.sortOc rfl rfl (fun w => by kernel_rfl) (fun w => by kernel_rfl) oenc_w oenc_ok cmpO swoO Tryz.func43 rfl rfl compare_ok (by kernel_rfl) Tryz.func42 rfl rfl 26 xs (by omega)
theorem sort_ok (xs : List Oc) (ad : Addr) (cap : Nat) (hn : xs.length ≤ 1000) : Ctr Tryz.prog 21 [.imm Oc oc0 27 oenc xs (some ad) cap] [] (fun r h => ∃ zs N K, r = .sl 1 1 0 K none 0 ∧ h = [.gone 1, rowB N zs 1] ∧ zs.length = N ∧ K ≤ N ∧ zs.take K = sortF xs) := by
  refine Ctr.enter tabOk (fn := Tryz.f21) rfl rfl rfl rfl rfl ?_
  refine OpC.callL rfl rfl rfl rfl [] 2 rfl rfl rfl (clone_ok xs ad cap hn) rfl rfl rfl rfl trivial rfl (fun r H' hk => ?_) ?_
  · rw [hk.2]; exact ⟨Nat.zero_le _, Nat.le_refl _⟩
  rintro r H' ⟨rfl, rfl⟩
  refine OpC.callL rfl rfl rfl rfl [1] 0 rfl rfl rfl (sortFunc_ok xs hn) rfl rfl rfl rfl ⟨rfl, trivial⟩ rfl (fun r H' hk => ?_) ?_
  · obtain ⟨ys, _, _, _, rfl⟩ := hk; exact ⟨Nat.le_refl _, Nat.le_refl _⟩
  rintro r H' ⟨ys, hp, hs, rfl, rfl⟩
  have hl : ys.length = xs.length := hp.length_eq
  rw [hl]
  refine OpC.callL rfl rfl rfl rfl [1] 0 rfl rfl rfl (compact_ok ys xs.length hl hn) rfl rfl rfl rfl ⟨rfl, trivial⟩ rfl (fun r H' hk => ?_) ?_
  · obtain ⟨zs, K, _, rfl, _⟩ := hk; exact ⟨Nat.le_refl _, Nat.le_refl _⟩
  rintro r H' ⟨zs, K, rfl, rfl, h1, h2, h3⟩
  refine ⟨zs, xs.length, K, rfl, rfl, h1, h2, ?_⟩
  rw [h3, ← hl]
  exact dd_sort (fun z => hp.mem_iff) hs
end SX
end Go.Proofs.YtjpdnkfplnnhhaaGreatDoor

/- Outcomes: the reference's Sort. -/
set_option linter.unusedVariables false
set_option maxRecDepth 100000
namespace Go.Proofs.YtjpdnkfplnnhhaaGreatDoor
namespace SX
open Go Go.Proofs
theorem insF_at {x : Oc} : ∀ {l : List Oc} {k : Nat}, k ≤ l.length → (∀ p, p < k → ltO (l.getD p oc0) x) → (k = l.length ∨ ¬ ltO (l.getD k oc0) x) →
    insF x l = if k < l.length ∧ l.getD k oc0 = x then l else l.take k ++ x :: l.drop k
  | [], k, hk, _, _ => by
    have : k = 0 := by simpa using hk
    subst this
    simp [insF]
  | y :: r, 0, _, _, h => by
    have h : ¬ ltO y x := by
      rcases h with h | h
      · simp at h
      · exact h
    unfold insF
    rw [if_neg h]
    by_cases hy : y = x
    · rw [if_pos hy, if_pos ⟨by simp, hy⟩]
    · rw [if_neg hy, if_neg (fun h => hy h.2)]; rfl
  | y :: r, k + 1, hk, h1, h2 => by
    have h0 : ltO y x := h1 0 (by omega)
    unfold insF
    rw [if_pos h0, insF_at (l := r) (k := k) (by simpa using hk) (fun p hp => h1 (p + 1) (by omega)) (by
      rcases h2 with h2 | h2
      · left; simpa using h2
      · right; exact h2)]
    by_cases hc : k < r.length ∧ r.getD k oc0 = x
    · rw [if_pos hc, if_pos ⟨by simpa using hc.1, hc.2⟩]
    · rw [if_neg hc, if_neg (fun h => hc ⟨by simpa using h.1, h.2⟩)]; rfl
def gap (l : List Oc) (j : Nat) (w : Oc) : List Oc := l.take j ++ w :: l.drop j
theorem gap_len {l : List Oc} {j : Nat} {w : Oc} (h : j ≤ l.length) : (gap l j w).length = l.length + 1 := by
  simp [gap]; omega
theorem gap_set {l : List Oc} {j : Nat} {w v : Oc} (h : j ≤ l.length) : (gap l j w).set j v = gap l j v := by
  unfold gap
  have : (l.take j).length = j := by simp; omega
  rw [List.set_append_right _ _ (by omega), this, Nat.sub_self]
  rfl
theorem gap_get {l : List Oc} {j p : Nat} {w : Oc} (h : j ≤ l.length) (hp : p < j) : (gap l j w).getD p oc0 = l.getD p oc0 := by
  unfold gap
  simp only [List.getD_eq_getElem?_getD]
  rw [List.getElem?_append_left (by simp; omega), List.getElem?_take_of_lt hp]
theorem gap_step {l : List Oc} {j : Nat} (h : j ≤ l.length) (h0 : 0 < j) : gap l j (l.getD (j - 1) oc0) = gap l (j - 1) (l.getD (j - 1) oc0) := by
  unfold gap
  have h1 : l.take j = l.take (j - 1) ++ [l.getD (j - 1) oc0] := by
    have := take_S (xs := l) (k := j - 1) (by omega)
    rwa [show j - 1 + 1 = j by omega] at this
  have h2 : l.drop (j - 1) = l.getD (j - 1) oc0 :: l.drop j := by
    rw [List.drop_eq_getElem_cons (by omega)]
    simp [List.getD_eq_getElem?_getD, List.getElem?_eq_getElem (show j - 1 < l.length by omega), show j - 1 + 1 = j by omega]
  rw [h1, h2, List.append_assoc]; rfl
theorem gap_end {l : List Oc} {w : Oc} : gap l l.length w = l ++ [w] := by unfold gap; simp
set_option maxHeartbeats 4000000 in
theorem rsort_ok (xs : List Oc) (a : Option Addr) (cap : Nat) (hn : xs.length ≤ 1000) : Ctr Tryz.prog 22 [.imm Oc oc0 27 oenc xs a cap] [] (fun r h => ∃ ver, r = .sl 0 ver 0 (sortF xs).length none 0 ∧ h = [rowB (sortF xs).length (sortF xs) ver]) := by
  refine Cp.trim callX_m (K := fun r h => ∃ ver X, r = .sl 0 ver 0 (sortF xs).length none 0 ∧ h = rowB (sortF xs).length (sortF xs) ver :: X) ?_ ?_
  rotate_left
  · rintro r H1 ⟨ver, X, rfl, rfl⟩
    exact ⟨[rowB (sortF xs).length (sortF xs) ver], X, rfl, Nat.zero_le _, ⟨bndR, trivial⟩, rfl, ver, rfl, rfl⟩
  refine Ctr.enter tabOk (fn := Tryz.f22) rfl rfl rfl rfl rfl ?_
  refine WpC.shift (Shift.row (d := 3) rfl 26 26 [.arr 0 Oc oc0 27 oenc []] (fun E => rfl) (fun m V => ⟨⟨rfl, rfl, oenc_w, fun j hj => by omega⟩, trivial⟩)) ?_
  refine WpC.loop tabOk (β := Nat × Nat × Nat × List Oc) (fun b => b.1 ≤ xs.length ∧ b.2.2.2 = sortN xs b.1 ∧ b.2.2.2.length = b.2.2.1 ∧ b.2.2.1 ≤ b.1) (fun b => [(4, .i .i64 b.1), (3, .sl 0 b.2.1 0 b.2.2.1 none 0)]) (fun b => [rowB b.2.2.1 b.2.2.2 b.2.1]) (fun b => xs.length - b.1) (0, 0, 0, []) 37778931862957161709560 ⟨Nat.zero_le _, rfl, rfl, Nat.le_refl _⟩ ?_ ?_
  · exact ⟨rfl, ⟨⟨rfl, rfl, rfl⟩, ⟨rfl, rfl, rfl⟩, trivial⟩, ⟨[], rfl⟩, ⟨bndR, trivial⟩, rfl⟩
  · rintro ⟨i, ver, N, l⟩ ⟨hi, hx, hN, hNi⟩
    simp only at hi hx hN hNi
    refine ⟨fun h2 => ?_, fun h2 => ?_⟩
    · have h2 : i < xs.length := by simpa using h2
      have gx : 0 ≤ (i : Int) ∧ (i : Int) < xs.length := by omega
      have hnx : sortN xs (i + 1) = insF (xs.getD i oc0) l := by rw [hx]; rfl
      refine WpC.loop tabOk (β := Nat) (fun k => k ≤ N ∧ ∀ p, p < k → ltO (l.getD p oc0) (xs.getD i oc0)) (fun k => [(5, .i .i64 k)]) (fun _ => [rowB N l ver]) (fun k => N - k) 0 1073733664 ⟨Nat.zero_le _, fun p hp => by omega⟩ ?_ ?_
      · exact ⟨rfl, ⟨⟨rfl, rfl, rfl⟩, trivial⟩, ⟨[], rfl⟩, ⟨bndR, trivial⟩, rfl⟩
      · rintro k ⟨hk, hp⟩
        have gk : ∀ h : (decide ((k : Int) < N) == true) = true, k < N := fun h => by simp at h; omega
        refine WpC.dr tabOk mixed 0 ?_
        refine ⟨fun hg => ?_, ⟨fun hg => ?_, ⟨fun _ => gx, ?_⟩⟩⟩
        · have := gk hg
          show 0 = 0 * 27 ∧ 0 ≤ (k : Int) ∧ (k : Int) < N
          omega
        · have := gk hg
          show ver = ver ∧ 0 + k < N
          omega
        refine OpD.callV rfl rfl rfl rfl rfl rfl rfl (fun _ => rless_ok (l.getD (0 + k) oc0) (xs.getD i oc0)) ?_
        refine ⟨by kernel_rfl, ?_⟩
        refine ⟨fun h3 => ?_, fun h3 => ?_⟩
        · have h3 : (decide ((k : Int) < N) && decide (ltO (l.getD (0 + k) oc0) (xs.getD i oc0))) = true := h3
          rw [Nat.zero_add] at h3
          simp only [Bool.and_eq_true, decide_eq_true_eq] at h3
          refine ⟨k + 1, ⟨by omega, fun p hp2 => ?_⟩, by omega, rfl, ⟨⟨?_, rfl, rfl⟩, trivial⟩, ⟨[], rfl⟩, ⟨bndR, trivial⟩, rfl⟩
          · rcases Nat.lt_succ_iff_lt_or_eq.1 hp2 with h | rfl
            · exact hp p h
            · exact h3.2
          · show SV.i .i64 (IntKind.i64.wrap ((k : Int) + 1)) = SV.i .i64 ((k + 1 : Nat) : Int)
            rw [wrap64 (by omega) (by omega)]; rfl
        · have h3 : (decide ((k : Int) < N) && decide (ltO (l.getD (0 + k) oc0) (xs.getD i oc0))) = false := h3
          rw [Nat.zero_add] at h3
          have hstop : k = l.length ∨ ¬ ltO (l.getD k oc0) (xs.getD i oc0) := by
            rcases Nat.lt_or_ge k N with h | h
            · right
              intro h4
              rw [decide_eq_true h4, decide_eq_true (by omega)] at h3
              cases h3
            · left; omega
          have hat := insF_at (x := xs.getD i oc0) (by omega) hp hstop
          refine WpC.dr tabOk mixed 0 ?_
          refine ⟨fun hg => ?_, ⟨fun hg => ?_, ⟨fun _ => gx, ?_⟩⟩⟩
          · have := gk hg
            show 0 = 0 * 27 ∧ 0 ≤ (k : Int) ∧ (k : Int) < N
            omega
          · have := gk hg
            show ver = ver ∧ 0 + k < N
            omega
          refine ⟨by kernel_rfl, ?_⟩
          refine ⟨fun h4 => ?_, fun h4 => ?_⟩
          · have h4 : (decide ((k : Int) < N) && eqB (l.getD (0 + k) oc0) (xs.getD i oc0) 0 27) = true := h4
            rw [Nat.zero_add, eq27] at h4
            simp only [Bool.and_eq_true, decide_eq_true_eq] at h4
            refine ⟨(i + 1, ver, N, l), ⟨h2, ?_, hN, by show N ≤ i + 1; omega⟩, by show xs.length - (i + 1) < xs.length - i; omega, rfl, ⟨⟨?_, rfl, rfl⟩, ⟨rfl, rfl, rfl⟩, trivial⟩, ⟨[], rfl⟩, ⟨bndR, trivial⟩, rfl⟩
            · show l = sortN xs (i + 1)
              rw [hnx, hat, if_pos ⟨by omega, h4.2⟩]
            · show SV.i .i64 (IntKind.i64.wrap ((i : Int) + 1)) = SV.i .i64 ((i + 1 : Nat) : Int)
              rw [wrap64 (by omega) (by omega)]; rfl
          · have h4 : (decide ((k : Int) < N) && eqB (l.getD (0 + k) oc0) (xs.getD i oc0) 0 27) = false := h4
            rw [Nat.zero_add, eq27] at h4
            rw [if_neg (fun h => by
              rw [decide_eq_true h.2, decide_eq_true (by omega)] at h4
              cases h4)] at hat
            refine ⟨fun _ => gx, ?_⟩
            refine OpC.yld 0 rfl (yld_app_row tabOk rfl rfl rfl rfl rfl rfl rfl rfl rfl (SrcA.sl rfl rfl rfl rfl (by decide) rfl) (Joins.arrN (y := xs.getD i oc0) hN rfl oenc_w) (by decide) (Nat.le_trans (show N + 1 ≤ 1001 by omega) (by decide)) ?_) (fun d hd => by cases hd; rfl) ?_
            · show (N + 1) * 216 ≤ 140737488355328
              omega
            refine WpC.loop tabOk (β := Nat × Oc) (fun b => k ≤ b.1 ∧ b.1 ≤ N) (fun b => [(6, .i .i64 b.1)]) (fun b => [rowB (N + 1) (gap l b.1 b.2) (ver + 1), .mem 26 (oenc (xs.getD i oc0)) 1 0]) (fun b => b.1) (N, xs.getD i oc0) 295111876382333861952 ⟨hk, Nat.le_refl _⟩ ?_ ?_
            · refine ⟨rfl, ⟨⟨?_, rfl, rfl⟩, trivial⟩, ⟨[], ?_⟩, ⟨bndR, bndO _, trivial⟩, rfl⟩
              · show SV.i .i64 (IntKind.i64.wrap (((N + 1 : Nat) : Int) - 1)) = SV.i .i64 (N : Int)
                rw [wrap64 (by omega) (by omega)]
                exact i64_congr (by omega)
              · show [rowB (N + 1) (l ++ [xs.getD i oc0]) (ver + 1), _] = [rowB (N + 1) (gap l N (xs.getD i oc0)) (ver + 1), _] ++ []
                rw [← hN, gap_end]; rfl
            · rintro ⟨j, w⟩ ⟨hj1, hj2⟩
              simp only at hj1 hj2
              refine ⟨fun h5 => ?_, fun h5 => ?_⟩
              · have h5 : k < j := by
                  have h5 : decide ((k : Int) < (j : Int)) = true := h5
                  simp at h5; omega
                have hw1 : IntKind.i64.wrap ((j : Int) - 1) = (j : Int) - 1 := wrap64 (by omega) (by omega)
                have hj : 0 + (IntKind.i64.wrap ((j : Int) - 1)).toNat = j - 1 := by rw [hw1]; omega
                have q1 : 0 = 0 * 27 ∧ 0 ≤ IntKind.i64.wrap ((j : Int) - 1) ∧ IntKind.i64.wrap ((j : Int) - 1) < ((N + 1 : Nat) : Int) := by rw [hw1]; omega
                have q2 : ver + 1 = ver + 1 ∧ 0 + (IntKind.i64.wrap ((j : Int) - 1)).toNat < N + 1 := by rw [hj]; omega
                have q3 : 0 = 0 * 27 ∧ 0 ≤ (j : Int) ∧ (j : Int) < ((N + 1 : Nat) : Int) := by omega
                refine ⟨fun _ => q1, ⟨fun _ => q2, ⟨fun _ => q3, ⟨rfl, ⟨by show 0 + j < N + 1; omega, ⟨(gap l j w).getD (0 + (IntKind.i64.wrap ((j : Int) - 1)).toNat) oc0, rfl, ?_⟩⟩⟩⟩⟩⟩
                refine ⟨(j - 1, l.getD (j - 1) oc0), ⟨by show k ≤ j - 1; omega, by show j - 1 ≤ N; omega⟩, by show j - 1 < j; omega, rfl, ⟨⟨?_, rfl, rfl⟩, trivial⟩, ⟨[], ?_⟩, ⟨bndR, bndO _, trivial⟩, rfl⟩
                · show SV.i .i64 (IntKind.i64.wrap ((j : Int) - 1)) = SV.i .i64 ((j - 1 : Nat) : Int)
                  rw [hw1]; exact i64_congr (by omega)
                · show [rowB (N + 1) ((gap l j w).set (0 + j) ((gap l j w).getD (0 + (IntKind.i64.wrap ((j : Int) - 1)).toNat) oc0)) (ver + 1), _] = [rowB (N + 1) (gap l (j - 1) (l.getD (j - 1) oc0)) (ver + 1), _] ++ []
                  rw [hj, gap_get (by omega) (by omega), Nat.zero_add, gap_set (by omega), gap_step (by omega) (by omega)]; rfl
              · have h5 : j = k := by
                  have h5 : decide ((k : Int) < (j : Int)) = false := h5
                  simp at h5; omega
                subst h5
                have q3 : 0 = 0 * 27 ∧ 0 ≤ (j : Int) ∧ (j : Int) < ((N + 1 : Nat) : Int) := by omega
                refine ⟨fun _ => gx, ⟨fun _ => q3, ⟨rfl, ⟨by show 0 + j < N + 1; omega, ⟨xs.getD i oc0, rfl, ?_⟩⟩⟩⟩⟩
                refine ⟨(i + 1, ver + 1, N + 1, (gap l j w).set (0 + j) (xs.getD i oc0)), ⟨h2, ?_, ?_, by show N + 1 ≤ i + 1; omega⟩, by show xs.length - (i + 1) < xs.length - i; omega, rfl, ⟨⟨?_, rfl, rfl⟩, ⟨rfl, rfl, rfl⟩, trivial⟩, ⟨_, rfl⟩, ⟨bndR, trivial⟩, rfl⟩
                · show (gap l j w).set (0 + j) (xs.getD i oc0) = sortN xs (i + 1)
                  rw [hnx, hat, Nat.zero_add, gap_set (by omega)]; rfl
                · show ((gap l j w).set (0 + j) (xs.getD i oc0)).length = N + 1
                  rw [List.length_set, gap_len (by omega), hN]
                · show SV.i .i64 (IntKind.i64.wrap ((i : Int) + 1)) = SV.i .i64 ((i + 1 : Nat) : Int)
                  rw [wrap64 (by omega) (by omega)]; rfl
    · have h2 : i = xs.length := by simp at h2; omega
      subst h2
      have hl : l = sortF xs := hx
      subst hl hN
      exact ⟨ver, [], rfl, rfl⟩
end SX
end Go.Proofs.YtjpdnkfplnnhhaaGreatDoor

/- Conditions: Judge, and the reference's. -/
set_option linter.unusedVariables false
set_option maxRecDepth 100000
namespace Go.Proofs.YtjpdnkfplnnhhaaGreatDoor
namespace SX
open Go Go.Proofs
/-- Where the first one is, -1: nowhere. -/
def idxF (p : Oc → Bool) (zs : List Oc) : Int := if zs.findIdx p < zs.length then (zs.findIdx p : Int) else -1
theorem idx_hit {p : Oc → Bool} {zs : List Oc} {i : Nat} (hi : i < zs.length) (hp : p (zs.getD i oc0) = true) (h : ∀ j, j < i → p (zs.getD j oc0) = false) : idxF p zs = i := by
  have e : zs.findIdx p = i := by
    have hg : ∀ j, (hj : j < zs.length) → zs.getD j oc0 = zs[j] := fun j hj => by simp [List.getD_eq_getElem?_getD, List.getElem?_eq_getElem hj]
    rw [List.findIdx_eq hi]
    refine ⟨by rw [← hg]; exact hp, fun j hj => by rw [← hg]; exact h j hj⟩
  unfold idxF
  rw [e, if_pos hi]
theorem idx_miss {p : Oc → Bool} {zs : List Oc} (h : ∀ j, j < zs.length → p (zs.getD j oc0) = false) : idxF p zs = -1 := by
  unfold idxF
  rw [if_neg]
  intro hlt
  have h1 := List.findIdx_getElem (w := hlt)
  have h2 := h _ hlt
  have hg : zs.getD (zs.findIdx p) oc0 = zs[zs.findIdx p] := by simp [List.getD_eq_getElem?_getD, List.getElem?_eq_getElem hlt]
  rw [hg, h1] at h2
  cases h2
theorem idx_cases (p : Oc → Bool) (zs : List Oc) : (∃ i, i < zs.length ∧ p (zs.getD i oc0) = true ∧ (∀ j, j < i → p (zs.getD j oc0) = false) ∧ idxF p zs = i) ∨ ((∀ j, j < zs.length → p (zs.getD j oc0) = false) ∧ idxF p zs = -1) := by
  by_cases hlt : zs.findIdx p < zs.length
  · left
    have hg : ∀ j, (hj : j < zs.length) → zs.getD j oc0 = zs[j] := fun j hj => by simp [List.getD_eq_getElem?_getD, List.getElem?_eq_getElem hj]
    have h1 : p (zs.getD (zs.findIdx p) oc0) = true := by rw [hg _ hlt]; exact List.findIdx_getElem (w := hlt)
    have h2 : ∀ j, j < zs.findIdx p → p (zs.getD j oc0) = false := fun j hj => by
      rw [hg j (by omega)]
      have := List.not_of_lt_findIdx hj
      simpa using this
    exact ⟨_, hlt, h1, h2, idx_hit hlt h1 h2⟩
  · right
    have h : ∀ j, j < zs.length → p (zs.getD j oc0) = false := fun j hj => by
      have hg : zs.getD j oc0 = zs[j] := by simp [List.getD_eq_getElem?_getD, List.getElem?_eq_getElem hj]
      rw [hg]
      have := List.not_of_lt_findIdx (show j < zs.findIdx p by omega)
      simpa using this
    exact ⟨h, idx_miss h⟩
noncomputable def pJ (cs : List Cn) (w : Bool) (o : Oc) : Bool := evalF o cs == w
def HJ (cs : List Cn) (a : Option Addr) (cap : Nat) (w : Bool) : List SB := [.mem 27 [.imm Cn cn0 5 cenc cs a cap] 1 0, .mem 4 [.b w] 1 0]
theorem judge1_ok (cs : List Cn) (a : Option Addr) (cap : Nat) (w : Bool) (o : Oc) : Ctr Tryz.prog 40 [.agg (oenc o), .ptr 0 1 0 [], .ptr 1 1 0 []] (HJ cs a cap w) (fun r h => r = .b (pJ cs w o) ∧ h = HJ cs a cap w) := by
  refine Ctr.enterG tabOkM (fn := Tryz.f40) rfl rfl rfl rfl rfl rfl ⟨⟨rfl, trivial⟩, ⟨rfl, trivial⟩, trivial⟩ ?_
  refine WpC.dr tabOkM mixed 0 ?_
  refine OpD.callV rfl rfl rfl rfl rfl rfl rfl (fun _ => eval_ok o cs a cap) ?_
  exact ⟨by kernel_rfl, ⟨rfl, ⟨_, rfl⟩⟩⟩
theorem indexF_ok (cs : List Cn) (a : Option Addr) (cap : Nat) (w : Bool) (zs : List Oc) (a2 : Option Addr) (cap2 : Nat) (hn : zs.length ≤ 1000) : Ctr Tryz.prog 39 [.imm Oc oc0 27 oenc zs a2 cap2, .fn 40 [.ptr 0 1 0 [], .ptr 1 1 0 []]] (HJ cs a cap w) (fun r h => r = .i .i64 (idxF (pJ cs w) zs) ∧ h = HJ cs a cap w) := by
  refine Ctr.enterG tabOkM (fn := Tryz.f39) rfl rfl rfl rfl rfl rfl ⟨⟨rfl, trivial⟩, ⟨rfl, trivial⟩, trivial⟩ ?_
  refine WpC.loop tabOkM (β := Nat) (fun i => i ≤ zs.length ∧ ∀ j, j < i → pJ cs w (zs.getD j oc0) = false) (fun i => [(8, .i .i64 i)]) (fun _ => HJ cs a cap w) (fun i => zs.length - i) 0 524080 ⟨Nat.zero_le _, fun j hj => by omega⟩ ?_ ?_
  · exact ⟨rfl, ⟨⟨rfl, rfl, rfl⟩, trivial⟩, ⟨[], rfl⟩, ⟨⟨rfl, trivial⟩, ⟨rfl, trivial⟩, trivial⟩, rfl⟩
  · rintro i ⟨hi, ho⟩
    refine ⟨fun h2 => ?_, fun h2 => ?_⟩
    · have h2 : i < zs.length := by simpa using h2
      refine ⟨fun _ => ⟨by omega, by omega⟩, ?_⟩
      refine OpC.callG rfl rfl rfl rfl rfl rfl (fun _ => judge1_ok cs a cap w (zs.getD i oc0)) ?_
      refine ⟨fun h3 => ?_, fun h3 => ?_⟩
      · have h3 : pJ cs w (zs.getD i oc0) = true := h3
        exact ⟨i64_congr (idx_hit h2 h3 ho).symm, ⟨[], rfl⟩⟩
      · have h3 : pJ cs w (zs.getD i oc0) = false := h3
        refine ⟨i + 1, ⟨h2, fun j hj => ?_⟩, by omega, rfl, ⟨⟨?_, rfl, rfl⟩, trivial⟩, ⟨[], rfl⟩, ⟨⟨rfl, trivial⟩, ⟨rfl, trivial⟩, trivial⟩, rfl⟩
        · rcases Nat.lt_succ_iff_lt_or_eq.1 hj with hj | rfl
          · exact ho j hj
          · exact h3
        · show SV.i .i64 (IntKind.i64.wrap ((i : Int) + 1)) = SV.i .i64 ((i + 1 : Nat) : Int)
          rw [wrap64 (by omega) (by omega)]; rfl
    · have h2 : i = zs.length := by simp at h2; omega
      subst h2
      exact ⟨i64_congr (idx_miss ho).symm, ⟨[], rfl⟩⟩
theorem sortF_le (os : List Oc) : (sortF os).length ≤ os.length := by
  have : ∀ i, (sortN os i).length ≤ i := fun i => by
    induction i with
    | zero => exact Nat.le_refl _
    | succ i ih =>
      have hins : ∀ (x : Oc) (l : List Oc), (insF x l).length ≤ l.length + 1 := fun x l => by
        induction l with
        | nil => simp [insF]
        | cons y r ihl =>
          unfold insF
          split
          · simp; exact ihl
          · split
            · simp
            · simp
      exact Nat.le_trans (hins _ _) (by omega)
  exact this os.length
/-- A verdict's cells. -/
def vd (h w : Bool) (o : Oc) (n : Int) : List SV := .b h :: .b w :: (oenc o ++ [.i .i64 n])
noncomputable def jI (q : Int) (cs : List Cn) (os : List Oc) : Int := idxF (pJ cs (!decide (q = 3))) (sortF os)
noncomputable def jW (q : Int) (cs : List Cn) (os : List Oc) : Bool := decide (0 ≤ jI q cs os)
noncomputable def jO (q : Int) (cs : List Cn) (os : List Oc) : Oc := if jW q cs os then (sortF os).getD (jI q cs os).toNat oc0 else oc0
noncomputable def jR (q : Int) (cs : List Cn) (os : List Oc) : SV :=
  if ¬ (q = 1 ∨ q = 2 ∨ q = 3) then .tup [.agg (vd false false oc0 0), .i .i64 1]
  else if rightB cs = false then .tup [.agg (vd false false oc0 0), .i .i64 22]
  else .tup [.agg (vd (jW q cs os == decide (q = 1)) (jW q cs os) (jO q cs os) ((sortF os).length : Int)), .i .i64 0]
theorem jR_nm (q : Int) (cs : List Cn) (os : List Oc) : nm (jR q cs os) = true := by
  unfold jR
  split
  · rfl
  · split <;> rfl
set_option maxHeartbeats 2000000 in
theorem judge_ok (q : Int) (cs : List Cn) (a : Option Addr) (cap : Nat) (os : List Oc) (ad : Addr) (cap2 : Nat) (hn : os.length ≤ 1000) : CtrV Tryz.prog 19 [.i .i64 q, .imm Cn cn0 5 cenc cs a cap, .imm Oc oc0 27 oenc os (some ad) cap2] (jR q cs os) := by
  refine Ctr.enterV tabOkM (fn := Tryz.f19) rfl rfl rfl rfl rfl (jR_nm q cs os) ?_
  refine ⟨fun h1 => ?_, fun h1 => ?_⟩
  · have h1 : (!decide (q = 1) && !decide (q = 2) && !decide (q = 3)) = true := h1
    have h2 : ¬ (q = 1 ∨ q = 2 ∨ q = 3) := by simp at h1; omega
    unfold jR
    rw [if_pos h2]; rfl
  have hq : ¬ ¬ (q = 1 ∨ q = 2 ∨ q = 3) := by
    have h1 : (!decide (q = 1) && !decide (q = 2) && !decide (q = 3)) = false := h1
    intro h2
    have : q ≠ 1 ∧ q ≠ 2 ∧ q ≠ 3 := by omega
    simp [this.1, this.2.1, this.2.2] at h1
  clear h1
  unfold jR
  rw [if_neg hq]
  refine OpC.callV rfl rfl rfl rfl rfl rfl rfl (fun _ => right_ok cs a cap) ?_
  refine ⟨fun h1 => ?_, fun h1 => ?_⟩
  · have h1 : (!rightB cs) = true := h1
    rw [if_pos (by simpa using h1)]; rfl
  have hr : ¬ rightB cs = false := by
    have h1 : (!rightB cs) = false := h1
    intro h2; rw [h2] at h1; cases h1
  clear h1
  rw [if_neg hr]
  refine OpC.callL rfl rfl rfl rfl [] 2 rfl rfl rfl (sort_ok os ad cap2 hn) rfl rfl rfl rfl trivial rfl (fun r H' hk => ?_) ?_
  · obtain ⟨zs, N, K, _, rfl, _⟩ := hk; exact ⟨Nat.zero_le _, Nat.le_refl _⟩
  rintro r H' ⟨zs, N, K, rfl, rfl, z1, z2, z3⟩
  have hK : (sortF os).length = K := by rw [← z3]; simp; omega
  refine OpC.still2 (enc := oenc) (ys := sortF os) (ys2 := sortF os) 8 36 (k := 3) (i := 0) (i2 := 0) (len := K) (len2 := K) rfl rfl rfl (by decide) rfl (by decide) z1 (by omega) (by omega) oenc_w oenc_ok (by rw [List.drop_zero]; exact z3.symm) (by rw [List.drop_zero]; exact z3.symm) fun ad1 cp1 ad2 cp2 => ?_
  refine OpC.callG rfl rfl rfl rfl rfl rfl (fun _ => Ctr.spread (indexF_ok cs a cap (!decide (q = 3)) (sortF os) (some ad2) cp2 ?_) (fun ρ => rfl) _ [0, 5] rfl rfl ⟨rfl, rfl, trivial⟩ rfl) ?_
  · exact Nat.le_trans (sortF_le os) hn
  have hlast : ∀ (h1 : jW q cs os = true), 0 ≤ idxF (pJ cs (!decide (q = 3))) (sortF os) ∧ idxF (pJ cs (!decide (q = 3))) (sortF os) < ((sortF os).length : Int) := fun h1 => by
    have h1 : decide (0 ≤ idxF (pJ cs (!decide (q = 3))) (sortF os)) = true := h1
    have h1 : 0 ≤ idxF (pJ cs (!decide (q = 3))) (sortF os) := by simpa using h1
    refine ⟨h1, ?_⟩
    rcases idx_cases (pJ cs (!decide (q = 3))) (sortF os) with ⟨i, hi, _, _, e⟩ | ⟨_, e⟩
    · omega
    · omega
  refine ⟨fun h1 => ?_, fun h1 => ?_⟩
  · have h1 : jW q cs os = true := h1
    refine ⟨fun _ => hlast h1, ?_⟩
    rw [show jO q cs os = (sortF os).getD (jI q cs os).toNat oc0 from if_pos h1, hK]
    rfl
  · have h1 : jW q cs os = false := h1
    rw [show jO q cs os = oc0 from if_neg (by rw [h1]; decide), hK]
    rfl
end SX
end Go.Proofs.YtjpdnkfplnnhhaaGreatDoor

/- Conditions: the reference's Judge. -/
set_option linter.unusedVariables false
set_option maxRecDepth 100000
namespace Go.Proofs.YtjpdnkfplnnhhaaGreatDoor
namespace SX
open Go Go.Proofs
/-- The outcome kept after i steps. -/
def oJ (zs : List Oc) (i : Nat) : Bool → Oc
  | true => zs.getD (i - 1) oc0
  | false => oc0
def vB (w : Bool) (o : Oc) (n : Nat) : SB := .mem 44 (vd false w o (n : Int)) 1 0
theorem bndV {M n : Nat} {w : Bool} {o : Oc} : BndB M (vB w o n) := by
  unfold vB vd BndB
  exact ⟨rfl, rfl, rfl, rfl, rfl, rfl, rfl, rfl, rfl, rfl, rfl, rfl, rfl, rfl, rfl, rfl, rfl, rfl, rfl, rfl, rfl, rfl, rfl, rfl, rfl, rfl, rfl, rfl, rfl, rfl, trivial⟩
set_option maxHeartbeats 2000000 in
theorem rjudge_ok (q : Int) (cs : List Cn) (a : Option Addr) (cap : Nat) (os : List Oc) (ad : Option Addr) (cap2 : Nat) (hn : os.length ≤ 1000) : CtrV Tryz.prog 20 [.i .i64 q, .imm Cn cn0 5 cenc cs a cap, .imm Oc oc0 27 oenc os ad cap2] (jR q cs os) := by
  refine Ctr.enterV tabOkM (fn := Tryz.f20) rfl rfl rfl rfl rfl (jR_nm q cs os) ?_
  refine ⟨fun h1 => ?_, fun h1 => ?_⟩
  · have h1 : (decide (q < 1) || decide (3 < q)) = true := h1
    have h2 : ¬ (q = 1 ∨ q = 2 ∨ q = 3) := by simp at h1; omega
    unfold jR
    rw [if_pos h2]; rfl
  have hq : ¬ ¬ (q = 1 ∨ q = 2 ∨ q = 3) := by
    have h1 : (decide (q < 1) || decide (3 < q)) = false := h1
    simp at h1; omega
  clear h1
  unfold jR
  rw [if_neg hq]
  refine OpC.callV rfl rfl rfl rfl rfl rfl rfl (fun _ => rright_ok cs a cap) ?_
  refine ⟨fun h1 => ?_, fun h1 => ?_⟩
  · have h1 : (!rightB cs) = true := h1
    rw [if_pos (by simpa using h1)]; rfl
  have hr : ¬ rightB cs = false := by
    have h1 : (!rightB cs) = false := h1
    intro h2; rw [h2] at h1; cases h1
  clear h1
  rw [if_neg hr]
  refine OpC.callL rfl rfl rfl rfl [] 1 rfl rfl rfl (rsort_ok os ad cap2 hn) rfl rfl rfl rfl trivial rfl (fun r H' hk => ?_) ?_
  · obtain ⟨ver, _, rfl⟩ := hk; exact ⟨Nat.zero_le _, Nat.le_refl _⟩
  rintro r H' ⟨ver, rfl, rfl⟩
  have hle : (sortF os).length ≤ 1000 := Nat.le_trans (sortF_le os) hn
  refine WpC.loop tabOkM (β := Nat × Bool) (fun b => b.1 ≤ (sortF os).length ∧ (b.2 = false → ∀ j, j < b.1 → pJ cs (!decide (q = 3)) ((sortF os).getD j oc0) = false) ∧ (b.2 = true → 0 < b.1 ∧ jI q cs os = ((b.1 - 1 : Nat) : Int))) (fun b => [(11, .i .i64 b.1)]) (fun b => [.mem 44 (vd false false oc0 0) 1 0, rowB (sortF os).length (sortF os) ver, vB b.2 (oJ (sortF os) b.1 b.2) (sortF os).length]) (fun b => (sortF os).length - b.1) (0, false) 36028796482095104 ⟨Nat.zero_le _, fun _ j hj => by omega, fun h => by cases h⟩ ?_ ?_
  · exact ⟨rfl, ⟨⟨rfl, rfl, rfl⟩, trivial⟩, ⟨[], rfl⟩, ⟨⟨rfl, rfl, rfl, rfl, rfl, rfl, rfl, rfl, rfl, rfl, rfl, rfl, rfl, rfl, rfl, rfl, rfl, rfl, rfl, rfl, rfl, rfl, rfl, rfl, rfl, rfl, rfl, rfl, rfl, rfl, trivial⟩, bndR, bndV, trivial⟩, rfl⟩
  · rintro ⟨i, w⟩ ⟨hi, hw0, hw1⟩
    simp only at hi hw0 hw1
    refine ⟨fun h2 => ?_, fun h2 => ?_⟩
    · have h2 : i < (sortF os).length ∧ w = false := by
        have h2 : (decide ((i : Int) < ((sortF os).length : Int)) && !w) = true := h2
        simp at h2; exact ⟨by omega, by simpa using h2.2⟩
      obtain ⟨hlt, rfl⟩ := h2
      refine ⟨fun _ => ?_, ⟨fun _ => ?_, ?_⟩⟩
      · show 0 = 0 * 27 ∧ 0 ≤ (i : Int) ∧ (i : Int) < ((sortF os).length : Int)
        omega
      · show ver = ver ∧ 0 + i < (sortF os).length
        omega
      refine OpC.callV rfl rfl rfl rfl rfl rfl rfl (fun _ => reval_ok ((sortF os).getD (0 + i) oc0) cs a cap) ?_
      have e0 : 0 + i = i := Nat.zero_add i
      refine ⟨fun h3 => ?_, fun h3 => ?_⟩
      · have h3 : (evalF ((sortF os).getD (0 + i) oc0) cs == !decide (q = 3)) = true := h3
        rw [e0] at h3
        refine ⟨fun _ => ?_, ⟨fun _ => ?_, ?_⟩⟩
        · show 0 = 0 * 27 ∧ 0 ≤ (i : Int) ∧ (i : Int) < ((sortF os).length : Int)
          omega
        · show ver = ver ∧ 0 + i < (sortF os).length
          omega
        refine ⟨(i + 1, true), ⟨hlt, fun h => (by cases h), fun _ => ⟨Nat.succ_pos i, idx_hit hlt h3 (hw0 rfl)⟩⟩, by show (sortF os).length - (i + 1) < (sortF os).length - i; omega, rfl, ⟨⟨?_, rfl, rfl⟩, trivial⟩, ⟨[], ?_⟩, ⟨⟨rfl, rfl, rfl, rfl, rfl, rfl, rfl, rfl, rfl, rfl, rfl, rfl, rfl, rfl, rfl, rfl, rfl, rfl, rfl, rfl, rfl, rfl, rfl, rfl, rfl, rfl, rfl, rfl, rfl, rfl, trivial⟩, bndR, bndV, trivial⟩, rfl⟩
        · show SV.i .i64 (IntKind.i64.wrap ((i : Int) + 1)) = SV.i .i64 ((i + 1 : Nat) : Int)
          rw [wrap64 (by omega) (by omega)]; rfl
        · show _ = [_, _, vB true (oJ (sortF os) (i + 1) true) (sortF os).length] ++ []
          rw [show oJ (sortF os) (i + 1) true = (sortF os).getD (0 + i) oc0 by rw [e0]; rfl]
          rfl
      · have h3 : (evalF ((sortF os).getD (0 + i) oc0) cs == !decide (q = 3)) = false := h3
        rw [e0] at h3
        refine ⟨(i + 1, false), ⟨hlt, fun _ j hj => ?_, fun h => by cases h⟩, by show (sortF os).length - (i + 1) < (sortF os).length - i; omega, rfl, ⟨⟨?_, rfl, rfl⟩, trivial⟩, ⟨[], rfl⟩, ⟨⟨rfl, rfl, rfl, rfl, rfl, rfl, rfl, rfl, rfl, rfl, rfl, rfl, rfl, rfl, rfl, rfl, rfl, rfl, rfl, rfl, rfl, rfl, rfl, rfl, rfl, rfl, rfl, rfl, rfl, rfl, trivial⟩, bndR, bndV, trivial⟩, rfl⟩
        · rcases Nat.lt_succ_iff_lt_or_eq.1 hj with hj | rfl
          · exact hw0 rfl j hj
          · exact h3
        · show SV.i .i64 (IntKind.i64.wrap ((i : Int) + 1)) = SV.i .i64 ((i + 1 : Nat) : Int)
          rw [wrap64 (by omega) (by omega)]; rfl
    · have h2 : i = (sortF os).length ∨ w = true := by
        have h2 : (decide ((i : Int) < ((sortF os).length : Int)) && !w) = false := h2
        simp at h2
        by_cases h : i < (sortF os).length
        · exact .inr (h2 (by omega))
        · exact .inl (by omega)
      have hw : jW q cs os = w ∧ jO q cs os = oJ (sortF os) i w := by
        cases w with
        | true =>
          obtain ⟨h3, h4⟩ := hw1 rfl
          have h5 : jW q cs os = true := by unfold jW; rw [h4]; exact decide_eq_true (by omega)
          refine ⟨h5, ?_⟩
          unfold jO
          rw [if_pos h5, h4]; rfl
        | false =>
          have h3 : i = (sortF os).length := by simpa using h2
          subst h3
          have h4 : jI q cs os = -1 := idx_miss (hw0 rfl)
          have h5 : jW q cs os = false := by unfold jW; rw [h4]; rfl
          refine ⟨h5, ?_⟩
          unfold jO
          rw [if_neg (by rw [h5]; decide)]; rfl
      rw [hw.1, hw.2]
      rfl
end SX
end Go.Proofs.YtjpdnkfplnnhhaaGreatDoor

/- A run of the program, as a memo. Made by memo.py. -/
set_option maxRecDepth 100000
namespace Go.Proofs.YtjpdnkfplnnhhaaGreatDoor
namespace SX
open Go Go.Proofs
def CdAble : Memo := ⟨11,
  [],
  [],
  (.b
  .true),
  []⟩
theorem CdAble_ok : MemoOk Tryz.prog CdAble := memo_of (tr := treeF) (ft := ftree) (ms := []) (n := 40) tabOkF ftOk mixed (by intro m hm; cases hm) (by decide +kernel)
end SX
end Go.Proofs.YtjpdnkfplnnhhaaGreatDoor

/- CondJudges: the law's contract. -/
set_option linter.unusedVariables false
set_option maxRecDepth 100000
namespace Go.Proofs.YtjpdnkfplnnhhaaGreatDoor
namespace SX
open Go Go.Proofs
theorem able_ok : CtrV Tryz.prog 11 [] (.b true) := CdAble_ok
theorem jR_eq (q : Int) (cs : List Cn) (os : List Oc) : ∃ (h w : Bool) (o : Oc) (n k : Int), jR q cs os = .tup [.agg (vd h w o n), .i .i64 k] := by
  unfold jR
  split
  · exact ⟨_, _, _, _, _, rfl⟩
  · split <;> exact ⟨_, _, _, _, _, rfl⟩
set_option maxHeartbeats 2000000 in
theorem judges_ok (q : Int) (cs : List Cn) (a : Option Addr) (cap : Nat) (os : List Oc) (a2 : Option Addr) (cap2 : Nat) : CtrV Tryz.prog 5 [.i .i64 q, .imm Cn cn0 5 cenc cs a cap, .imm Oc oc0 27 oenc os a2 cap2] (.b true) := by
  refine Ctr.enterV tabOkM (fn := Tryz.f5) rfl rfl rfl rfl rfl rfl ?_
  refine OpC.callV rfl rfl rfl rfl rfl rfl rfl (fun _ => able_ok) ?_
  refine ⟨fun h => absurd h (by decide), fun _ => ?_⟩
  refine ⟨fun h1 => rfl, fun h1 => ?_⟩
  have hn : cs.length ≤ 4000 ∧ os.length ≤ 500 := by
    have h1 : (decide ((4000 : Int) < cs.length) || decide ((500 : Int) < os.length)) = false := h1
    simp at h1; omega
  clear h1
  obtain ⟨h, w, o, n, k, e⟩ := jR_eq q cs os
  refine OpC.yld 1 rfl (yld_app_lit tabOkM rfl rfl rfl rfl rfl rfl rfl rfl (fun E => rfl) (SrcA.imm rfl rfl rfl) (p := 1) rfl Joins.nil (Nat.le_trans hn.1 (by decide)) ?_) (fun d hd => by cases hd; rfl) ?_
  · show cs.length * 40 ≤ 140737488355328
    omega
  refine OpC.still (enc := cenc) (ys := cs) 25 (k := 1) (i := 0) (len := cs.length) rfl rfl rfl (by decide) rfl (by omega) cenc_w cenc_ok (by simp) fun ad1 cp1 => ?_
  refine OpC.yld 1 rfl (yld_app_lit tabOkM rfl rfl rfl rfl rfl rfl rfl rfl (fun E => rfl) (SrcA.imm rfl rfl rfl) (p := 3) rfl Joins.nil (Nat.le_trans hn.2 (by decide)) ?_) (fun d hd => by cases hd; rfl) ?_
  · show os.length * 216 ≤ 140737488355328
    omega
  refine OpC.still (enc := oenc) (ys := os) 28 (k := 3) (i := 0) (len := os.length) rfl rfl rfl (by decide) rfl (by omega) oenc_w oenc_ok (by simp) fun ad3 cp3 => ?_
  refine OpC.callV rfl rfl rfl rfl rfl rfl rfl (fun _ => e ▸ judge_ok q cs (some ad1) cp1 os ad3 cp3 (by omega)) ?_
  refine OpC.callV rfl rfl rfl rfl rfl rfl rfl (fun _ => e ▸ rjudge_ok q cs a cap os a2 cap2 (by omega)) ?_
  refine b_congr ?_
  simp
end SX
end Go.Proofs.YtjpdnkfplnnhhaaGreatDoor

/- SX: rows: slices and structs of plain cells, opened. -/
set_option linter.unusedVariables false
set_option linter.unusedSimpArgs false
namespace Go.Proofs.YtjpdnkfplnnhhaaGreatDoor
namespace SX
open Go Go.ChangeShapes Go.WideShapes

/-- What a cell of a kind may hold. -/
def LKv : LK → Value → Prop
  | .i k, v => ∃ n, v = .int k n ∧ (Lit.int k n).wf = true
  | .b, v => ∃ b, v = .bool b
  | .s, v => ∃ s : ByteArray, v = .string s ∧ s.size ≤ maxLen
def LKs : List LK → List Value → Prop
  | [], [] => True
  | k :: ls, v :: cs => LKv k v ∧ LKs ls cs
  | _, _ => False
theorem LKs.len : ∀ {ls : List LK} {cs : List Value}, LKs ls cs → cs.length = ls.length
  | [], [], _ => rfl
  | k :: ls, v :: cs, h => by simp only [LKs] at h; simp [LKs.len h.2]
  | [], _ :: _, h => h.elim
  | _ :: _, [], h => h.elim
theorem LKs.app : ∀ {ls rs : List LK} {cs ds : List Value}, LKs ls cs → LKs rs ds → LKs (ls ++ rs) (cs ++ ds)
  | [], rs, [], ds, _, h => h
  | k :: ls, rs, v :: cs, ds, h, h' => by simp only [LKs, List.cons_append] at h ⊢; exact ⟨h.1, LKs.app h.2 h'⟩
  | [], _, _ :: _, _, h, _ => h.elim
  | _ :: _, _, [], _, h, _ => h.elim
theorem LKs_rep {ls : List LK} {m : Nat} (hm : ls.length = m) : ∀ (n : Nat) (cs : List Value), cs.length = n * m → (∀ i, i < n → LKs ls ((cs.drop (i * m)).take m)) → LKs (rep n ls) cs
  | 0, cs, hl, _ => by
    have : cs = [] := List.eq_nil_of_length_eq_zero (by omega)
    subst this; simp [rep, LKs]
  | n + 1, cs, hl, h => by
    have h0 := h 0 (by omega)
    rw [Nat.zero_mul, List.drop_zero] at h0
    have h1 := LKs_rep hm n (cs.drop m) (by rw [List.length_drop, hl, Nat.succ_mul]; omega) fun i hi => by
      have := h (i + 1) (by omega)
      rw [List.drop_drop, show m + i * m = (i + 1) * m by rw [Nat.succ_mul, Nat.add_comm]]
      exact this
    have := h0.app h1
    rw [List.take_append_drop] at this
    simpa only [rep] using this
section
variable {H : Type} {enc : TypeId × Value → H} {P : Program} {w : World} {base : Nat} {spare : Nat → Bool} {held : Bool}
mutual
theorem trod_flat : ∀ (f : Nat) (t : TypeId) (ls : List LK), shape P f t = some ls → P.cellsOf t = ls.length → ∀ (fuel : Nat) (cs : List Value) (x : DataW H × List MemPlace), DataW.trod enc P w base spare held fuel t cs = some x → LKs ls cs
  | 0, t, ls, h, _, _, _, _, _ => by simp [shape] at h
  | f + 1, t, ls, h, hc, fuel, cs, x, hx => by
    unfold shape at h
    cases hu : P.underlying t with
    | none => simp [hu] at h
    | some d =>
      rw [hu] at h
      cases d <;> simp only at h <;> try (cases h; done)
      case bool =>
        cases h
        obtain ⟨b, rfl, _⟩ := DataW.trod_bool hu hx
        exact ⟨⟨b, rfl⟩, trivial⟩
      case int k =>
        cases h
        obtain ⟨n, rfl, _, hw⟩ := DataW.trod_int hu hx
        exact ⟨⟨n, rfl, hw⟩, trivial⟩
      case string =>
        cases h
        obtain ⟨s, rfl, _, hw⟩ := DataW.trod_string hu hx
        exact ⟨⟨s, rfl, hw⟩, trivial⟩
      case struct fs =>
        cases hsh : P.stoodInHeld t with
        | true => rw [hsh] at h; cases h
        | false =>
          rw [hsh] at h
          simp only [cond_false] at h
          obtain ⟨xs, n, rfl, _, hl, hxl, hg⟩ := DataW.trod_struct hu hx
          have := trod_flatF f 0 fs.toList ls h n cs (fun i fl hi => by
            have hi' : fs[i]? = some fl := by simpa using hi
            have hlt : i < xs.length := by
              rw [hxl]
              rcases Nat.lt_or_ge i fs.size with h | h
              · exact h
              · rw [Array.getElem?_eq_none h] at hi'; cases hi'
            exact ⟨_, (hg i fl hi').trans (List.getElem?_eq_getElem hlt)⟩) (by omega)
          rw [List.drop_zero, List.take_of_length_le (by omega)] at this
          exact this
      case array n e =>
        cases hs : shape P f e with
        | none => rw [hs] at h; cases h
        | some es =>
          rw [hs] at h
          simp only at h
          cases hb : Nat.beq (P.cellsOf e) es.length with
          | false => rw [hb] at h; cases h
          | true =>
            rw [hb] at h
            simp only [cond_true, Option.some.injEq] at h
            subst h
            have hce := Nat.eq_of_beq_eq_true hb
            obtain ⟨xs, m, rfl, _, hl, hxl, hg⟩ := DataW.trod_array hu hx
            refine LKs_rep hce.symm n cs (by rw [hl, hc, rep_length, hce]) fun i hi => ?_
            have hlt : i < xs.length := by omega
            exact trod_flat f e es hs hce m _ _ ((hg i hi).trans (List.getElem?_eq_getElem hlt))
theorem trod_flatF : ∀ (f off : Nat) (fs : List Field) (ls : List LK), shapeF P f off fs = some ls → ∀ (n : Nat) (cs : List Value), (∀ (i : Nat) (fl : Field), fs[i]? = some fl → ∃ y, DataW.trod enc P w base spare held n fl.type ((cs.drop fl.offset).take (P.cellsOf fl.type)) = some y) → off + ls.length ≤ cs.length → LKs ls ((cs.drop off).take ls.length)
  | f, off, [], ls, h, n, cs, _, _ => by
    unfold shapeF at h
    simp only [Option.some.injEq] at h
    subst h
    simp [LKs]
  | 0, off, _ :: _, ls, h, _, _, _, _ => by simp [shapeF] at h
  | f + 1, off, x :: r, ls, h, n, cs, hg, hl => by
    unfold shapeF at h
    cases hc : (x.name == "_" || !(Nat.beq x.offset off)) with
    | true => rw [hc] at h; cases h
    | false =>
      rw [hc] at h
      simp only [cond_false] at h
      simp only [Bool.or_eq_false_iff, Bool.not_eq_false'] at hc
      have hoff := Nat.eq_of_beq_eq_true hc.2
      cases hs : shape P f x.type with
      | none => rw [hs] at h; cases h
      | some es =>
        rw [hs] at h
        simp only at h
        cases hb : Nat.beq (P.cellsOf x.type) es.length with
        | false => rw [hb] at h; cases h
        | true =>
          rw [hb] at h
          simp only [cond_true] at h
          have hce := Nat.eq_of_beq_eq_true hb
          cases hr : shapeF P f (off + es.length) r with
          | none => rw [hr] at h; cases h
          | some rs =>
            rw [hr] at h
            simp only [Option.some.injEq] at h
            subst h
            rw [List.length_append] at hl
            obtain ⟨y, hy⟩ := hg 0 x rfl
            have h1 := trod_flat f x.type es hs hce n _ _ hy
            rw [hoff, hce] at h1
            have h2 := trod_flatF f (off + es.length) r rs hr n cs (fun i fl hi => hg (i + 1) fl (by simpa using hi)) (by omega)
            have := h1.app h2
            rw [← List.drop_drop, ← List.take_add, ← List.length_append] at this
            exact this
end
/-- A slice of plain elements, opened: its rows. -/
theorem open_rows {r : Reach} {b0 f : Nat} {t e : TypeId} {ls : List LK} {v : Value} {d : DataW H} {p : List MemPlace} (ht : P.underlying t = some (.slice e)) (hsh : shape P f e = some ls) (hc : P.cellsOf e = ls.length) (hpos : 0 < ls.length)
    (hv : Value.okWide P w r b0 t v) (h : DataW.Trod enc P w base spare held t v d p) :
    ∃ (rows : List (List Value)) (a : Option Addr) (cap : Nat), v = .slice a rows.length cap ∧ rows.length ≤ cap ∧ cap ≤ maxLen ∧ (∀ row ∈ rows, LKs ls row) ∧
      (rows ≠ [] → ∃ ad arr ty fr, a = some ad ∧ ad.spot = none ∧ w.heap[ad.block]? = some (.cells arr ty fr) ∧ ∀ j row, rows[j]? = some row → ∀ u c, row[u]? = some c → arr[ad.off + j * ls.length + u]? = some c) := by
  obtain ⟨fuel, hn⟩ := h
  obtain ⟨a0, l0, c0, rfl⟩ := okWide_slice ht hv
  rcases DataW.trod_slice ht hn with ⟨e1, _⟩ | ⟨a, len, cap, elems, rest, n, rfl, e1, _, _, h1, h2, h3, h4, _⟩
  · simp only [Value.cells, List.cons.injEq, Value.slice.injEq, and_true] at e1
    obtain ⟨rfl, rfl, rfl⟩ := e1
    exact ⟨[], none, 0, rfl, Nat.le_refl _, Nat.zero_le _, fun row hr => (by cases hr), fun h => absurd rfl h⟩
  · simp only [Value.cells, List.cons.injEq, Value.slice.injEq, and_true] at e1
    obtain ⟨rfl, rfl, rfl⟩ := e1
    have hrow : ∀ j, j < l0 → ∃ row y, w.cells? base (a.add (j * P.cellsOf e)) (P.cellsOf e) = some row ∧ DataW.trod enc P w base spare held n e row = some y := fun j hj => by
      have := h4 j hj
      rw [List.getElem?_eq_getElem (by omega)] at this
      obtain ⟨row, q1, q2⟩ := Option.bind_eq_some_iff.1 this
      exact ⟨row, _, q1, q2⟩
    have hget : ∀ j, j < l0 → ((List.range l0).map fun j => (w.cells? base (a.add (j * P.cellsOf e)) (P.cellsOf e)).getD [])[j]? = some ((w.cells? base (a.add (j * P.cellsOf e)) (P.cellsOf e)).getD []) := fun j hj => by
      rw [List.getElem?_map, List.getElem?_range hj]; rfl
    have hcell : ∀ j, j < l0 → ∀ u c, ((w.cells? base (a.add (j * P.cellsOf e)) (P.cellsOf e)).getD [])[u]? = some c → u < P.cellsOf e ∧ w.cell? ((a.add (j * P.cellsOf e)).add u) = some c := fun j hj u c hu => by
      obtain ⟨row, y, q1, q2⟩ := hrow j hj
      rw [q1] at hu
      simp only [Option.getD_some] at hu
      unfold World.cells? at q1
      split at q1
      · have hl := mapM_some_length q1
        have hlt : u < row.length := (List.getElem?_eq_some_iff.1 hu).1
        have hlt2 : u < P.cellsOf e := by simpa [hl] using hlt
        have := mapM_some_get q1 u u (by simp [hlt2])
        exact ⟨hlt2, by rw [this, hu]⟩
      · cases q1
    refine ⟨(List.range l0).map fun j => (w.cells? base (a.add (j * P.cellsOf e)) (P.cellsOf e)).getD [], some a, c0, by simp, by simp; omega, by omega, fun row hr => ?_, fun hne => ?_⟩
    · obtain ⟨j, hj, rfl⟩ := List.mem_map.1 hr
      obtain ⟨row, y, q1, q2⟩ := hrow j (by simpa using hj)
      rw [q1]
      exact trod_flat f e ls hsh hc n row y q2
    · have hl0 : 0 < l0 := by
        rcases Nat.eq_zero_or_pos l0 with h | h
        · subst h; exact absurd rfl hne
        · exact h
      obtain ⟨row, y, q1, q2⟩ := hrow 0 hl0
      have hrl := (trod_flat f e ls hsh hc n row y q2).len
      have h00 := (hcell 0 hl0 0 (row[0]'(by omega)) (by rw [q1]; simp)).2
      have ha0 : a.add 0 = a := by simp [Addr.add]
      rw [Nat.zero_mul, ha0, ha0] at h00
      have hsp := World.cell?_spot h00
      have hadd : ∀ k, (a.add k).spot = none ∧ (a.add k).block = a.block ∧ (a.add k).off = a.off + k := fun k => by
        unfold Addr.add
        split
        · rename_i h; subst h; exact ⟨hsp, rfl, rfl⟩
        · exact ⟨rfl, rfl, rfl⟩
      have hadd2 : ∀ k u, (a.add k).add u = ⟨a.block, a.off + k + u, none⟩ := fun k u => by
        obtain ⟨g1, g2, g3⟩ := hadd k
        unfold Addr.add at g1 g2 g3 ⊢
        split
        · rename_i h
          subst h
          simp only [Nat.add_zero]
          split
          · rename_i h; subst h
            cases a; simp only at hsp; subst hsp; rfl
          · rfl
        · split
          · rename_i h; subst h; simp
          · rfl
      have h00' := h00
      unfold World.cell? at h00'
      split at h00'
      · rename_i arr ty fr hblk
        refine ⟨a, arr, ty, fr, rfl, hsp, hblk, fun j row hj u c hu => ?_⟩
        have hjl : j < l0 := by have := (List.getElem?_eq_some_iff.1 hj).1; simpa using this
        rw [hget j hjl] at hj
        cases hj
        have h5 := (hcell j hjl u c hu).2
        rw [hadd2] at h5
        unfold World.cell? at h5
        rw [hblk] at h5
        simp only [Option.isSome_none, Bool.false_eq_true, if_false] at h5
        rw [← hc]; exact h5
      · cases h00'
/-- .. as an immutable slice. -/
theorem open_imm {r : Reach} {b0 f : Nat} {t e : TypeId} {ls : List LK} {v : Value} {dd : DataW H} {p : List MemPlace} (ht : P.underlying t = some (.slice e)) (hsh : shape P f e = some ls) (hc : P.cellsOf e = ls.length) (hpos : 0 < ls.length)
    {α : Type} (d : α) {n : Nat} (en : α → List SV) (hn : ls.length = n) (hw : ∀ x, wdL (en x) = n) (hok : ∀ x m, OkL m [] (en x)) (hdec : ∀ row, LKs ls row → ∃ x, row = cellsL E0 (en x))
    (hv : Value.okWide P w r b0 t v) (h : DataW.Trod enc P w base spare held t v dd p) :
    ∃ (xs : List α) (a : Option Addr) (cap : Nat) (S : Nat → Bool), v = den (fun _ _ => none) (.imm α d n en xs a cap) ∧ Ok (memOf w S) [] (.imm α d n en xs a cap) ∧ xs.length ≤ maxLen := by
  obtain ⟨rows, a, cap, rfl, h1, h2, h3, h4⟩ := open_rows ht hsh hc hpos hv h
  have hx : ∃ xs : List α, rows = xs.map fun x => cellsL E0 (en x) := by
    clear h h4 hv h1
    induction rows with
    | nil => exact ⟨[], rfl⟩
    | cons row rows ih =>
      obtain ⟨xs, hxs⟩ := ih fun r hr => h3 r (List.mem_cons_of_mem _ hr)
      obtain ⟨x, hx⟩ := hdec row (h3 row List.mem_cons_self)
      exact ⟨x :: xs, by rw [hxs, hx]; rfl⟩
  obtain ⟨xs, rfl⟩ := hx
  rw [List.length_map] at *
  refine ⟨xs, a, cap, fun b => decide (some b = a.map (·.block)), by simp [den, wrapV, cells], ?_, by omega⟩
  simp only [Ok]
  refine ⟨h1, fun hne => ?_, hw, fun j hj => hok _ _⟩
  obtain ⟨ad, arr, ty, fr, rfl, e2, e3, e4⟩ := h4 (by simpa using hne)
  refine ⟨ad, arr, ty, fr, rfl, e2, by unfold memOf; rw [if_pos (by simp)]; exact e3, fun j hj u c hu => ?_⟩
  have := e4 j (cellsL E0 (en (xs.getD j d))) (by
    rw [List.getElem?_map, List.getElem?_eq_getElem hj]
    simp [List.getD_eq_getElem?_getD, List.getElem?_eq_getElem hj]) u c hu
  rw [hn] at this
  exact this
/-- A struct of plain cells by value, opened. -/
theorem open_agg {r : Reach} {b0 f : Nat} {t : TypeId} {ls : List LK} {v : Value} {d : DataW H} {p : List MemPlace} (ht : ∃ fs, P.underlying t = some (.struct fs)) (hsh : shape P f t = some ls) (hc : P.cellsOf t = ls.length)
    (hv : Value.okWide P w r b0 t v) (h : DataW.Trod enc P w base spare held t v d p) : ∃ cs : List Value, v = .agg cs.toArray ∧ LKs ls cs := by
  obtain ⟨fs, hs⟩ := ht
  obtain ⟨cs, rfl, hsz⟩ := okWide_struct hs hv
  obtain ⟨fuel, hf⟩ := h
  have := trod_flat f t ls hsh hc fuel _ _ hf
  exact ⟨cs.toList, by simp, this⟩
end
theorem memOf_mono {w : World} {S S' : Nat → Bool} (h : ∀ b, S b = true → S' b = true) : ∀ b o, memOf w S b = some o → memOf w S' b = some o := fun b o hb => by
  unfold memOf at hb ⊢
  split at hb
  · rename_i hs; rw [if_pos (h b hs)]; exact hb
  · cases hb
end SX
end Go.Proofs.YtjpdnkfplnnhhaaGreatDoor

/- Conditions: rows: what comes in, opened. -/
set_option linter.unusedVariables false
set_option maxRecDepth 100000
namespace Go.Proofs.YtjpdnkfplnnhhaaGreatDoor
open Go Go.ChangeShapes Go.WideShapes Go.ChangeAt Go.RowKit
theorem own : ownKnob Tryz.prog.godebug = none := by kernel_rfl
theorem compsOk : ∀ t, t < Tryz.prog.types.size → SX.CompsOk Tryz.prog (· < Tryz.prog.types.size) t := SX.compsOk_of (by kernel_rfl)
namespace SX
theorem LKs_ints : ∀ {n : Nat} {cs : List Value}, LKs (List.replicate n (.i .i64)) cs → ∃ xs : List Int, xs.length = n ∧ cs = xs.map (.int .i64)
  | 0, [], _ => ⟨[], rfl, rfl⟩
  | 0, _ :: _, h => h.elim
  | n + 1, [], h => h.elim
  | n + 1, v :: cs, h => by
    obtain ⟨⟨x, rfl, _⟩, h2⟩ := h
    obtain ⟨xs, e1, rfl⟩ := LKs_ints h2
    exact ⟨x :: xs, by simp [e1], rfl⟩
theorem cn_dec (row : List Value) (h : LKs (List.replicate 5 (.i .i64)) row) : ∃ c : Cn, row = cellsL E0 (cenc c) := by
  obtain ⟨xs, h1, rfl⟩ := LKs_ints h
  match xs, h1 with
  | [a, b, c, d, e], _ => exact ⟨⟨a, b, c, d, e⟩, rfl⟩
theorem oc_dec (row : List Value) (h : LKs (List.replicate 27 (.i .i64)) row) : ∃ o : Oc, row = cellsL E0 (oenc o) := by
  obtain ⟨xs, h1, rfl⟩ := LKs_ints h
  exact ⟨⟨xs, h1⟩, (oc_cells E0 ⟨xs, h1⟩).symm⟩
end SX
section
variable {H : Type} {enc : TypeId × Value → H} {W : World} {b0 : Nat} {v : Value} {d : DataW H} {p : List MemPlace} {base : Nat} {spare : Nat → Bool} {held : Bool}
theorem conds_open (hv : Value.okWide Tryz.prog W .any b0 27 v) (h : DataW.Trod enc Tryz.prog W base spare held 27 v d p) :
    ∃ (xs : List SX.Cn) (a : Option Addr) (cap : Nat) (S : Nat → Bool), v = SX.den (fun _ _ => none) (.imm SX.Cn SX.cn0 5 SX.cenc xs a cap) ∧ SX.Ok (SX.memOf W S) [] (.imm SX.Cn SX.cn0 5 SX.cenc xs a cap) ∧ xs.length ≤ maxLen :=
  SX.open_imm (f := 40) (e := 30) (ls := List.replicate 5 (.i .i64)) Tryz.underlying27 (by kernel_rfl) (by kernel_rfl) (by decide) SX.cn0 SX.cenc rfl (fun _ => rfl) (fun c m => by simp [SX.cenc, SX.OkL, SX.Ok, SX.isUnit]) SX.cn_dec hv h
theorem outs_open (hv : Value.okWide Tryz.prog W .any b0 42 v) (h : DataW.Trod enc Tryz.prog W base spare held 42 v d p) :
    ∃ (xs : List SX.Oc) (a : Option Addr) (cap : Nat) (S : Nat → Bool), v = SX.den (fun _ _ => none) (.imm SX.Oc SX.oc0 27 SX.oenc xs a cap) ∧ SX.Ok (SX.memOf W S) [] (.imm SX.Oc SX.oc0 27 SX.oenc xs a cap) ∧ xs.length ≤ maxLen :=
  SX.open_imm (f := 40) (e := 26) (ls := List.replicate 27 (.i .i64)) Tryz.underlying42 (by kernel_rfl) (by kernel_rfl) (by decide) SX.oc0 SX.oenc rfl SX.oenc_w SX.oenc_ok SX.oc_dec hv h
theorem out_open (hv : Value.okWide Tryz.prog W .any b0 26 v) (h : DataW.Trod enc Tryz.prog W base spare held 26 v d p) : ∃ o : SX.Oc, v = SX.den (fun _ _ => none) (.agg (SX.oenc o)) := by
  obtain ⟨cs, rfl, hl⟩ := SX.open_agg (f := 40) (ls := List.replicate 27 (.i .i64)) ⟨_, Tryz.underlying26⟩ (by kernel_rfl) (by kernel_rfl) hv h
  obtain ⟨o, rfl⟩ := SX.oc_dec cs hl
  exact ⟨o, by rw [SX.den_agg]; rfl⟩
end
end Go.Proofs.YtjpdnkfplnnhhaaGreatDoor

/- CondJudges: the row. -/
set_option linter.unusedVariables false
set_option maxRecDepth 100000
namespace Go.Proofs.YtjpdnkfplnnhhaaGreatDoor
open Go Go.ChangeShapes Go.WideShapes Go.ChangeAt Go.RowKit
theorem params_in : ∀ t ∈ Tryz.f5.params.toList, t < Tryz.prog.types.size := by
  have : (Tryz.f5.params.toList.all fun t => Nat.blt t Tryz.prog.types.size) = true := by kernel_rfl
  exact fun t ht => Nat.le_of_ble_eq_true (List.all_eq_true.1 this t ht)
theorem door_met (os : Os) (args : Array Value) : laidMetH Tryz.prog Rows.condJudgesRow.laid ((World.doorLaid Tryz.prog 400 os).forCall (fun _ _ => 0) ⟨#[], args, []⟩).memory :=
  laidMetH_of_parts3 (fuel := 8) (laidMet_of_run' 8 (by kernel_rfl) (by kernel_rfl)) (by kernel_rfl) (by kernel_rfl)
theorem lifted (os : Os) (started : os.Started) (H : Type) (enc : TypeId × Value → H) :
    ReturnsInHanded {} Tryz.checked os 5 .any (fun w args => (Rows.condJudgesSpec.pre enc Tryz.prog Tryz.f5 [] false w args ∧ laidMetH Tryz.prog Rows.condJudgesRow.laid w) ∧ sizedMet enc Tryz.prog Tryz.f5 (OpenSpec.ofChange Rows.condJudgesSpec) false w args)
      (Rows.condJudgesSpec.post enc Tryz.prog Tryz.f5 false true false false) := by
  refine returnsInHanded_of_change_and (C := Tryz.checked) (X := fun w _ => laidMetH Tryz.prog Rows.condJudgesRow.laid w) (fun _ _ _ hh h => h.of_heap hh) own started (by kernel_rfl) Tryz.func5
    (ChangeSpec.witness_shaped (enc := enc) (C := Tryz.checked) (os := os) (X := fun w _ => laidMetH Tryz.prog Rows.condJudgesRow.laid w) false (World.doorLaid Tryz.prog 400 os) #[.int .i64 0, .slice none 0 0, .slice none 0 0] 8 rfl (World.shaped_of_RefB (by kernel_rfl) (by kernel_rfl)) (by kernel_rfl) (by kernel_rfl) (by kernel_rfl) (door_met os _)) ?_
  intro W base args ds gs before hval0 hW _ _ hL _
  have hval : ∀ (j : Nat) t v, Tryz.f5.params[j]? = some t → args[j]? = some v → Value.okWide Tryz.prog W .any base t v := hval0
  have hW' := hW
  obtain ⟨p, q, hA0, hV, rfl, hfz, hnd⟩ := hW
  have hA : DataW.TrodAll enc Tryz.prog W 0 (fun _ => true) true Tryz.f5.params.toList args.toList ds p := hA0
  rw [Tryz.params5] at hA hval
  obtain ⟨v0, v1, v2, d0, d1, d2, p0, p1, p2, rfl, rfl, rfl, h0, h1, h2⟩ := trodAll_three hA
  obtain ⟨rfl, rfl⟩ := trodVars_none hV
  obtain ⟨q, rfl, _⟩ := open_int Tryz.underlying3 (hval 0 _ v0 rfl rfl) h0
  obtain ⟨xs, ad, cap, S, rfl, hok, _⟩ := conds_open (hval 1 _ v1 rfl rfl) h1
  obtain ⟨ys, ad2, cap2, S2, rfl, hok2, _⟩ := outs_open (hval 2 _ v2 rfl rfl) h2
  clear hA0 hval0
  refine (SX.law_callsM (args := [.i .i64 q, .imm SX.Cn SX.cn0 5 SX.cenc xs ad cap, .imm SX.Oc SX.oc0 27 SX.oenc ys ad2 cap2]) Tryz.func5 rfl rfl (SX.judges_ok q xs ad cap ys ad2 cap2) W (fun _ => true) ?_ rfl).mono fun e W' ⟨he, hk, ho, hu⟩ => ?_
  · exact ⟨⟨rfl, trivial⟩, ⟨rfl, hok.mono (SX.memOf_mono fun _ _ => rfl) _ _ _ (fun _ _ h => h)⟩, ⟨rfl, hok2.mono (SX.memOf_mono fun _ _ => rfl) _ _ _ (fun _ _ h => h)⟩, trivial⟩
  subst he
  exact ⟨_, rfl, SX.post_kept hk compsOk params_in (fun n hn => by cases hn) hW' ho hu rfl rfl rfl (fun _ _ _ => trodAll_mk1 (shut_bool Tryz.underlying4 _)) (ok_one (by kernel_rfl) rfl (okWide_bool_mk Tryz.underlying4 _))⟩
theorem condJudges_holds : Rows.CondJudgesSaid :=
  OpenClaim.holds_of_wide 5 Tryz.f5 rfl rfl rfl rfl rfl rfl rfl ⟨rfl, rfl, rfl, rfl, rfl⟩ rfl rfl rfl rfl rfl (by kernel_rfl) Tryz.func5 (by kernel_rfl)
    (of_decide_eq_true (by kernel_rfl)) (by unfold Func.isWrapper; first | (rw [if_pos (by decide +kernel)]; kernel_rfl) | (rw [if_neg (by decide +kernel)]; exact ⟨rfl, rfl⟩))
    (fun os started H enc _ => lifted os started H enc)
theorem condJudges_card : Rows.CondJudgesCardSaid :=
  Claim7.holds_tied_plain_at .later [] [.data, .data, .data, .listed, .data] true (true, "be092f51ca8b83d40ec68f0285afff7df209af5f4d9902e95f9a8a4fc8ea18dd") true
    condJudges_holds (fun _ h => by cases h) (by kernel_rfl) (fun _ h => by cases h) condJudges_row_tie rfl ⟨rfl, rfl⟩ (by kernel_rfl) rfl
    (fun f fn hf hfn => by
      obtain rfl : f = 5 := Option.some.inj ((show Tryz.prog.funcNamed "belated/belatedlaw8.CondJudges" = some 5 by kernel_rfl).symm.trans hf) |>.symm
      obtain rfl : fn = Tryz.f5 := (Option.some.inj (Tryz.func5.symm.trans hfn)).symm
      exact ⟨by kernel_rfl, fun j t ht => by
        rw [Tryz.params5] at ht
        have hm : t ∈ [3, 27, 42] := by simpa using Array.mem_of_getElem? ht
        have hall : ([3, 27, 42].all fun u => !Tryz.prog.wantsStandIn u) = true := by kernel_rfl
        exact (show Tryz.prog.wantsStandIn t = false by simpa using List.all_eq_true.1 hall t hm)⟩)
    (by kernel_rfl)
#print axioms condJudges_card
end Go.Proofs.YtjpdnkfplnnhhaaGreatDoor
