/- The conditions of law 8: their logic. Law of CondLogic: the rows put together are walked, and the plain law of a stack that whole parts leave alone. -/
import Derived.IntWalk
import Derived.ChangeSame
import Derived.ChangeReads
import Derived.ProofKit
import Derived.Deep.Fields
import Derived.OpenShut
import Derived.SizedLaws
import Derived.Test.YtjpdnkfplnnhhaaGreatDoorRows
import Derived.LaidMore
import Derived.Stop.Joined
import Derived.Test.YtjpdnkfplnnhhaaGreatDoorCards
import Derived.Test.YtjpdnkfplnnhhaaGreatDoorTie
import Derived.SevenTiedAt
import Derived.Test.YtjpdnkfplnnhhaaGreatDoorXH
set_option linter.unusedVariables false
set_option linter.unusedSimpArgs false
set_option linter.unusedSectionVars false
/- Conditions: what they are, what they say, in plain terms. -/
set_option linter.unusedVariables false
namespace Go.Proofs.YtjpdnkfplnnhhaaGreatDoor
namespace SX
open Go Go.Proofs
theorem wrap64 {x : Int} (h1 : -9223372036854775808 ≤ x) (h2 : x ≤ 9223372036854775807) : IntKind.i64.wrap x = x := IntWalk.i64_in x ⟨h1, h2⟩
theorem Joins.nil {new : List SV} : Joins [] new new := ⟨fun E => rfl, fun m V _ h => h⟩
/-- A node. -/
structure Cn where
  k : Int
  t : Int
  r : Int
  l : Int
  v : Int
  deriving DecidableEq
def cn0 : Cn := ⟨0, 0, 0, 0, 0⟩
def cenc (c : Cn) : List SV := [.i .i64 c.k, .i .i64 c.t, .i .i64 c.r, .i .i64 c.l, .i .i64 c.v]
def partsF (c : Cn) : Int :=
  if c.k = 1 then (if c.l = 0 ∧ 0 ≤ c.t ∧ c.t < 3 ∧ 0 ≤ c.r ∧ c.r < 8 then 0 else -1)
  else if c.k = 2 then (if c.t = 0 ∧ c.r = 0 ∧ 0 ≤ c.l ∧ c.l < 3 then 0 else -1)
  else if c.k = 3 then (if c.t = 0 ∧ c.r = 0 ∧ c.l = 0 ∧ c.v = 0 then 1 else -1)
  else if c.k = 4 ∨ c.k = 5 then (if c.t = 0 ∧ c.r = 0 ∧ c.l = 0 ∧ c.v = 0 then 2 else -1)
  else -1
theorem partsF_le (c : Cn) : -1 ≤ partsF c ∧ partsF c ≤ 2 := by
  unfold partsF
  repeat' split
  all_goals omega
/-- How many stand whole behind the first i nodes. -/
def nAt (cs : List Cn) : Nat → Int
  | 0 => 0
  | i + 1 => nAt cs i + (1 - partsF (cs.getD i cn0))
/-- The first i nodes are as they may be. -/
def okAt (cs : List Cn) (i : Nat) : Prop := ∀ j, j < i → 0 ≤ partsF (cs.getD j cn0) ∧ partsF (cs.getD j cn0) ≤ nAt cs j
def rightP (cs : List Cn) : Prop := (1 ≤ cs.length ∧ cs.length ≤ 32) ∧ okAt cs cs.length ∧ nAt cs cs.length = 1
open Classical in
noncomputable def rightB (cs : List Cn) : Bool := decide (rightP cs)
theorem okAt_succ {cs : List Cn} {i : Nat} (h : okAt cs i) (h1 : 0 ≤ partsF (cs.getD i cn0)) (h2 : partsF (cs.getD i cn0) ≤ nAt cs i) : okAt cs (i + 1) := by
  intro j hj
  rcases Nat.lt_succ_iff_lt_or_eq.1 hj with hj | rfl
  · exact h j hj
  · exact ⟨h1, h2⟩
theorem nAt_bd {cs : List Cn} : ∀ {i : Nat}, okAt cs i → 0 ≤ nAt cs i ∧ nAt cs i ≤ i ∧ (0 < i → 1 ≤ nAt cs i)
  | 0, _ => by simp [nAt]
  | i + 1, h => by
    have ih := nAt_bd (cs := cs) (i := i) fun j hj => h j (by omega)
    have h1 := h i (by omega)
    simp only [nAt]
    omega
/-- A final state: registers, 8 a thread, then memory. -/
structure Oc where
  l : List Int
  h : l.length = 27
def oc0 : Oc := ⟨List.replicate 27 0, by simp⟩
def Oc.at (o : Oc) (j : Nat) : Int := o.l.getD j 0
theorem Oc.ext' {a b : Oc} (h : a.l = b.l) : a = b := by cases a; cases b; cases h; rfl
def oenc (o : Oc) : List SV := [.i .i64 (o.at 0), .i .i64 (o.at 1), .i .i64 (o.at 2), .i .i64 (o.at 3), .i .i64 (o.at 4), .i .i64 (o.at 5), .i .i64 (o.at 6), .i .i64 (o.at 7),
  .i .i64 (o.at 8), .i .i64 (o.at 9), .i .i64 (o.at 10), .i .i64 (o.at 11), .i .i64 (o.at 12), .i .i64 (o.at 13), .i .i64 (o.at 14), .i .i64 (o.at 15),
  .i .i64 (o.at 16), .i .i64 (o.at 17), .i .i64 (o.at 18), .i .i64 (o.at 19), .i .i64 (o.at 20), .i .i64 (o.at 21), .i .i64 (o.at 22), .i .i64 (o.at 23),
  .i .i64 (o.at 24), .i .i64 (o.at 25), .i .i64 (o.at 26)]
theorem oc_cells (E : Env) (o : Oc) : cellsL E (oenc o) = o.l.map (.int .i64) := by
  obtain ⟨l, h⟩ := o
  match l, h with
  | [x0, x1, x2, x3, x4, x5, x6, x7, x8, x9, x10, x11, x12, x13, x14, x15, x16, x17, x18, x19, x20, x21, x22, x23, x24, x25, x26], _ => rfl
theorem oenc_w (o : Oc) : wdL (oenc o) = 27 := by unfold oenc; simp only [wdL, wd]
theorem oenc_ok (o : Oc) (m : Mem) : OkL m [] (oenc o) := by
  unfold oenc
  simp only [OkL, Ok, isUnit, and_self]
/-- What a node holds of, its parts at hand. -/
def nodeF (o : Oc) (c : Cn) (l : List Bool) : Bool :=
  if c.k = 1 then decide (o.at (c.t.toNat * 8 + c.r.toNat) = c.v)
  else if c.k = 2 then decide (o.at (24 + c.l.toNat) = c.v)
  else if c.k = 3 then !(l.getD 0 false)
  else if c.k = 4 then l.getD 0 false && l.getD 1 false
  else l.getD 0 false || l.getD 1 false
def stk (o : Oc) (cs : List Cn) : Nat → List Bool
  | 0 => []
  | i + 1 => (stk o cs i).take ((stk o cs i).length - (partsF (cs.getD i cn0)).toNat) ++ [nodeF o (cs.getD i cn0) ((stk o cs i).drop ((stk o cs i).length - (partsF (cs.getD i cn0)).toNat))]
noncomputable def evalF (o : Oc) (cs : List Cn) : Bool := if rightB cs then (stk o cs cs.length).getD 0 false else false
theorem stk_len {o : Oc} {cs : List Cn} : ∀ {i : Nat}, okAt cs i → ((stk o cs i).length : Int) = nAt cs i
  | 0, _ => rfl
  | i + 1, h => by
    have ih := stk_len (o := o) (i := i) fun j hj => h j (by omega)
    have h1 := h i (by omega)
    simp only [stk, nAt, List.length_append, List.length_take, List.length_singleton]
    omega
end SX
end Go.Proofs.YtjpdnkfplnnhhaaGreatDoor

/- Conditions: parts, one, Right. -/
set_option linter.unusedVariables false
set_option maxRecDepth 100000
namespace Go.Proofs.YtjpdnkfplnnhhaaGreatDoor
namespace SX
open Go Go.Proofs
theorem i64_congr {x y : Int} (h : x = y) : SV.i .i64 x = SV.i .i64 y := congrArg (SV.i .i64) h
theorem parts_ok (c : Cn) : CtrV Tryz.prog 28 [.agg (cenc c)] (.i .i64 (partsF c)) := by
  refine Ctr.enterV tabOk (fn := Tryz.f28) rfl rfl rfl rfl rfl rfl ?_
  refine ⟨fun h1 => ⟨fun h2 => ?_, fun h2 => ?_⟩, fun h1 => ⟨fun h2 => ⟨fun h3 => ?_, fun h3 => ?_⟩, fun h2 => ⟨fun h3 => ⟨fun h4 => ?_, fun h4 => ?_⟩, fun h3 => ⟨fun h4 => ⟨fun h5 => ⟨fun h6 => ?_, fun h6 => ?_⟩, fun h5 => Bool.noConfusion (h4.symm.trans h5)⟩, fun h4 => ⟨fun h5 => ⟨fun h6 => ?_, fun h6 => ?_⟩, fun h5 => ?_⟩⟩⟩⟩⟩
  · refine i64_congr (y := partsF c) ?_
    simp at h1 h2; unfold partsF; simp [h1, h2]
  · refine i64_congr (y := partsF c) ?_
    simp at h1 h2; unfold partsF; simp [h1]; intros; omega
  · refine i64_congr (y := partsF c) ?_
    simp at h1 h2 h3; unfold partsF; simp [h1, h2, h3]
  · refine i64_congr (y := partsF c) ?_
    simp at h1 h2 h3; unfold partsF; simp [h1, h2]; intros; omega
  · refine i64_congr (y := partsF c) ?_
    simp at h1 h2 h3 h4; unfold partsF; simp [h1, h2, h3, h4]
  · refine i64_congr (y := partsF c) ?_
    simp at h1 h2 h3 h4; unfold partsF; simp [h1, h2, h3]; intros; omega
  · refine i64_congr (y := partsF c) ?_
    simp at h1 h2 h3 h4 h6; unfold partsF; simp [h1, h2, h3, h4, h6]
  · refine i64_congr (y := partsF c) ?_
    simp at h1 h2 h3 h4 h6; unfold partsF; simp [h1, h2, h3, h4]; intros; omega
  · refine i64_congr (y := partsF c) ?_
    simp at h1 h2 h3 h4 h5 h6; unfold partsF; simp [h1, h2, h3, h4, h5, h6]
  · refine i64_congr (y := partsF c) ?_
    simp at h1 h2 h3 h4 h5 h6; unfold partsF; simp [h1, h2, h3, h4, h5]; intros; omega
  · refine i64_congr (y := partsF c) ?_
    simp at h1 h2 h3 h4 h5; unfold partsF; simp [h1, h2, h3, h4, h5]
theorem one_ok (c : Cn) : CtrV Tryz.prog 31 [.agg (cenc c)] (.i .i64 (partsF c)) := by
  refine Ctr.enterV tabOk (fn := Tryz.f31) rfl rfl rfl rfl rfl rfl ?_
  refine ⟨fun h1 => ⟨fun h2 => ⟨fun h9 => ?_, fun h9 => ?_⟩, fun h2 => ⟨fun h9 => ?_, fun h9 => ?_⟩⟩, fun h1 => ⟨fun h2 => ⟨fun h3 => ⟨fun h9 => ?_, fun h9 => ?_⟩, fun h3 => ⟨fun h9 => ?_, fun h9 => ?_⟩⟩, fun h2 => ⟨fun h3 => ⟨fun h9 => ?_, fun h9 => ?_⟩, fun h3 => ⟨fun h4 => ⟨fun h5 => ⟨fun h9 => ?_, fun h9 => ?_⟩, fun h5 => Bool.noConfusion (h4.symm.trans h5)⟩, fun h4 => ⟨fun h5 => ⟨fun h9 => ?_, fun h9 => ?_⟩, fun h5 => ⟨fun h9 => ?_, fun h9 => ?_⟩⟩⟩⟩⟩⟩
  all_goals refine i64_congr (y := partsF c) ?_
  · simp at h1 h2 h9; unfold partsF; simp [h1]; intros; omega
  · simp at h1 h2 h9; unfold partsF; simp [h1, h2, h9]
  · simp at h1 h2 h9; unfold partsF; simp [h1]; intros; omega
  · simp at h1 h2 h9; unfold partsF; simp [h1]; intros; omega
  · simp at h1 h2 h3 h9; unfold partsF; simp [h1, h2]; intros; omega
  · simp at h1 h2 h3 h9; unfold partsF; simp [h1, h2, h3, h9]
  · simp at h1 h2 h3 h9; unfold partsF; simp [h1, h2]; intros; omega
  · simp at h1 h2 h3 h9; unfold partsF; simp [h1, h2]; intros; omega
  · simp at h1 h2 h3 h9; unfold partsF; simp [h1, h2, h3]; intros; omega
  · simp at h1 h2 h3 h9; unfold partsF; simp [h1, h2, h3, h9]
  · simp at h1 h2 h3 h4 h9; unfold partsF; simp [h1, h2, h3, h4]; intros; omega
  · simp at h1 h2 h3 h4 h9; unfold partsF; simp [h1, h2, h3, h4, h9]
  · simp at h1 h2 h3 h4 h5 h9; unfold partsF; simp [h1, h2, h3, h4, h5]; intros; omega
  · simp at h1 h2 h3 h4 h5 h9; unfold partsF; simp [h1, h2, h3, h4, h5, h9]
  · simp at h1 h2 h3 h4 h5 h9; unfold partsF; simp [h1, h2, h3, h4, h5]
  · simp at h1 h2 h3 h4 h5 h9; unfold partsF; simp [h1, h2, h3, h4, h5]
end SX
end Go.Proofs.YtjpdnkfplnnhhaaGreatDoor

/- Conditions: Right. -/
set_option linter.unusedVariables false
set_option maxRecDepth 100000
namespace Go.Proofs.YtjpdnkfplnnhhaaGreatDoor
namespace SX
open Go Go.Proofs
theorem b_congr {x y : Bool} (h : x = y) : SV.b x = SV.b y := congrArg SV.b h
theorem right_false {cs : List Cn} (h : ¬ rightP cs) : rightB cs = false := by unfold rightB; simp [h]
theorem right_true {cs : List Cn} (h : rightP cs) : rightB cs = true := by unfold rightB; simp [h]
theorem right_len {cs : List Cn} (h1 : (decide ((cs.length : Int) < 1) || decide ((32 : Int) < cs.length)) = true) : rightB cs = false := by
  refine right_false fun h => ?_
  have h2 := h.1
  simp at h1
  omega
theorem right_bad {cs : List Cn} {i : Nat} (hi : i < cs.length) (h : partsF (cs.getD i cn0) < 0 ∨ nAt cs i < partsF (cs.getD i cn0)) : rightB cs = false := by
  refine right_false fun hr => ?_
  have := hr.2.1 i hi
  omega
theorem right_end {cs : List Cn} (h0 : 1 ≤ cs.length ∧ cs.length ≤ 32) (hk : okAt cs cs.length) : decide (nAt cs cs.length = 1) = rightB cs := by
  unfold rightB rightP
  rw [Bool.eq_iff_iff]
  simp only [decide_eq_true_eq]
  exact ⟨fun h => ⟨h0, hk, h⟩, fun h => h.2.2⟩
theorem right_ok (cs : List Cn) (a : Option Addr) (cap : Nat) : CtrV Tryz.prog 12 [.imm Cn cn0 5 cenc cs a cap] (.b (rightB cs)) := by
  refine Ctr.enterV tabOk (fn := Tryz.f12) rfl rfl rfl rfl rfl rfl ?_
  refine ⟨fun h1 => b_congr (right_len h1).symm, fun h1 => ?_⟩
  have hl : 1 ≤ cs.length ∧ cs.length ≤ 32 := by
    have h1 : (decide ((cs.length : Int) < 1) || decide ((32 : Int) < cs.length)) = false := h1
    simp at h1; omega
  refine WpC.loop tabOk (β := Nat) (fun i => i ≤ cs.length ∧ okAt cs i) (fun i => [(17, .i .i64 i), (3, .i .i64 (nAt cs i))]) (fun _ => []) (fun i => cs.length - i) 0 34359607404 ⟨Nat.zero_le _, fun j hj => by omega⟩ ?_ ?_
  · exact ⟨rfl, ⟨⟨rfl, rfl, rfl⟩, ⟨rfl, rfl, rfl⟩, trivial⟩, ⟨[], rfl⟩, trivial, rfl⟩
  · rintro i ⟨hi, ho⟩
    have hb := nAt_bd ho
    have hp := partsF_le (cs.getD i cn0)
    refine ⟨fun h2 => ?_, fun h2 => ?_⟩
    · have h2 : i < cs.length := by simpa using h2
      refine ⟨fun _ => ⟨by omega, by omega⟩, ?_⟩
      refine OpC.callV rfl rfl rfl rfl rfl rfl rfl (fun _ => parts_ok (cs.getD i cn0)) ?_
      refine ⟨fun h3 => ?_, fun h3 => ?_⟩
      · refine b_congr (right_bad h2 ?_).symm
        have h3 : (decide (partsF (cs.getD i cn0) < 0) || decide (nAt cs i < partsF (cs.getD i cn0))) = true := h3
        simpa only [Bool.or_eq_true, decide_eq_true_eq] using h3
      · have h3 : (decide (partsF (cs.getD i cn0) < 0) || decide (nAt cs i < partsF (cs.getD i cn0))) = false := h3
        simp only [Bool.or_eq_false_iff, decide_eq_false_iff_not] at h3
        refine ⟨i + 1, ⟨h2, okAt_succ ho (by omega) (by omega)⟩, by omega, rfl, ⟨⟨?_, rfl, rfl⟩, ⟨?_, rfl, rfl⟩, trivial⟩, ⟨_, rfl⟩, trivial, rfl⟩
        · show SV.i .i64 (IntKind.i64.wrap ((i : Int) + 1)) = SV.i .i64 ((i + 1 : Nat) : Int)
          rw [wrap64 (by omega) (by omega)]; rfl
        · show SV.i .i64 (IntKind.i64.wrap (nAt cs i + IntKind.i64.wrap (1 - partsF (cs.getD i cn0)))) = SV.i .i64 (nAt cs i + (1 - partsF (cs.getD i cn0)))
          rw [wrap64 (x := 1 - partsF (cs.getD i cn0)) (by omega) (by omega), wrap64 (by omega) (by omega)]
    · have h2 : i = cs.length := by simp at h2; omega
      subst h2
      exact b_congr (right_end hl ho)
theorem rright_ok (cs : List Cn) (a : Option Addr) (cap : Nat) : CtrV Tryz.prog 14 [.imm Cn cn0 5 cenc cs a cap] (.b (rightB cs)) := by
  refine Ctr.enterV tabOk (fn := Tryz.f14) rfl rfl rfl rfl rfl rfl ?_
  refine ⟨fun h1 => b_congr (right_len h1).symm, fun h1 => ?_⟩
  have hl : 1 ≤ cs.length ∧ cs.length ≤ 32 := by
    have h1 : (decide ((cs.length : Int) < 1) || decide ((32 : Int) < cs.length)) = false := h1
    simp at h1; omega
  refine WpC.loop tabOk (β := Nat) (fun i => i ≤ cs.length ∧ okAt cs i) (fun i => [(4, .i .i64 i), (3, .i .i64 (nAt cs i))]) (fun _ => []) (fun i => cs.length - i) 0 68719460412 ⟨Nat.zero_le _, fun j hj => by omega⟩ ?_ ?_
  · exact ⟨rfl, ⟨⟨rfl, rfl, rfl⟩, ⟨rfl, rfl, rfl⟩, trivial⟩, ⟨[], rfl⟩, trivial, rfl⟩
  · rintro i ⟨hi, ho⟩
    have hb := nAt_bd ho
    have hp := partsF_le (cs.getD i cn0)
    refine ⟨fun h2 => ?_, fun h2 => ?_⟩
    · have h2 : i < cs.length := by simpa using h2
      refine ⟨fun _ => ⟨by omega, by omega⟩, ?_⟩
      refine OpC.callV rfl rfl rfl rfl rfl rfl rfl (fun _ => one_ok (cs.getD i cn0)) ?_
      refine ⟨fun h3 => ?_, fun h3 => ?_⟩
      · refine b_congr (right_bad h2 ?_).symm
        have h3 : (decide (partsF (cs.getD i cn0) < 0) || decide (nAt cs i < partsF (cs.getD i cn0))) = true := h3
        simpa only [Bool.or_eq_true, decide_eq_true_eq] using h3
      · have h3 : (decide (partsF (cs.getD i cn0) < 0) || decide (nAt cs i < partsF (cs.getD i cn0))) = false := h3
        simp only [Bool.or_eq_false_iff, decide_eq_false_iff_not] at h3
        refine ⟨i + 1, ⟨h2, okAt_succ ho (by omega) (by omega)⟩, by omega, rfl, ⟨⟨?_, rfl, rfl⟩, ⟨?_, rfl, rfl⟩, trivial⟩, ⟨_, rfl⟩, trivial, rfl⟩
        · show SV.i .i64 (IntKind.i64.wrap ((i : Int) + 1)) = SV.i .i64 ((i + 1 : Nat) : Int)
          rw [wrap64 (by omega) (by omega)]; rfl
        · show SV.i .i64 (IntKind.i64.wrap (IntKind.i64.wrap (nAt cs i - partsF (cs.getD i cn0)) + 1)) = SV.i .i64 (nAt cs i + (1 - partsF (cs.getD i cn0)))
          rw [wrap64 (x := nAt cs i - partsF (cs.getD i cn0)) (by omega) (by omega), wrap64 (by omega) (by omega)]
          exact i64_congr (by omega)
    · have h2 : i = cs.length := by simp at h2; omega
      subst h2
      exact b_congr (right_end hl ho)
theorem decide_cn (x y : Cn) : (decide (x.k = y.k) && (decide (x.t = y.t) && (decide (x.r = y.r) && (decide (x.l = y.l) && decide (x.v = y.v))))) = decide (x = y) := by
  rw [Bool.eq_iff_iff]
  cases x; cases y
  simp
theorem conds_ok (xs ys : List Cn) (a : Option Addr) (cap : Nat) (a' : Option Addr) (cap' : Nat) (hlen : (xs.length : Int) < 9223372036854775807) : CtrV Tryz.prog 16 [.imm Cn cn0 5 cenc xs a cap, .imm Cn cn0 5 cenc ys a' cap'] (.b (decide (xs = ys))) := by
  refine Ctr.enterV tabOk (fn := Tryz.f16) rfl rfl rfl rfl rfl rfl ?_
  refine ⟨fun h1 => b_congr ?_, fun h1 => ?_⟩
  · have h1 : ¬ (xs.length : Int) = ys.length := by simpa using h1
    exact (decide_eq_false fun e => h1 (by rw [e])).symm
  have hl : xs.length = ys.length := by
    have h1 : (xs.length : Int) = ys.length := by simpa using h1
    omega
  refine WpC.loop tabOk (β := Nat) (fun i => i ≤ xs.length ∧ ∀ j, j < i → xs.getD j cn0 = ys.getD j cn0) (fun i => [(5, .i .i64 i)]) (fun _ => []) (fun i => xs.length - i) 0 67106864 ⟨Nat.zero_le _, fun j hj => by omega⟩ ?_ ?_
  · exact ⟨rfl, ⟨⟨rfl, rfl, rfl⟩, trivial⟩, ⟨[], rfl⟩, trivial, rfl⟩
  · rintro i ⟨hi, ho⟩
    refine ⟨fun h2 => ?_, fun h2 => ?_⟩
    · have h2 : i < xs.length := by simpa using h2
      refine WpC.dr tabOk mixed 0 ?_
      refine ⟨fun _ => ⟨by omega, by omega⟩, ?_⟩
      refine ⟨fun _ => ⟨by omega, by omega⟩, ?_⟩
      refine ⟨by kernel_rfl, ?_⟩
      refine ⟨fun h3 => ?_, fun h3 => ?_⟩
      · have h3 : (!(decide ((xs.getD i cn0).k = (ys.getD i cn0).k) && (decide ((xs.getD i cn0).t = (ys.getD i cn0).t) && (decide ((xs.getD i cn0).r = (ys.getD i cn0).r) && (decide ((xs.getD i cn0).l = (ys.getD i cn0).l) && decide ((xs.getD i cn0).v = (ys.getD i cn0).v)))))) = true := h3
        rw [decide_cn] at h3
        refine b_congr (decide_eq_false fun e => ?_).symm
        simp [e] at h3
      · have h3 : (!(decide ((xs.getD i cn0).k = (ys.getD i cn0).k) && (decide ((xs.getD i cn0).t = (ys.getD i cn0).t) && (decide ((xs.getD i cn0).r = (ys.getD i cn0).r) && (decide ((xs.getD i cn0).l = (ys.getD i cn0).l) && decide ((xs.getD i cn0).v = (ys.getD i cn0).v)))))) = false := h3
        rw [decide_cn] at h3
        have h4 : xs.getD i cn0 = ys.getD i cn0 := by simpa only [Bool.not_eq_false', decide_eq_true_eq] using h3
        refine ⟨i + 1, ⟨h2, fun j hj => ?_⟩, by omega, rfl, ⟨⟨?_, rfl, rfl⟩, trivial⟩, ⟨_, rfl⟩, trivial, rfl⟩
        · rcases Nat.lt_succ_iff_lt_or_eq.1 hj with hj | rfl
          · exact ho j hj
          · exact h4
        · show SV.i .i64 (IntKind.i64.wrap ((i : Int) + 1)) = SV.i .i64 ((i + 1 : Nat) : Int)
          rw [wrap64 (by omega) (by omega)]; rfl
    · have h2 : i = xs.length := by simp at h2; omega
      subst h2
      refine b_congr (decide_eq_true ?_).symm
      apply List.ext_getElem hl
      intro j h5 h6
      have := ho j h5
      simpa [List.getD_eq_getElem?_getD, List.getElem?_eq_getElem h5, List.getElem?_eq_getElem h6] using this
end SX
end Go.Proofs.YtjpdnkfplnnhhaaGreatDoor

/- Conditions: what a node says, the closure of Eval, fold. -/
set_option linter.unusedVariables false
set_option maxRecDepth 100000
namespace Go.Proofs.YtjpdnkfplnnhhaaGreatDoor
namespace SX
open Go Go.Proofs
section
variable {P : Program} {T : Tb}
/-- A function that hands back a value, and leaves what it is lent as it was. -/
theorem Ctr.enterG (hT : TabOk P T) {f : FuncId} {fn : Func} {c : Code} {n : Nat} (hf : P.funcs[f]? = some fn) (hb : fn.body = some c) (hn : fn.ntmps = n) (hnm : (fn.name == "runtime.NumGoroutine") = false) {args : List SV} {H : List SB} {r : SV}
    (hl : Nat.ble args.length n = true) (hr : Bnd H.length r) (hH : BndH H.length H) (h : sx P T c (retK T fn.results.toList (fun r' h => r' = r ∧ ∃ X, h = H ++ X)) ⟨args ++ List.replicate (n - args.length) .dead, H⟩) : Ctr P f args H (fun r' h => r' = r ∧ h = H) := by
  have h1 := Ctr.enter hT hf hb hn hnm hl h
  exact h1.trim callX_m fun r' H1 ⟨e, X, hX⟩ => ⟨H, X, hX, Nat.le_refl _, hH, by rw [e]; exact hr, e, rfl⟩
end
def benc (b : Bool) : List SV := [.b b]
theorem nodeF_reg {o : Oc} {c : Cn} {l : List Bool} (h : c.k = 1) : nodeF o c l = decide (o.at (c.t.toNat * 8 + c.r.toNat) = c.v) := by unfold nodeF; rw [if_pos h]
theorem nodeF_loc {o : Oc} {c : Cn} {l : List Bool} (h : c.k = 2) : nodeF o c l = decide (o.at (24 + c.l.toNat) = c.v) := by unfold nodeF; rw [if_neg (by omega), if_pos h]
theorem nodeF_not {o : Oc} {c : Cn} {l : List Bool} (h : c.k = 3) : nodeF o c l = !(l.getD 0 false) := by unfold nodeF; rw [if_neg (by omega), if_neg (by omega), if_pos h]
theorem nodeF_and {o : Oc} {c : Cn} {l : List Bool} (h : c.k = 4) : nodeF o c l = (l.getD 0 false && l.getD 1 false) := by unfold nodeF; rw [if_neg (by omega), if_neg (by omega), if_neg (by omega), if_pos h]
theorem nodeF_or {o : Oc} {c : Cn} {l : List Bool} (h : c.k ≠ 1 ∧ c.k ≠ 2 ∧ c.k ≠ 3 ∧ c.k ≠ 4) : nodeF o c l = (l.getD 0 false || l.getD 1 false) := by unfold nodeF; rw [if_neg h.1, if_neg h.2.1, if_neg h.2.2.1, if_neg h.2.2.2]
theorem parts_reg {c : Cn} (hp : 0 ≤ partsF c) (h : c.k = 1) : (c.t = 0 ∨ c.t = 1 ∨ c.t = 2) ∧ (c.r = 0 ∨ c.r = 1 ∨ c.r = 2 ∨ c.r = 3 ∨ c.r = 4 ∨ c.r = 5 ∨ c.r = 6 ∨ c.r = 7) := by
  unfold partsF at hp
  rw [if_pos h] at hp
  split at hp
  · omega
  · omega
theorem parts_loc {c : Cn} (hp : 0 ≤ partsF c) (h : c.k = 2) : c.l = 0 ∨ c.l = 1 ∨ c.l = 2 := by
  unfold partsF at hp
  rw [if_neg (by omega), if_pos h] at hp
  split at hp
  · omega
  · omega
theorem parts_not {c : Cn} (hp : 0 ≤ partsF c) (h : c.k = 3) : partsF c = 1 := by
  unfold partsF at hp ⊢
  rw [if_neg (by omega), if_neg (by omega), if_pos h] at *
  split at hp
  · rename_i h2; rw [if_pos h2]
  · omega
theorem parts_two {c : Cn} (hp : 0 ≤ partsF c) (h : c.k ≠ 1 ∧ c.k ≠ 2 ∧ c.k ≠ 3) : partsF c = 2 ∧ (c.k = 4 ∨ c.k = 5) := by
  unfold partsF at hp ⊢
  rw [if_neg h.1, if_neg h.2.1, if_neg h.2.2] at *
  split at hp
  · rename_i h1
    split at hp
    · rename_i h2; rw [if_pos h1, if_pos h2]; exact ⟨rfl, h1⟩
    · omega
  · omega
set_option maxHeartbeats 4000000 in
/-- The closure of Eval, at a node that may stand there, its parts at hand. -/
theorem evalC_ok (o : Oc) (c : Cn) (l : List Bool) (a : Option Addr) (cap : Nat) (hp : 0 ≤ partsF c) (hl : (l.length : Int) = partsF c) :
    Ctr Tryz.prog 30 [.agg (cenc c), .imm Bool false 1 benc l a cap, .ptr 0 1 0 []] [.mem 26 (oenc o) 1 0] (fun r h => r = .b (nodeF o c l) ∧ h = [.mem 26 (oenc o) 1 0]) := by
  refine Ctr.enterG tabOkF (fn := Tryz.f30) rfl rfl rfl rfl rfl rfl ⟨⟨rfl, rfl, rfl, rfl, rfl, rfl, rfl, rfl, rfl, rfl, rfl, rfl, rfl, rfl, rfl, rfl, rfl, rfl, rfl, rfl, rfl, rfl, rfl, rfl, rfl, rfl, rfl, trivial⟩, trivial⟩ ?_
  refine ⟨fun h1 => ?_, fun h1 => ⟨fun h2 => ?_, fun h2 => ⟨fun h3 => ?_, fun h3 => ⟨fun h4 => ?_, fun h4 => ?_⟩⟩⟩⟩
  · have h1 : c.k = 1 := of_decide_eq_true h1
    rw [nodeF_reg h1]
    obtain ⟨ht, hr⟩ := parts_reg hp h1
    obtain ⟨ck, ct, cr, cl, cv⟩ := c
    simp only at ht hr
    clear hp hl h1
    refine WpC.dr tabOkF mixed 0 ?_
    rcases ht with rfl | rfl | rfl <;> rcases hr with rfl | rfl | rfl | rfl | rfl | rfl | rfl | rfl
    all_goals exact ⟨fun _ => by simp, ⟨fun _ => by simp, ⟨by kernel_rfl, ⟨rfl, _, rfl⟩⟩⟩⟩
  · have h2 : c.k = 2 := of_decide_eq_true h2
    rw [nodeF_loc h2]
    have ht := parts_loc hp h2
    obtain ⟨ck, ct, cr, cl, cv⟩ := c
    simp only at ht
    clear hp hl h1 h2
    refine WpC.dr tabOkF mixed 0 ?_
    rcases ht with rfl | rfl | rfl
    all_goals exact ⟨fun _ => by simp, ⟨by kernel_rfl, ⟨rfl, _, rfl⟩⟩⟩
  · have h1 : ¬ c.k = 1 := of_decide_eq_false h1
    have h2 : ¬ c.k = 2 := of_decide_eq_false h2
    have h3 : c.k = 3 := of_decide_eq_true h3
    have := parts_not hp h3
    rw [nodeF_not h3]
    exact ⟨fun _ => ⟨by decide, by omega⟩, ⟨rfl, _, rfl⟩⟩
  · have h1 : ¬ c.k = 1 := of_decide_eq_false h1
    have h2 : ¬ c.k = 2 := of_decide_eq_false h2
    have h3 : ¬ c.k = 3 := of_decide_eq_false h3
    have h4 : c.k = 4 := of_decide_eq_true h4
    have := parts_two hp ⟨h1, h2, h3⟩
    rw [nodeF_and h4]
    exact ⟨fun _ => ⟨by decide, by omega⟩, ⟨fun _ => ⟨by decide, by omega⟩, ⟨rfl, _, rfl⟩⟩⟩
  · have h1 : ¬ c.k = 1 := of_decide_eq_false h1
    have h2 : ¬ c.k = 2 := of_decide_eq_false h2
    have h3 : ¬ c.k = 3 := of_decide_eq_false h3
    have h4 : ¬ c.k = 4 := of_decide_eq_false h4
    have := parts_two hp ⟨h1, h2, h3⟩
    rw [nodeF_or ⟨h1, h2, h3, h4⟩]
    exact ⟨fun _ => ⟨by decide, by omega⟩, ⟨fun _ => ⟨by decide, by omega⟩, ⟨rfl, _, rfl⟩⟩⟩
end SX
end Go.Proofs.YtjpdnkfplnnhhaaGreatDoor

/- Conditions: fold over bools, Eval. -/
set_option linter.unusedVariables false
set_option maxRecDepth 100000
namespace Go.Proofs.YtjpdnkfplnnhhaaGreatDoor
namespace SX
open Go Go.Proofs
theorem bndO {N : Nat} (o : Oc) : BndL N (oenc o) := ⟨rfl, rfl, rfl, rfl, rfl, rfl, rfl, rfl, rfl, rfl, rfl, rfl, rfl, rfl, rfl, rfl, rfl, rfl, rfl, rfl, rfl, rfl, rfl, rfl, rfl, rfl, rfl, trivial⟩
theorem cenc_w (c : Cn) : wdL (cenc c) = 5 := rfl
theorem cenc_ok (c : Cn) (m : Mem) : OkL m [] (cenc c) := by simp [cenc, OkL, Ok, isUnit]
theorem benc_w (b : Bool) : wdL (benc b) = 1 := rfl
theorem benc_ok (b : Bool) (m : Mem) : OkL m [] (benc b) := by simp [benc, OkL, Ok, isUnit]
def kAt (N : Nat) (c : Cn) : Int := IntKind.i64.wrap ((N : Int) - partsF c)
theorem kAt_eq {N : Nat} {c : Cn} (h0 : 0 ≤ partsF c) (h1 : partsF c ≤ N) (h2 : N ≤ 1000) : kAt N c = (N : Int) - partsF c := wrap64 (by omega) (by omega)
theorem stk_succ {o : Oc} {cs : List Cn} {i N : Nat} {xs : List Bool} (h : xs = stk o cs i) (hN : xs.length = N) (h0 : 0 ≤ partsF (cs.getD i cn0)) (h1 : partsF (cs.getD i cn0) ≤ N) (h2 : N ≤ 1000) :
    xs.take (kAt N (cs.getD i cn0)).toNat ++ [nodeF o (cs.getD i cn0) ((xs.drop (kAt N (cs.getD i cn0)).toNat).take (N - (kAt N (cs.getD i cn0)).toNat))] = stk o cs (i + 1) := by
  have e : (kAt N (cs.getD i cn0)).toNat = N - (partsF (cs.getD i cn0)).toNat := by rw [kAt_eq h0 h1 h2]; omega
  simp only [stk]
  rw [← h, hN, e, List.take_of_length_le (l := xs.drop _) (by simp; omega)]
set_option maxHeartbeats 1000000 in
theorem foldB_ok (o : Oc) (cs : List Cn) (a : Option Addr) (cap : Nat) (hr : okAt cs cs.length) (h1 : 1 ≤ cs.length) (h32 : cs.length ≤ 32) :
    Ctr Tryz.prog 29 [.imm Cn cn0 5 cenc cs a cap, .fn 30 [.ptr 0 1 0 []]] [.mem 26 (oenc o) 1 0] (fun r h => r = .b ((stk o cs cs.length).getD 0 false) ∧ h = [.mem 26 (oenc o) 1 0]) := by
  refine Ctr.enterG tabOk (fn := Tryz.f29) rfl rfl rfl rfl rfl rfl ⟨bndO o, trivial⟩ ?_
  refine WpC.shift (Shift.row (d := 5) rfl 0 4 [.arr 0 Bool false 1 benc []] (fun E => rfl) (fun m V => ⟨⟨rfl, rfl, benc_w, fun j hj => by omega⟩, trivial⟩)) ?_
  refine WpC.loop tabOk (β := Nat × Nat × List Bool) (fun b => b.1 ≤ cs.length ∧ b.2.2 = stk o cs b.1 ∧ b.2.2.length = b.2.1) (fun b => [(12, .i .i64 b.1), (5, .sl 1 b.1 0 b.2.1 none 0)]) (fun b => [.mem 26 (oenc o) 1 0, .mem 4 [.arr b.2.1 Bool false 1 benc b.2.2] b.1 1]) (fun b => cs.length - b.1) (0, 0, []) 17179866016 ⟨Nat.zero_le _, rfl, rfl⟩ ?_ ?_
  · exact ⟨rfl, ⟨⟨rfl, rfl, rfl⟩, ⟨rfl, rfl, rfl⟩, trivial⟩, ⟨[], rfl⟩, ⟨bndO o, ⟨fun _ => rfl, trivial⟩, trivial⟩, rfl⟩
  · rintro ⟨i, N, xs⟩ ⟨hi, hx, hN⟩
    simp only at hi hx hN
    have hoi : okAt cs i := fun j hj => hr j (by omega)
    have hnl := stk_len (o := o) hoi
    rw [← hx, hN] at hnl
    have hnb := nAt_bd hoi
    refine ⟨fun h2 => ?_, fun h2 => ?_⟩
    · have h2 : i < cs.length := by simpa using h2
      have hp := hr i h2
      rw [← hnl] at hp
      have hk := kAt_eq (N := N) (c := cs.getD i cn0) hp.1 hp.2 (by omega)
      refine ⟨fun _ => ⟨by omega, by omega⟩, ?_⟩
      refine OpC.callV rfl rfl rfl rfl rfl rfl rfl (fun _ => parts_ok (cs.getD i cn0)) ?_
      refine WpC.dr tabOk mixed 0 ?_
      refine ⟨fun _ => ?_, ?_⟩
      · show ((i = i ∧ 1 = 1 ∧ 0 < 1) ∧ 0 = 0 * 1 ∧ (0 + N) * 1 ≤ N * 1 + 0) ∧ ((kAt N (cs.getD i cn0)).toNat < N ∨ 0 = 0) ∧ 0 ≤ kAt N (cs.getD i cn0) ∧ kAt N (cs.getD i cn0) ≤ N
        omega
      refine OpD.callG [0, 1] rfl rfl rfl rfl rfl rfl (r := .b (nodeF o (cs.getD i cn0) ((xs.drop (kAt N (cs.getD i cn0)).toNat).take (N - (kAt N (cs.getD i cn0)).toNat)))) (fun _ H1 hH => ?_) ?_
      · have g0 : H1[0]? = some (.mem 26 (oenc o) 1 0) := hH 0 (by simp)
        have g1 : H1[1]? = some (.mem 4 [.arr N Bool false 1 benc xs] i 1) := hH 1 (by simp)
        refine Ctr.frzL (A := [.agg (cenc (cs.getD i cn0))]) (B := [.ptr 0 1 0 []]) (i := (kAt N (cs.getD i cn0)).toNat) (K := fun r => r = _) g1 rfl (by show (kAt N (cs.getD i cn0)).toNat + (N - (kAt N (cs.getD i cn0)).toNat) ≤ N; omega) hN ?_ benc_w benc_ok ?_ (fun r e => by rw [e]; rfl) (fun a cap => ?_)
        · show 0 + (kAt N (cs.getD i cn0)).toNat * 1 = (kAt N (cs.getD i cn0)).toNat * 1
          omega
        · exact ⟨rfl, by decide, (Nat.zero_add _).symm⟩
        · refine Ctr.spread (evalC_ok o (cs.getD i cn0) _ a cap hp.1 ?_) (fun ρ => rfl) _ [0] rfl rfl ⟨?_, trivial⟩ rfl
          · simp only [List.length_take, List.length_drop]; omega
          · show (H1.set 1 (.gone i))[0]? = some (.mem 26 (oenc o) 1 0)
            rw [List.getElem?_set_ne (by omega)]; exact g0
      refine ⟨by kernel_rfl, ?_⟩
      refine ⟨fun _ => ?_, ?_⟩
      · show ((i = i ∧ 1 = 1 ∧ 0 < 1) ∧ 0 = 0 * 1 ∧ (0 + N) * 1 ≤ N * 1 + 0) ∧ 0 ≤ kAt N (cs.getD i cn0) ∧ kAt N (cs.getD i cn0) ≤ N
        omega
      refine OpC.shift (Shift.trim (k := 1) (M := (kAt N (cs.getD i cn0)).toNat) rfl (by show (kAt N (cs.getD i cn0)).toNat ≤ N; omega) rfl) ?_
      refine OpC.yld 0 rfl (yld_app_row tabOk rfl rfl rfl rfl rfl rfl rfl rfl rfl (SrcA.sl rfl rfl rfl rfl (by decide) rfl) (Joins.arrN (y := nodeF o (cs.getD i cn0) ((xs.drop (kAt N (cs.getD i cn0)).toNat).take (N - (kAt N (cs.getD i cn0)).toNat))) ?_ rfl benc_w) (by decide) ?_ ?_) (fun d hd => by cases hd; rfl) ?_
      · show (xs.take (kAt N (cs.getD i cn0)).toNat).length = (kAt N (cs.getD i cn0)).toNat
        rw [List.length_take]; omega
      · exact Nat.le_trans (show (kAt N (cs.getD i cn0)).toNat + 1 ≤ 1000 by omega) (by decide)
      · show ((kAt N (cs.getD i cn0)).toNat + 1) * 1 ≤ 140737488355328
        omega
      refine ⟨(i + 1, (kAt N (cs.getD i cn0)).toNat + 1, _), ⟨h2, stk_succ hx hN hp.1 hp.2 (by omega), ?_⟩, ?_, rfl, ⟨⟨?_, rfl, rfl⟩, ⟨rfl, rfl, rfl⟩, trivial⟩, ⟨_, rfl⟩, ⟨bndO o, ⟨fun _ => rfl, trivial⟩, trivial⟩, rfl⟩
      · show (xs.take (kAt N (cs.getD i cn0)).toNat ++ [_]).length = (kAt N (cs.getD i cn0)).toNat + 1
        rw [List.length_append, List.length_take, List.length_singleton]; omega
      · show cs.length - (i + 1) < cs.length - i
        omega
      · show SV.i .i64 (IntKind.i64.wrap ((i : Int) + 1)) = SV.i .i64 ((i + 1 : Nat) : Int)
        rw [wrap64 (by omega) (by omega)]; rfl
    · have h2 : i = cs.length := by simp at h2; omega
      subst h2
      refine ⟨fun _ => ?_, ?_⟩
      · show 0 = 0 * 1 ∧ (0 : Int) ≤ 0 ∧ (0 : Int) < N
        have := hnb.2.2 (by omega)
        omega
      · refine ⟨fun _ => ⟨rfl, ?_⟩, b_congr ?_, ⟨_, rfl⟩⟩
        · show 0 + Int.toNat 0 < N
          have := hnb.2.2 (by omega)
          have : Int.toNat 0 = 0 := rfl
          omega
        · rw [← hx]
          rfl
theorem evalF_right {o : Oc} {cs : List Cn} (h : rightB cs = true) : evalF o cs = (stk o cs cs.length).getD 0 false := by unfold evalF; rw [if_pos h]
theorem evalF_wrong {o : Oc} {cs : List Cn} (h : rightB cs = false) : evalF o cs = false := by unfold evalF; rw [if_neg (by rw [h]; decide)]
theorem rightP_of {cs : List Cn} (h : rightB cs = true) : rightP cs := by unfold rightB at h; simpa using h
theorem eval_ok (o : Oc) (cs : List Cn) (a : Option Addr) (cap : Nat) : CtrV Tryz.prog 13 [.agg (oenc o), .imm Cn cn0 5 cenc cs a cap] (.b (evalF o cs)) := by
  refine Ctr.enterV tabOk (fn := Tryz.f13) rfl rfl rfl rfl rfl rfl ?_
  refine OpC.callV rfl rfl rfl rfl rfl rfl rfl (fun _ => right_ok cs a cap) ?_
  refine ⟨fun h1 => ?_, fun h1 => ?_⟩
  · have h1 : (!rightB cs) = true := h1
    exact b_congr (evalF_wrong (by simpa using h1)).symm
  · have h1 : (!rightB cs) = false := h1
    have h2 : rightB cs = true := by simpa using h1
    obtain ⟨⟨q1, q2⟩, q3, q4⟩ := rightP_of h2
    refine OpC.callG rfl rfl rfl rfl rfl rfl (fun _ => foldB_ok o cs a cap q3 q1 q2) ?_
    exact b_congr (evalF_right h2).symm
end SX
end Go.Proofs.YtjpdnkfplnnhhaaGreatDoor

/- Conditions put together: plain. -/
set_option linter.unusedVariables false
namespace Go.Proofs.YtjpdnkfplnnhhaaGreatDoor
namespace SX
open Go Go.Proofs
theorem getD_app1 {xs ys : List Cn} {j : Nat} (h : j < xs.length) : (xs ++ ys).getD j cn0 = xs.getD j cn0 := by
  simp only [List.getD_eq_getElem?_getD]
  rw [List.getElem?_append_left h]
theorem getD_app2 {xs ys : List Cn} {j : Nat} : (xs ++ ys).getD (xs.length + j) cn0 = ys.getD j cn0 := by
  simp only [List.getD_eq_getElem?_getD]
  rw [List.getElem?_append_right (by omega), Nat.add_sub_cancel_left]
theorem nAt_app1 {xs ys : List Cn} : ∀ {i : Nat}, i ≤ xs.length → nAt (xs ++ ys) i = nAt xs i
  | 0, _ => rfl
  | i + 1, h => by
    simp only [nAt]
    rw [nAt_app1 (i := i) (by omega), getD_app1 (by omega)]
theorem nAt_app2 {xs ys : List Cn} : ∀ {j : Nat}, nAt (xs ++ ys) (xs.length + j) = nAt xs xs.length + nAt ys j
  | 0 => by rw [Nat.add_zero, nAt_app1 (Nat.le_refl _)]; simp [nAt]
  | j + 1 => by
    rw [← Nat.add_assoc]
    simp only [nAt]
    rw [nAt_app2 (j := j), getD_app2]; omega
theorem okAt_app {xs ys : List Cn} {j : Nat} (ha : okAt xs xs.length) (hb : okAt ys j) : okAt (xs ++ ys) (xs.length + j) := by
  intro i hi
  by_cases h : i < xs.length
  · rw [getD_app1 h, nAt_app1 (by omega)]; exact ha i h
  · obtain ⟨k, rfl⟩ : ∃ k, i = xs.length + k := ⟨i - xs.length, by omega⟩
    rw [getD_app2, nAt_app2]
    have h1 := hb k (by omega)
    have h2 := nAt_bd ha
    omega
theorem stk_app1 {o : Oc} {xs ys : List Cn} : ∀ {i : Nat}, i ≤ xs.length → stk o (xs ++ ys) i = stk o xs i
  | 0, _ => rfl
  | i + 1, h => by
    simp only [stk]
    rw [stk_app1 (i := i) (by omega), getD_app1 (by omega)]
theorem stk_app2 {o : Oc} {xs ys : List Cn} : ∀ {j : Nat}, okAt ys j → stk o (xs ++ ys) (xs.length + j) = stk o xs xs.length ++ stk o ys j
  | 0, _ => by rw [Nat.add_zero, stk_app1 (Nat.le_refl _)]; simp [stk]
  | j + 1, h => by
    have hj : okAt ys j := fun i hi => h i (by omega)
    have h1 := h j (by omega)
    have h2 := stk_len (o := o) hj
    have hp : (partsF (ys.getD j cn0)).toNat ≤ (stk o ys j).length := by omega
    rw [← Nat.add_assoc]
    simp only [stk]
    rw [stk_app2 hj, getD_app2]
    have e : (stk o xs xs.length ++ stk o ys j).length - (partsF (ys.getD j cn0)).toNat = (stk o xs xs.length).length + ((stk o ys j).length - (partsF (ys.getD j cn0)).toNat) := by rw [List.length_append]; omega
    rw [e, List.take_append, List.drop_append]
    rw [List.take_of_length_le (by omega), List.drop_of_length_le (by omega), Nat.add_sub_cancel_left, List.nil_append, List.append_assoc]
/-- Whole: what it leaves. -/
structure Wh (o : Oc) (cs : List Cn) (s : List Bool) : Prop where
  ok : okAt cs cs.length
  st : stk o cs cs.length = s
theorem Wh.app {o xs ys s s'} (ha : Wh o xs s) (hb : Wh o ys s') : Wh o (xs ++ ys) (s ++ s') :=
  ⟨by rw [List.length_append]; exact okAt_app ha.ok hb.ok, by rw [List.length_append, stk_app2 hb.ok, ha.st, hb.st]⟩
theorem Wh.one {o xs s} (ha : Wh o xs s) (c : Cn) (h0 : 0 ≤ partsF c) (h1 : partsF c ≤ s.length) : Wh o (xs ++ [c]) (s.take (s.length - (partsF c).toNat) ++ [nodeF o c (s.drop (s.length - (partsF c).toNat))]) := by
  have hl := stk_len (o := o) ha.ok
  rw [ha.st] at hl
  have e : (xs ++ [c]).getD xs.length cn0 = c := by simp [List.getD_eq_getElem?_getD]
  have en : nAt (xs ++ [c]) xs.length = nAt xs xs.length := nAt_app1 (Nat.le_refl _)
  refine ⟨?_, ?_⟩
  · rw [List.length_append, List.length_singleton]
    refine okAt_succ (fun i hi => ?_) (by rw [e]; exact h0) (by rw [e, en]; omega)
    rw [getD_app1 hi, nAt_app1 (by omega)]; exact ha.ok i hi
  · rw [List.length_append, List.length_singleton]
    simp only [stk]
    rw [e, stk_app1 (Nat.le_refl _), ha.st]
theorem right_iff {cs : List Cn} : rightB cs = true ↔ rightP cs := by unfold rightB; simp
theorem wh_right {cs : List Cn} (o : Oc) (h : rightB cs = true) : Wh o cs [evalF o cs] := by
  have hp := right_iff.1 h
  have hl := stk_len (o := o) hp.2.1
  rw [hp.2.2] at hl
  refine ⟨hp.2.1, ?_⟩
  rw [evalF_right h]
  match hs : stk o cs cs.length, hl with
  | [v], _ => rfl
  | [], hl => simp at hl
  | _ :: _ :: _, hl => simp at hl; omega
theorem Wh.right {o cs v} (h : Wh o cs [v]) (h32 : cs.length ≤ 32) (h1 : 1 ≤ cs.length) : rightB cs = true ∧ evalF o cs = v := by
  have hl := stk_len (o := o) h.ok
  rw [h.st] at hl
  have hr : rightB cs = true := right_iff.2 ⟨⟨h1, h32⟩, h.ok, by simpa using hl.symm⟩
  exact ⟨hr, by rw [evalF_right hr, h.st]; rfl⟩
def mNot : Cn := ⟨3, 0, 0, 0, 0⟩
def mAnd : Cn := ⟨4, 0, 0, 0, 0⟩
def mOr : Cn := ⟨5, 0, 0, 0, 0⟩
theorem Wh.nots {o xs v s} (h : Wh o xs (s ++ [v])) : Wh o (xs ++ [mNot]) (s ++ [!v]) := by
  have := h.one mNot (by decide) (by rw [show partsF mNot = 1 by decide]; simp; omega)
  rw [show (partsF mNot).toNat = 1 by decide] at this
  simpa [nodeF, mNot] using this
theorem Wh.ands {o xs v u s} (h : Wh o xs (s ++ [v, u])) : Wh o (xs ++ [mAnd]) (s ++ [v && u]) := by
  have := h.one mAnd (by decide) (by rw [show partsF mAnd = 2 by decide]; simp; omega)
  rw [show (partsF mAnd).toNat = 2 by decide] at this
  simpa [nodeF, mAnd] using this
theorem Wh.ors {o xs v u s} (h : Wh o xs (s ++ [v, u])) : Wh o (xs ++ [mOr]) (s ++ [v || u]) := by
  have := h.one mOr (by decide) (by rw [show partsF mOr = 2 by decide]; simp; omega)
  rw [show (partsF mOr).toNat = 2 by decide] at this
  simpa [nodeF, mOr] using this
theorem not_right {cs : List Cn} (h : rightB cs = true) (hl : cs.length < 32) (o : Oc) : rightB (cs ++ [mNot]) = true ∧ evalF o (cs ++ [mNot]) = !evalF o cs := by
  have h1 := wh_right o h
  exact Wh.right (Wh.nots (s := []) h1) (by simp; omega) (by simp)
end SX
end Go.Proofs.YtjpdnkfplnnhhaaGreatDoor

/- SX: clear of a row's end; what is known of slices that stay. -/
set_option linter.unusedVariables false
set_option linter.unusedSimpArgs false
namespace Go.Proofs.YtjpdnkfplnnhhaaGreatDoor
namespace SX
open Go

/-- An immutable slice that is not empty is not nil. -/
theorem Cp.immSome {X : List Value → World → (Value → World → Prop) → Prop} {A B : List SV} {α : Type} {d : α} {n : Nat} {enc : α → List SV} {xs : List α} {a : Option Addr} {cap : Nat} {H : List SB} {K : SV → List SB → Prop}
    (h : (a = none → xs = []) → Cp X (A ++ .imm α d n enc xs a cap :: B) H K) : Cp X (A ++ .imm α d n enc xs a cap :: B) H K := by
  refine ⟨fun C E m w hr ha => (h ?_).out C E m w hr ha⟩
  have := (OkA_split ha).2
  simp only [OkA, Ok] at this
  rintro rfl
  by_cases hx : xs = []
  · exact hx
  · obtain ⟨ad, _, _, _, h1, _⟩ := this.1.2.2.1 hx
    cases h1
theorem zeroCells_toList (c : Array Value) : ∀ n : Nat, (Builtin.zeroCells c n).toList = (List.range n).flatMap fun _ => c.toList
  | 0 => by simp [Builtin.zeroCells]
  | n + 1 => by
    have ih := zeroCells_toList c n
    simp only [Builtin.zeroCells, Array.toList_map, Array.toList_range] at ih ⊢
    rw [show (n + 1) * c.size = c.size + n * c.size by rw [Nat.succ_mul, Nat.add_comm], List.range_add, List.map_append, List.map_map, List.range_succ_eq_map, List.flatMap_cons, List.flatMap_map, ← ih]
    congr 1
    · apply List.ext_getElem?
      intro j
      by_cases hj : j < c.size
      · rw [List.getElem?_map, List.getElem?_range hj]
        simp [Nat.mod_eq_of_lt hj, getElem!_pos, hj]
      · rw [List.getElem?_eq_none (by simpa using hj), List.getElem?_eq_none (by simpa using hj)]
    · apply List.map_congr_left
      intro i _
      simp [Nat.add_mod_left]
section
variable {P : Program} {T : Tb} {ops : Array Oper} {o : Oper}
theorem cells_append {α : Type} {d : α} {n : Nat} {enc : α → List SV} (E : Env) (xs ys : List α) : cellsL E [.arr (xs ++ ys).length α d n enc (xs ++ ys)] = cellsL E [.arr xs.length α d n enc xs] ++ cellsL E [.arr ys.length α d n enc ys] := by
  induction ys generalizing xs with
  | nil => simp [cellsL, cells]
  | cons y ys ih =>
    have h1 := ih (xs ++ [y])
    rw [List.append_assoc, List.singleton_append] at h1
    rw [h1]
    simp only [cellsL, cells, List.append_nil]
    rw [range_append_one xs y d fun x => cellsL E (enc x), List.append_assoc]
    congr 1
    rw [List.length_cons, List.range_succ_eq_map, List.flatMap_cons, List.flatMap_map]
    rfl
theorem splV_mid0 (A B Z S : List Value) (h : B.length = Z.length) : splV (A ++ B ++ S) A.length Z = A ++ Z ++ S := by
  unfold splV
  rw [List.append_assoc A B S, List.take_left, ← h, List.drop_append, List.drop_of_length_le (by omega), List.nil_append, Nat.add_sub_cancel_left, List.drop_left]
/-- 'clear' of a row's end. -/
theorem OpC.clearRow (hT : TabOk P T) {K : St → Prop} {t : List SV} {h : List SB} {x : Operand} {ty e : TypeId} (hop : o.op = .call { callee := .builtin .clear, args := #[x], argTypes := #[ty] }) (hd : o.dst = none) (hg : guardOf ops t o = some []) {ti te : TI} (ht : T ty = some ti) (hk : ti.k = .slice e) (hte : T e = some te)
    {k ver off len dc N n g : Nat} {α : Type} {d z : α} {enc : α → List SV} {xs : List α} (hx : evG [] t x = .sl k ver off len none dc) (hh : h[k]? = some (.mem e [.arr N α d n enc xs] ver (g + 1))) (hn : n = g + 1) (hsz : te.size = n) (hoff : off = dc * n) (hlen : dc + len = N) (hw : ∀ x, wdL (enc x) = n) (hok : ∀ x m, OkL m [] (enc x))
    (hz : cellsL E0 te.zero = cellsL E0 (enc z)) (hK : K ⟨t, h.set k (.mem e [.arr N α d n enc (xs.take dc ++ List.replicate len z)] ver (g + 1))⟩) : OpC P T ops o K ⟨t, h⟩ := by
  refine ⟨fun C E m a w hr => ?_⟩
  unfold opW
  rw [show Region.wanted o (yielded ops a.tmps) = true by simp [Region.wanted, guard_none hg], if_pos rfl]
  have hti := hT.ti ty ti ht
  obtain ⟨i, zz, hi, hsi, hbi, hzz, hzc⟩ := (hT.ti e te hte).inf
  obtain ⟨gx, ex⟩ := (hr.evs .nil).live (o := x) (by rw [hx]; rfl)
  rw [hx] at gx ex
  obtain ⟨o1, o2, o3⟩ := hr.rel.bl k _ hh
  have hxl : xs.length = N := by simp only [OkL, Ok] at o1; exact o1.1.2.1
  have hvs : ∀ B', B'.lim = (SB.mem e [.arr N α d n enc xs] ver (g + 1)).lim → vers (h.set k B') = vers h := fun B' hl => vers_set hh hl
  have hok2 : OkL m (vers h) [.arr N α d n enc (xs.take dc ++ List.replicate len z)] := by
    simp only [OkL, Ok, isUnit]
    exact ⟨⟨trivial, by simp; omega, hw, fun j hj => OkL.mono (fun _ _ h => h) _ _ _ (fun k v hv => (Vle_nil hv).elim) (hok _ m)⟩, trivial⟩
  have hlx : (cellsL E [.arr N α d n enc xs]).length = N * n := by rw [length_cellsL E _ _ o1]; simp [wdL, wd]
  have hly : (cellsL E [.arr N α d n enc (xs.take dc ++ List.replicate len z)]).length = N * n := by rw [length_cellsL E _ _ hok2]; simp [wdL, wd]
  have fin : ∀ w', (execOp a.eval o).run P w = .ok (.value (.tuple #[])) w' → Rel E C m (h.set k (.mem e [.arr N α d n enc (xs.take dc ++ List.replicate len z)] ver (g + 1))) w' →
      o.wp P a w (fun a' w' => ∃ E' m' S', K S' ∧ Ext E m (vers h) E' m' (vers S'.h) ∧ Rep E' C m' S' a' w') (onlyN fun a' w' => ∃ E' m' S', K S' ∧ Ext E m (vers h) E' m' (vers S'.h) ∧ Rep E' C m' S' a' w') := fun w' h1 h2 => by
    have hx2 : Ext E m (vers h) E m (vers (h.set k (.mem e [.arr N α d n enc (xs.take dc ++ List.replicate len z)] ver (g + 1)))) := by rw [hvs (.mem e [.arr N α d n enc (xs.take dc ++ List.replicate len z)] ver (g + 1)) rfl]; exact .refl ..
    simp only [Oper.wp, h1, Oper.upon]
    have := (hr.up hx2 h2).put o.dst (x := .dead) (v := .tuple #[]) fun d' hd' => by rw [hd] at hd'; cases hd'
    rw [hd] at this ⊢
    exact ⟨E, m, _, hK, hx2, this⟩
  by_cases hl0 : len = 0
  · subst hl0
    have hv : ∃ ad cp, a.eval x = .slice ad 0 cp := by
      rw [ex]
      simp only [den, wrapV, cells, List.headD_cons]
      cases E k ver with
      | none => exact ⟨_, _, rfl⟩
      | some q => exact ⟨_, _, rfl⟩
    obtain ⟨ad, cp, hv⟩ := hv
    have hr0 : (Builtin.clear_ #[ty] o.type #[.slice ad 0 cp]).run P w = .ok (.tuple #[]) w := by
      cases ad <;> simp [Builtin.clear_, run_underlying' (hti.slice hk)]
    refine fin w (by simp only [execOp, hop, resolve, Go.invoke, builtin, Sem.run_bind, Sem.run_pure, Result.andThen_ok, List.map_toArray, List.map_cons, List.map_nil, hv, hr0]) ?_
    have e9 : xs.take dc ++ List.replicate 0 z = xs := by rw [List.replicate_zero, List.append_nil, List.take_of_length_le (by omega)]
    rw [e9]
    have : h.set k (.mem e [.arr N α d n enc xs] ver (g + 1)) = h := by
      apply List.ext_getElem?
      intro j
      by_cases hj : j = k
      · subst hj; rw [hh]; simp [List.getElem?_set, (List.getElem?_eq_some_iff.1 hh).1]
      · rw [List.getElem?_set_ne (Ne.symm hj)]
    rw [this]; exact hr.rel
  · have hv0 : ver ≠ 0 := fun e => by
      have := gx.1
      simp only [Ok] at this
      exact hl0 (this.2 e)
    obtain ⟨b, c, sp, e1, e2, e3, e4⟩ := o3 hv0
    have hv : a.eval x = .slice (some ⟨b, off, none⟩) len (c - dc) := by
      rw [ex]
      simp [den, wrapV, cells, e1, hl0]
    have hzl : (Builtin.zeroCells zz.cells len).toList = cellsL E [.arr len α d n enc (List.replicate len z)] := by
      have hst : ∀ x, cellsL E (enc x) = cellsL E0 (enc x) := fun x => cellsL_stable (m := fun _ => none) (V := []) (fun k v hv => (Vle_nil hv).elim) _ (hok x _)
      simp only [cellsL, cells, List.append_nil]
      have h1 : (List.range len).flatMap (fun j => cellsL E (enc ((List.replicate len z).getD j d))) = (List.range len).flatMap (fun _ => zz.cells.toList) := by
        rw [List.flatMap_def, List.flatMap_def]
        congr 1
        apply List.map_congr_left
        intro j hj
        have hj' : j < len := by simpa using hj
        rw [hzc, hz, ← hst z]
        simp [List.getD_eq_getElem?_getD, List.getElem?_replicate, hj']
      rw [h1]
      exact zeroCells_toList zz.cells len
    have hzlen : (Builtin.zeroCells zz.cells len).toList.length = len * n := by
      rw [hzl, length_cellsL E (m := m) (V := []) _ (by simp only [OkL, Ok, isUnit]; exact ⟨⟨trivial, by simp, hw, fun j hj => hok _ m⟩, trivial⟩)]
      simp [wdL, wd]
    have hone : ∀ v ∈ (Builtin.zeroCells zz.cells len).toList, v.oneCell' = true := by
      rw [hzl]
      exact oneCell_cellsL E (m := m) (V := []) _ (by simp only [OkL, Ok, isUnit]; exact ⟨⟨trivial, by simp, hw, fun j hj => hok _ m⟩, trivial⟩)
    have hNn : N * n = dc * n + len * n := by rw [← hlen, Nat.add_mul]
    have hst := run_storeCells (P := P) (Builtin.zeroCells zz.cells len).toList w b off 0 (cellsL E [.arr N α d n enc xs] ++ sp) e e2 hone (by rw [hzlen, List.length_append, hlx, hoff]; omega)
    have hz2 : ∀ w, (zeroValue e).run P w = .ok zz w := fun w => by simp [zeroValue, typeInfo, hi, hzz]
    have hr0 : (Builtin.clear_ #[ty] o.type #[.slice (some ⟨b, off, none⟩) len (c - dc)]).run P w = .ok (.tuple #[]) (setBlk w b (.cells (splV (cellsL E [.arr N α d n enc xs] ++ sp) (off + 0) (Builtin.zeroCells zz.cells len).toList).toArray e (0, 0))) := by
      obtain ⟨l', rfl⟩ : ∃ l', len = l' + 1 := ⟨len - 1, by omega⟩
      simp only [Builtin.clear_, Sem.run_bind, run_underlying' (hti.slice hk), Result.andThen_ok, List.getElem?_toArray, List.getElem?_cons_zero, hz2, hst, Sem.run_pure]
    refine fin (setBlk w b (.cells (splV (cellsL E [.arr N α d n enc xs] ++ sp) (off + 0) (Builtin.zeroCells zz.cells len).toList).toArray e (0, 0))) (by simp only [execOp, hop, resolve, Go.invoke, builtin, Sem.run_bind, Sem.run_pure, Result.andThen_ok, List.map_toArray, List.map_cons, List.map_nil, hv, hr0]) ?_
    have hlt := size_of_heap e2
    refine hr.rel.set (B' := .mem e [.arr N α d n enc (xs.take dc ++ List.replicate len z)] ver (g + 1)) hh rfl ⟨hv0, c, e1⟩ (fun c2 hc => by obtain ⟨_, c3, he2⟩ := hc; rw [e1] at he2; cases he2; rfl) ⟨rfl, rfl, rfl, Nat.le_refl _⟩ (fun i hi => setBlk_ne hi _) ⟨hok2, fun e => absurd e hv0, fun _ => ⟨b, c, sp, e1, ?_, by rw [hly, ← hlx]; exact e3, e4⟩⟩
    rw [setBlk_same hlt]
    congr 2
    apply Array.ext'
    simp only
    have hsp1 : cellsL E [.arr N α d n enc xs] = cellsL E [.arr (xs.take dc).length α d n enc (xs.take dc)] ++ cellsL E [.arr (xs.drop dc).length α d n enc (xs.drop dc)] := by
      rw [← cells_append, List.take_append_drop, hxl]
    have hsp2 : cellsL E [.arr N α d n enc (xs.take dc ++ List.replicate len z)] = cellsL E [.arr (xs.take dc).length α d n enc (xs.take dc)] ++ cellsL E [.arr (List.replicate len z).length α d n enc (List.replicate len z)] := by
      rw [← cells_append]
      congr 3
      simp; omega
    have hlt1 : (cellsL E [.arr (xs.take dc).length α d n enc (xs.take dc)]).length = dc * n := by
      rw [length_cellsL E (m := m) (V := []) _ (by simp only [OkL, Ok, isUnit]; exact ⟨⟨trivial, trivial, hw, fun j hj => hok _ m⟩, trivial⟩)]
      simp only [wdL, wd, Nat.add_zero, List.length_take]
      rw [Nat.min_eq_left (by omega)]
    have hlt2 : (cellsL E [.arr (xs.drop dc).length α d n enc (xs.drop dc)]).length = len * n := by
      have := congrArg List.length hsp1
      rw [List.length_append, hlx, hlt1] at this
      omega
    rw [hsp2, hsp1, Nat.add_zero, hoff, ← hlt1, splV_mid0 _ _ _ _ (by rw [hlt2, hzlen]), hzl, List.length_replicate]
end
end SX
end Go.Proofs.YtjpdnkfplnnhhaaGreatDoor

/- SX: more of guarded operations in a drawn order; rows joined. -/
set_option linter.unusedVariables false
set_option linter.unusedSimpArgs false
namespace Go.Proofs.YtjpdnkfplnnhhaaGreatDoor
namespace SX
open Go
theorem Joins.trans {a b c b' c' : List SV} (h1 : Joins a b c) (h2 : Joins c b' c') : Joins a (b ++ b') c' :=
  ⟨fun E => by rw [h2.cells, h1.cells, cellsL_append, List.append_assoc], fun m V ha hb => h2.ok m V (h1.ok m V ha (OkL_append.1 hb).1) (OkL_append.1 hb).2⟩
theorem Joins.cat {α : Type} {d : α} {n N M : Nat} {enc : α → List SV} {xs ys : List α} (hN : xs.length = N) (hM : ys.length = M) (hw : ∀ x, wdL (enc x) = n) (hok : ∀ x m V, OkL m V (enc x)) : Joins [.arr N α d n enc xs] [.arr M α d n enc ys] [.arr (N + M) α d n enc (xs ++ ys)] := by
  subst hN hM
  refine ⟨fun E => ?_, fun m V h1 h2 => ?_⟩
  · rw [← List.length_append]; exact cells_append E xs ys
  · exact ⟨⟨rfl, by simp, hw, fun j hj => hok _ _ _⟩, trivial⟩
section
variable {P : Program} {T : Tb} {ops : Array Oper} {o : Oper}
/-- Its guards say yes, and so do those of a slot that it reads. -/
theorem OpD.openT (hT : TabOk P T) {n : Nat} {K : Eff → Nat → St → Prop} {t : List SV} {h : List SB} (j : Nat) {p q : List (Nat × Bool)} {y : SV} {e0 : Eff} (n0 : Nat) (hj : t[j]? = some (.grd q y)) (hq : gB t q = true) (hy : notB y = true) (hg : guardOf ops t o = some p) (hp : gB t p = true)
    (h0 : dop P T ops { o with guard := none } n (fun e n' _ => e = e0 ∧ n' = n0) ⟨t.set j y, h⟩) (hK : K { e0 with rs := (e0.rs ++ j :: q.map (·.1)) ++ p.map (·.1) } n0 (e0.put ⟨t, h⟩)) : OpD P ops o n K ⟨t, h⟩ := by
  obtain ⟨e, n', h1, h2, h3, h4, rfl, rfl⟩ := (dop_sound hT h0).out
  exact ⟨⟨{ e with rs := (e.rs ++ j :: q.map (·.1)) ++ p.map (·.1) }, n', h1, (h2.open j hj hq hy).bare hg hp, fun n hn => List.mem_append_left _ (List.mem_append_left _ (h3 n hn)), h4, hK⟩⟩
end
end SX
end Go.Proofs.YtjpdnkfplnnhhaaGreatDoor

/- A run of the program, as a memo. Made by memo.py. -/
set_option maxRecDepth 100000
namespace Go.Proofs.YtjpdnkfplnnhhaaGreatDoor
namespace SX
open Go Go.Proofs
def CdAble : Memo := ⟨11,
  [],
  [],
  (.b
  .true),
  []⟩
theorem CdAble_ok : MemoOk Tryz.prog CdAble := memo_of (tr := treeF) (ft := ftree) (ms := []) (n := 40) tabOkF ftOk mixed (by intro m hm; cases hm) (by decide +kernel)
end SX
end Go.Proofs.YtjpdnkfplnnhhaaGreatDoor

/- CondLogic: the law's contract. -/
set_option linter.unusedVariables false
set_option maxRecDepth 100000
namespace Go.Proofs.YtjpdnkfplnnhhaaGreatDoor
namespace SX
open Go Go.Proofs
theorem able_ok : CtrV Tryz.prog 11 [] (.b true) := CdAble_ok
theorem cenc_okV (c : Cn) (m : Mem) (V : List Nat) : OkL m V (cenc c) := by simp [cenc, OkL, Ok, isUnit]
theorem logic_plain {o : Oc} {p q : List Cn} (hp : rightB p = true) (hq : rightB q = true) (hl : p.length + q.length ≤ 25) :
    evalF o (p ++ q ++ [mAnd]) = (evalF o p && evalF o q) ∧ evalF o (p ++ q ++ [mOr]) = (evalF o p || evalF o q) ∧
    evalF o (p ++ [mNot] ++ q ++ [mNot] ++ [mOr] ++ [mNot]) = (evalF o p && evalF o q) ∧ evalF o (p ++ [mNot] ++ [mNot]) = evalF o p ∧ evalF o (p ++ [mNot]) = !evalF o p := by
  have h1 := wh_right o hp
  have h2 := wh_right o hq
  have h3 := h1.app h2
  have h4 : Wh o (p ++ [mNot]) [!evalF o p] := Wh.nots (s := []) h1
  have h5 : Wh o (p ++ [mNot] ++ [mNot]) [!!evalF o p] := Wh.nots (s := []) h4
  have h6 : Wh o (p ++ [mNot] ++ q) ([!evalF o p] ++ [evalF o q]) := h4.app h2
  have h7 : Wh o (p ++ [mNot] ++ q ++ [mNot]) ([!evalF o p] ++ [!evalF o q]) := Wh.nots h6
  have h8 : Wh o (p ++ [mNot] ++ q ++ [mNot] ++ [mOr]) [!evalF o p || !evalF o q] := Wh.ors (s := []) h7
  have h9 : Wh o (p ++ [mNot] ++ q ++ [mNot] ++ [mOr] ++ [mNot]) [!(!evalF o p || !evalF o q)] := Wh.nots (s := []) h8
  refine ⟨(Wh.right (Wh.ands (s := []) h3) (by simp; omega) (by simp; omega)).2, (Wh.right (Wh.ors (s := []) h3) (by simp; omega) (by simp; omega)).2, ?_, ?_, (Wh.right h4 (by simp; omega) (by simp)).2⟩
  · rw [(Wh.right h9 (by simp; omega) (by simp; omega)).2]
    cases evalF o p <;> cases evalF o q <;> rfl
  · rw [(Wh.right h5 (by simp; omega) (by simp)).2]
    cases evalF o p <;> rfl
set_option maxHeartbeats 4000000 in
theorem logic_ok (p q : List Cn) (o : Oc) (a : Option Addr) (cap : Nat) (a2 : Option Addr) (cap2 : Nat) (hp : p.length * 40 ≤ 140737488355328) (hq : q.length * 40 ≤ 140737488355328) : CtrV Tryz.prog 7 [.imm Cn cn0 5 cenc p a cap, .imm Cn cn0 5 cenc q a2 cap2, .agg (oenc o)] (.b true) := by
  have hmp : p.length ≤ maxLen := Nat.le_trans (show p.length ≤ 140737488355328 by omega) (by decide)
  have hmq : q.length ≤ maxLen := Nat.le_trans (show q.length ≤ 140737488355328 by omega) (by decide)
  refine Ctr.enterV tabOkM (fn := Tryz.f7) rfl rfl rfl rfl rfl rfl ?_
  refine OpC.callV rfl rfl rfl rfl rfl rfl rfl (fun _ => able_ok) ?_
  refine ⟨fun h => absurd h (by decide), fun _ => ?_⟩
  by_cases hb : decide ((25 : Int) < IntKind.i64.wrap ((p.length : Int) + (q.length : Int))) = true
  · have hg0 : (decide ((25 : Int) < IntKind.i64.wrap ((p.length : Int) + (q.length : Int))) == false) = false := by rw [hb]; rfl
    refine OpC.skipG rfl hg0 .nils ?_
    refine OpC.skipG rfl hg0 .nils ?_
    refine OpC.skipG rfl hg0 (.b true) ?_
    have hg2 : ((decide ((25 : Int) < IntKind.i64.wrap ((p.length : Int) + (q.length : Int))) || !true) == false) = false := by rw [hb]; rfl
    refine OpC.skipG rfl hg2 .nils ?_
    refine OpC.skipG rfl hg2 .nils ?_
    refine OpC.skipG rfl hg2 (.b true) ?_
    refine ⟨fun _ => rfl, fun h => ?_⟩
    have h : ((decide ((25 : Int) < IntKind.i64.wrap ((p.length : Int) + (q.length : Int))) || !true) || !true) = false := h
    rw [hb] at h
    cases h
  have hb : decide ((25 : Int) < IntKind.i64.wrap ((p.length : Int) + (q.length : Int))) = false := by simpa using hb
  have hg1 : (decide ((25 : Int) < IntKind.i64.wrap ((p.length : Int) + (q.length : Int))) == false) = true := by rw [hb]; rfl
  have hn : p.length + q.length ≤ 25 := by
    rw [wrap64 (by omega) (by omega)] at hb
    simp at hb; omega
  refine OpC.guardT tabOkM rfl hg1 ?_
  refine OpC.open 25 rfl hg1 rfl ?_
  refine OpC.guardT tabOkM rfl hg1 ?_
  refine OpC.yld 1 rfl (yld_app_lit tabOkM rfl rfl rfl rfl rfl rfl rfl rfl (fun E => rfl) (SrcA.imm rfl rfl rfl) (p := 2) rfl Joins.nil hmp hp) (fun d hd => by cases hd; rfl) ?_
  refine OpC.still (enc := cenc) (ys := p) 26 (k := 2) (i := 0) (len := p.length) rfl rfl rfl (by decide) rfl (by omega) cenc_w cenc_ok (by simp) fun ad1 cp1 => ?_
  refine OpC.callV rfl rfl rfl rfl rfl rfl rfl (fun _ => right_ok p (some ad1) cp1) ?_
  by_cases hrp : rightB p = false
  · have hg2 : ((decide ((25 : Int) < IntKind.i64.wrap ((p.length : Int) + (q.length : Int))) || !rightB p) == false) = false := by rw [hrp, hb]; rfl
    refine OpC.skipG rfl hg2 .nils ?_
    refine OpC.skipG rfl hg2 .nils ?_
    refine OpC.skipG rfl hg2 (.b true) ?_
    refine ⟨fun _ => rfl, fun h => ?_⟩
    have h : ((decide ((25 : Int) < IntKind.i64.wrap ((p.length : Int) + (q.length : Int))) || !rightB p) || !true) = false := h
    rw [hrp, hb] at h
    cases h
  have hrp : rightB p = true := by simpa using hrp
  have hg2 : ((decide ((25 : Int) < IntKind.i64.wrap ((p.length : Int) + (q.length : Int))) || !rightB p) == false) = true := by rw [hrp, hb]; rfl
  refine OpC.guardT tabOkM rfl hg2 ?_
  refine OpC.open 32 rfl hg2 rfl ?_
  refine OpC.guardT tabOkM rfl hg2 ?_
  refine OpC.yld 1 rfl (yld_app_lit tabOkM rfl rfl rfl rfl rfl rfl rfl rfl (fun E => rfl) (SrcA.imm rfl rfl rfl) (p := 4) rfl Joins.nil hmq hq) (fun d hd => by cases hd; rfl) ?_
  refine OpC.still (enc := cenc) (ys := q) 33 (k := 4) (i := 0) (len := q.length) rfl rfl rfl (by decide) rfl (by omega) cenc_w cenc_ok (by simp) fun ad2 cp2 => ?_
  refine OpC.callV rfl rfl rfl rfl rfl rfl rfl (fun _ => right_ok q (some ad2) cp2) ?_
  refine ⟨fun _ => rfl, fun h => ?_⟩
  have hrq : rightB q = true := by
    have h : ((decide ((25 : Int) < IntKind.i64.wrap ((p.length : Int) + (q.length : Int))) || !rightB p) || !rightB q) = false := h
    rw [hrp, hb] at h
    simpa using h
  clear h
  clear hg2 hg1 hb
  have hq1 : 0 < q.length := by have := (right_iff.1 hrq).1; omega
  obtain ⟨l1, l2, l3, l4, l5⟩ := logic_plain (o := o) hrp hrq hn
  have hfr : ∀ {k ver : Nat} {xs : List Cn} {H1 : List SB} {f : FuncId} {A B : List SV} {r : SV} {N : Nat}, H1[k]? = some (.mem 30 [.arr N Cn cn0 5 cenc xs] ver (4 + 1)) → xs.length = N → nmL A = true → nmL B = true → pl r = true → (∀ a cap, CtrV Tryz.prog f (A ++ .imm Cn cn0 5 cenc xs a cap :: B) r) → Ctr Tryz.prog f (A ++ .sl k ver 0 N none 0 :: B) H1 (fun r' h => r' = r ∧ h = H1) := fun hk hN hA hB hr h =>
    Ctr.frz (i := 0) hk (by rw [List.drop_zero, List.take_of_length_le (by omega)]) (by omega) hN (by omega) cenc_w cenc_ok ⟨rfl, by decide, rfl⟩ hA hB hr h
  have hmx : ∀ k : Nat, k ≤ 1000 → k ≤ maxLen := fun k hk => Nat.le_trans hk (by decide)
  -- region 6
  refine WpC.dr tabOkM mixed 4 ?_
  refine OpD.yld 8 rfl rfl litE_w (yld_app_lit tabOkM rfl rfl rfl rfl rfl rfl rfl rfl (fun E => rfl) (SrcA.imm rfl rfl rfl) (p := 7) rfl Joins.nil hmp hp) ?_
  refine OpD.callG [7] rfl rfl rfl rfl rfl rfl (r := .b (evalF o p)) (fun _ H1 hH => hfr (A := [.agg (oenc o)]) (B := []) (hH 7 (by simp)) rfl rfl rfl rfl (fun a cap => eval_ok o p a cap)) ?_
  refine OpD.yld 10 rfl rfl litE_w (yld_app_lit tabOkM rfl rfl rfl rfl rfl rfl rfl rfl (fun E => rfl) (SrcA.imm rfl rfl rfl) (p := 9) rfl Joins.nil hmq hq) ?_
  refine OpD.callG [9] rfl rfl rfl rfl rfl rfl (r := .b (evalF o q)) (fun _ H1 hH => hfr (A := [.agg (oenc o)]) (B := []) (hH 9 (by simp)) rfl rfl rfl rfl (fun a cap => eval_ok o q a cap)) ?_
  refine ⟨by kernel_rfl, ?_⟩
  -- region 7
  refine OpC.yld 1 rfl (yld_app_lit tabOkM rfl rfl rfl rfl rfl rfl rfl rfl (fun E => rfl) (SrcA.imm rfl rfl rfl) (p := 11) rfl Joins.nil hmp hp) (fun d hd => by cases hd; rfl) ?_
  refine OpC.yld 0 rfl (yld_app_row tabOkM rfl rfl rfl rfl rfl rfl rfl rfl rfl (SrcA.imm rfl rfl rfl) (Joins.cat rfl rfl cenc_w cenc_okV) hq1 (hmx (p.length + q.length) (by omega)) ?_) (fun d hd => by cases hd; rfl) ?_
  · show (p.length + q.length) * 40 ≤ 140737488355328
    omega
  have hpl : (p ++ q).length = p.length + q.length := by simp
  have hmpq : (p ++ q).length ≤ maxLen := hmx _ (by omega)
  have hbpq : (p ++ q).length * 40 ≤ 140737488355328 := by omega
  -- region 8
  refine OpC.still2 (enc := cenc) (ys := p ++ q) (ys2 := p ++ q) 10 54 (k := 11) (i := 0) (i2 := 0) (len := p.length + q.length) (len2 := p.length + q.length) rfl rfl rfl (by decide) rfl (by decide) hpl (by omega) (by omega) cenc_w cenc_ok (by rw [List.drop_zero, List.take_of_length_le (by omega)]) (by rw [List.drop_zero, List.take_of_length_le (by omega)]) fun ad3 cp3 ad4 cp4 => ?_
  refine OpC.yld 1 rfl (yld_app_lit tabOkM rfl rfl rfl rfl rfl rfl rfl rfl (fun E => rfl) (SrcA.imm rfl rfl rfl) (p := 13) rfl Joins.nil hmpq hbpq) (fun d hd => by cases hd; rfl) ?_
  refine OpC.yld 0 rfl (yld_app_row tabOkM rfl rfl rfl rfl rfl rfl rfl rfl rfl (SrcA.sl rfl rfl rfl rfl (by decide) rfl) (Joins.arrN (y := mAnd) rfl rfl cenc_w) (by decide) (hmx ((p ++ q).length + 1) (by omega)) ?_) (fun d hd => by cases hd; rfl) ?_
  · show ((p ++ q).length + 1) * 40 ≤ 140737488355328
    omega
  -- region 9
  refine OpC.yld 1 rfl (yld_app_lit tabOkM rfl rfl rfl rfl rfl rfl rfl rfl (fun E => rfl) (SrcA.imm rfl rfl rfl) (p := 16) rfl Joins.nil hmpq hbpq) (fun d hd => by cases hd; rfl) ?_
  refine OpC.yld 0 rfl (yld_app_row tabOkM rfl rfl rfl rfl rfl rfl rfl rfl rfl (SrcA.sl rfl rfl rfl rfl (by decide) rfl) (Joins.arrN (y := mOr) rfl rfl cenc_w) (by decide) (hmx ((p ++ q).length + 1) (by omega)) ?_) (fun d hd => by cases hd; rfl) ?_
  · show ((p ++ q).length + 1) * 40 ≤ 140737488355328
    omega
  -- region 10
  refine WpC.dr tabOkM mixed 4 ?_
  refine OpD.yld 20 rfl rfl litE_w (yld_app_lit tabOkM rfl rfl rfl rfl rfl rfl rfl rfl (fun E => rfl) (SrcA.imm rfl rfl rfl) (p := 19) rfl Joins.nil hmp hp) ?_
  refine OpD.yld 21 rfl rfl rowE_w (yld_app_row tabOkM rfl rfl rfl rfl rfl rfl rfl rfl rfl (SrcA.sl rfl rfl rfl rfl (by decide) rfl) (Joins.arrN (y := mNot) rfl rfl cenc_w) (by decide) (hmx (p.length + 1) (by omega)) ?_) ?_
  · show (p.length + 1) * 40 ≤ 140737488355328
    omega
  refine OpD.yld 21 rfl rfl rowE_w (yld_app_row tabOkM rfl rfl rfl rfl rfl rfl rfl rfl rfl (SrcA.imm rfl rfl rfl) (Joins.cat (by simp) rfl cenc_w cenc_okV) hq1 (hmx (p.length + 1 + q.length) (by omega)) ?_) ?_
  · show (p.length + 1 + q.length) * 40 ≤ 140737488355328
    omega
  refine OpD.yld 22 rfl rfl rowE_w (yld_app_row tabOkM rfl rfl rfl rfl rfl rfl rfl rfl rfl (SrcA.sl rfl rfl rfl rfl (by decide) rfl) (Joins.trans (Joins.trans (Joins.arrN (y := mNot) (new := cenc mNot) (by simp; omega) rfl cenc_w) (Joins.arrN (y := mOr) (new := cenc mOr) (by simp; omega) rfl cenc_w)) (Joins.arrN (y := mNot) (new := cenc mNot) (by simp; omega) rfl cenc_w)) (by decide) (hmx (p.length + 1 + q.length + 3) (by omega)) ?_) ?_
  · show (p.length + 1 + q.length + 3) * 40 ≤ 140737488355328
    omega
  refine ⟨by kernel_rfl, ?_⟩
  -- region 11
  refine WpC.dr tabOkM mixed 3 ?_
  refine OpD.yld 24 rfl rfl litE_w (yld_app_lit tabOkM rfl rfl rfl rfl rfl rfl rfl rfl (fun E => rfl) (SrcA.imm rfl rfl rfl) (p := 23) rfl Joins.nil hmp hp) ?_
  refine OpD.yld 25 rfl rfl rowE_w (yld_app_row tabOkM rfl rfl rfl rfl rfl rfl rfl rfl rfl (SrcA.sl rfl rfl rfl rfl (by decide) rfl) (Joins.trans (Joins.arrN (y := mNot) (new := cenc mNot) rfl rfl cenc_w) (Joins.arrN (y := mNot) (new := cenc mNot) (by simp) rfl cenc_w)) (by decide) (hmx (p.length + 2) (by omega)) ?_) ?_
  · show (p.length + 2) * 40 ≤ 140737488355328
    omega
  refine ⟨by kernel_rfl, ?_⟩
  -- region 12
  refine WpC.dr tabOkM mixed 3 ?_
  refine OpD.callG [13] rfl rfl rfl rfl rfl rfl (r := .b (evalF o (p ++ q ++ [mAnd]))) (fun _ H1 hH => hfr (A := [.agg (oenc o)]) (B := []) (hH 13 (by simp)) (by rw [List.length_append]; rfl) rfl rfl rfl (fun a cap => eval_ok o (p ++ q ++ [mAnd]) a cap)) ?_
  refine OpD.callG [16] rfl rfl rfl rfl rfl rfl (r := .b (evalF o (p ++ q ++ [mOr]))) (fun _ H1 hH => hfr (A := [.agg (oenc o)]) (B := []) (hH 16 (by simp)) (by rw [List.length_append]; rfl) rfl rfl rfl (fun a cap => eval_ok o (p ++ q ++ [mOr]) a cap)) ?_
  refine OpD.callG [19] rfl rfl rfl rfl rfl rfl (r := .b (evalF o (p ++ [mNot] ++ q ++ [mNot] ++ [mOr] ++ [mNot]))) (fun _ H1 hH => hfr (A := [.agg (oenc o)]) (B := []) (hH 19 (by simp)) (by simp; omega) rfl rfl rfl (fun a cap => eval_ok o (p ++ [mNot] ++ q ++ [mNot] ++ [mOr] ++ [mNot]) a cap)) ?_
  refine OpD.callG [23] rfl rfl rfl rfl rfl rfl (r := .b (evalF o (p ++ [mNot] ++ [mNot]))) (fun _ H1 hH => hfr (A := [.agg (oenc o)]) (B := []) (hH 23 (by simp)) (by simp) rfl rfl rfl (fun a cap => eval_ok o (p ++ [mNot] ++ [mNot]) a cap)) ?_
  have hgb : (((((evalF o (p ++ q ++ [mAnd]) == (evalF o p && evalF o q)) && (evalF o (p ++ q ++ [mOr]) == (evalF o p || evalF o q))) && (evalF o (p ++ [mNot] ++ q ++ [mNot] ++ [mOr] ++ [mNot]) == (evalF o p && evalF o q))) && (evalF o (p ++ [mNot] ++ [mNot]) == evalF o p)) == true) = true := by
    rw [l1, l2, l3, l4]; simp
  refine OpD.guardT tabOkM rfl hgb ?_
  refine OpD.openT tabOkM 123 27 rfl hgb rfl rfl hgb (OpD.yld 27 rfl rfl litE_w (yld_app_lit tabOkM rfl rfl rfl rfl rfl rfl rfl rfl (fun E => rfl) (SrcA.imm rfl rfl rfl) (p := 26) rfl Joins.nil hmp hp) ⟨rfl, rfl⟩) ?_
  refine OpD.openT tabOkM 125 28 rfl hgb rfl rfl hgb ⟨rfl, rfl⟩ ?_
  refine OpD.guardT tabOkM rfl hgb ?_
  refine OpD.yld 28 rfl rfl rowE_w (yld_app_row tabOkM rfl rfl rfl rfl rfl rfl rfl rfl rfl (SrcA.sl rfl rfl rfl rfl (by decide) rfl) (Joins.arrN (y := mNot) rfl rfl cenc_w) (by decide) (hmx (p.length + 1) (by omega)) ?_) ?_
  · show (p.length + 1) * 40 ≤ 140737488355328
    omega
  refine OpD.callG [26] rfl rfl rfl rfl rfl rfl (r := .b (evalF o (p ++ [mNot]))) (fun _ H1 hH => hfr (A := [.agg (oenc o)]) (B := []) (hH 26 (by simp)) (by simp) rfl rfl rfl (fun a cap => eval_ok o (p ++ [mNot]) a cap)) ?_
  refine ⟨by kernel_rfl, ?_⟩
  refine b_congr ?_
  show (((((evalF o (p ++ q ++ [mAnd]) == (evalF o p && evalF o q)) && (evalF o (p ++ q ++ [mOr]) == (evalF o p || evalF o q))) && (evalF o (p ++ [mNot] ++ q ++ [mNot] ++ [mOr] ++ [mNot]) == (evalF o p && evalF o q))) && (evalF o (p ++ [mNot] ++ [mNot]) == evalF o p)) && (evalF o (p ++ [mNot]) == !evalF o p)) = true
  rw [l1, l2, l3, l4, l5]
  simp
end SX
end Go.Proofs.YtjpdnkfplnnhhaaGreatDoor

/- SX: rows: what was read is read again when no old block has changed. -/
set_option linter.unusedVariables false
set_option linter.unusedSimpArgs false
namespace Go.Proofs.YtjpdnkfplnnhhaaGreatDoor
namespace SX
open Go Go.ChangeShapes Go.WideShapes
theorem mapM_to {α β : Type} {f g : α → Option β} : ∀ {l : List α} {r : List β}, l.mapM f = some r → (∀ x ∈ l, ∀ y, f x = some y → g x = some y) → l.mapM g = some r
  | [], r, h, hr => by simpa using h
  | a :: as1, r, h, hr => by
    rw [List.mapM_cons] at h ⊢
    cases ha : f a with
    | none => simp [ha] at h
    | some b =>
      cases has : as1.mapM f with
      | none => simp [ha, has] at h
      | some bs =>
        simp [ha, has] at h
        subst h
        rw [hr a (by simp) b ha, mapM_to has fun x hx y hy => hr x (by simp [hx]) y hy]
        rfl
theorem mapM_at {α β : Type} {f : α → Option β} : ∀ {l : List α} {r : List β}, l.mapM f = some r → ∀ {x}, x ∈ l → ∃ y, f x = some y
  | [], r, h, x, hx => by simp at hx
  | a :: as1, r, h, x, hx => by
    rw [List.mapM_cons] at h
    cases ha : f a with
    | none => simp [ha] at h
    | some b =>
      cases has : as1.mapM f with
      | none => simp [ha, has] at h
      | some bs =>
        rcases List.mem_cons.1 hx with rfl | hx
        · exact ⟨b, ha⟩
        · exact mapM_at has hx
/-- No block of the first world has changed in the second one. -/
def Kept (w w' : World) : Prop := ∀ b, b < w.heap.size → w'.heap[b]? = w.heap[b]?
section
variable {H : Type} {enc : TypeId × Value → H} {P : Program} {w w' : World} {base : Nat} {sp sp' : Nat → Bool} {held : Bool}
theorem Kept.cell (hk : Kept w w') {a : Addr} {v : Value} (h : w.cell? a = some v) : w'.cell? a = some v := by
  have hb := World.block_lt_of_cell? w _ h
  have := hk a.block hb
  unfold World.cell? at h ⊢
  rw [this]
  exact h
theorem Kept.cells (hk : Kept w w') {a : Addr} {n : Nat} {cs : List Value} (h : w.cells? base a n = some cs) : w'.cells? base a n = some cs := by
  unfold World.cells? at h ⊢
  split at h
  · rename_i hb
    rw [if_pos hb]
    exact mapM_to h fun i _ y hy => hk.cell hy
  · cases h
/-- What a type is made of is among these types; the elements of slices have cells. -/
def CompsOk (P : Program) (S : TypeId → Prop) (t : TypeId) : Prop := match P.underlying t with
  | some (.pointer e) => S e
  | some (.slice e) => S e ∧ 0 < P.cellsOf e
  | some (.struct fs) => ∀ f ∈ fs.toList, S f.type
  | some (.array _ e) => S e
  | some (.map _ e) => S e
  | _ => True
def compsB (P : Program) (n : Nat) (t : TypeId) : Bool := match P.underlying t with
  | some (.pointer e) => Nat.blt e n
  | some (.slice e) => Nat.blt e n && Nat.blt 0 (P.cellsOf e)
  | some (.struct fs) => fs.toList.all fun f => Nat.blt f.type n
  | some (.array _ e) => Nat.blt e n
  | some (.map _ e) => Nat.blt e n
  | _ => true
theorem compsOk_of {P : Program} {n : Nat} (h : ((List.range n).all (compsB P n)) = true) : ∀ t, t < n → CompsOk P (· < n) t := by
  intro t ht
  have := List.all_eq_true.1 h t (List.mem_range.2 ht)
  unfold compsB at this
  unfold CompsOk
  split <;> rename_i hu <;> first | trivial | (rw [hu] at this; simp only at this)
  · exact Nat.le_of_ble_eq_true this
  · rw [Bool.and_eq_true] at this
    exact ⟨Nat.le_of_ble_eq_true this.1, Nat.le_of_ble_eq_true this.2⟩
  · intro f hf
    exact Nat.le_of_ble_eq_true (List.all_eq_true.1 this f hf)
  · exact Nat.le_of_ble_eq_true this
  · exact Nat.le_of_ble_eq_true this
theorem trodStep_grow {S : TypeId → Prop} {r r' : TypeId → List Value → Option (DataW H × List MemPlace)} (hk : Kept w w') (hsp : ∀ b, b < w.heap.size → sp' b = true) (hz : ∀ t, S t → CompsOk P S t)
    (hr : ∀ t, S t → ∀ cs x, r t cs = some x → r' t cs = some x) {t : TypeId} (hS : S t) {cs : List Value} {x : DataW H × List MemPlace}
    (h : DataW.trodStep enc P w base (fun _ => true) true r t cs = some x) : DataW.trodStep enc P w' base sp' true r' t cs = some x := by
  have hcp := hz t hS
  unfold CompsOk at hcp
  unfold DataW.trodStep at h ⊢
  split at h
  case h_1 => exact h
  case h_2 => exact h
  case h_3 => exact h
  case h_4 => exact h
  case h_5 => exact h
  case h_6 e a ht =>
    rw [ht] at hcp
    simp only [Option.map_eq_some_iff, Option.bind_eq_some_iff] at h ⊢
    obtain ⟨y, ⟨cs', hc, hy⟩, rfl⟩ := h
    exact ⟨y, ⟨cs', hk.cells hc, hr _ hcp _ _ hy⟩, rfl⟩
  case h_7 => exact h
  case h_8 e a len cap ht =>
    rw [ht] at hcp
    simp only at h ⊢
    split at h
    · rename_i hc
      rw [if_pos hc]
      simp only [Option.map_eq_some_iff, Option.bind_eq_some_iff] at h ⊢
      obtain ⟨elems, he, rest, hrest, rfl⟩ := h
      have one : ∀ i y, (w.cells? base (a.add (i * P.cellsOf e)) (P.cellsOf e)).bind (r e) = some y → (w'.cells? base (a.add (i * P.cellsOf e)) (P.cellsOf e)).bind (r' e) = some y := fun i y hy => by
        simp only [Option.bind_eq_some_iff] at hy ⊢
        obtain ⟨cs', hc', hy'⟩ := hy
        exact ⟨cs', hk.cells hc', hr _ hcp.1 _ _ hy'⟩
      refine ⟨elems, mapM_to he fun i _ y hy => one i y hy, rest, ?_, rfl⟩
      by_cases hcap : cap - len = 0
      · rw [hcap] at hrest ⊢
        simp only [List.range_zero, List.mapM_nil] at hrest ⊢
        revert hrest
        cases sp' a.block <;> simp
      · rw [if_pos trivial] at hrest
        obtain ⟨y, hy⟩ := mapM_at hrest (List.mem_range.2 (Nat.pos_of_ne_zero hcap))
        simp only [Option.bind_eq_some_iff] at hy
        obtain ⟨cs', hc', _⟩ := hy
        have hb : (a.add ((len + 0) * P.cellsOf e)).block < w.heap.size := World.cells?_block hc' hcp.2
        have hb : a.block < w.heap.size := by
          have e1 : (a.add ((len + 0) * P.cellsOf e)).block = a.block := by unfold Addr.add; split <;> rfl
          rw [← e1]; exact hb
        rw [if_pos (hsp _ hb)]
        exact mapM_to hrest fun i _ y hy => one _ y hy
    · cases h
  case h_9 fs ht =>
    rw [ht] at hcp
    split at h
    · rename_i hc
      rw [if_pos hc]
      simp only [Option.map_eq_some_iff] at h ⊢
      obtain ⟨xs, hx, rfl⟩ := h
      exact ⟨xs, mapM_to hx fun f hf y hy => hr _ (hcp f hf) _ _ hy, rfl⟩
    · cases h
  case h_10 n e ht =>
    rw [ht] at hcp
    split at h
    · rename_i hc
      rw [if_pos hc]
      simp only [Option.map_eq_some_iff] at h ⊢
      obtain ⟨xs, hx, rfl⟩ := h
      exact ⟨xs, mapM_to hx fun f _ y hy => hr _ hcp _ _ hy, rfl⟩
    · cases h
  case h_11 => exact h
  case h_12 => exact h
  case h_13 => exact h
  case h_14 k e b ht =>
    rw [ht] at hcp
    split at h
    · rename_i es clock hb
      have hlt : b < w.heap.size := by
        rcases Nat.lt_or_ge b w.heap.size with h1 | h1
        · exact h1
        · rw [Array.getElem?_eq_none h1] at hb; cases hb
      have hb' : w'.heap[b]? = some (.map es clock) := by rw [hk b hlt]; exact hb
      rw [hb']
      simp only
      split at h
      · rename_i hc
        rw [if_pos hc]
        simp only [Option.bind_eq_some_iff] at h ⊢
        obtain ⟨entries, he, hd⟩ := h
        refine ⟨entries, mapM_to he fun x _ y hy => ?_, hd⟩
        simp only [Option.bind_eq_some_iff] at hy ⊢
        obtain ⟨key, hk, hz⟩ := hy
        refine ⟨key, hk, ?_⟩
        split at hz
        · rename_i hf
          rw [if_pos hf]
          simp only [Option.map_eq_some_iff] at hz ⊢
          obtain ⟨q, hq, rfl⟩ := hz
          exact ⟨q, hr _ hcp _ _ hq, rfl⟩
        · cases hz
      · cases h
    · cases h
  all_goals exact h
variable {S : TypeId → Prop} (hk : Kept w w') (hz : ∀ t, S t → CompsOk P S t)
include hk hz
theorem trod_grow (hsp : ∀ b, b < w.heap.size → sp' b = true) : ∀ (n : Nat) (t : TypeId), S t → ∀ (cs : List Value) (x : DataW H × List MemPlace), DataW.trod enc P w base (fun _ => true) true n t cs = some x → DataW.trod enc P w' base sp' true n t cs = some x := by
  intro n
  induction n with
  | zero => intro t _ cs x h; simp [DataW.trod] at h
  | succ n ih =>
    intro t hS cs x h
    rw [DataW.trod_step] at h ⊢
    exact trodStep_grow hk hsp hz ih hS h
theorem trodAll_grow (hsp : ∀ b, b < w.heap.size → sp' b = true) : ∀ {ts : List TypeId} {vs : List Value} {ds : List (DataW H)} {ps : List MemPlace}, (∀ t ∈ ts, S t) →
    DataW.TrodAll enc P w base (fun _ => true) true ts vs ds ps → DataW.TrodAll enc P w' base sp' true ts vs ds ps
  | [], [], [], _, _, h => h
  | _ :: _, _ :: _, _ :: _, _, hS, ⟨p, q, ⟨n, h⟩, hs, e⟩ => ⟨p, q, ⟨n, trod_grow hk hz hsp n _ (hS _ (List.mem_cons_self ..)) _ _ h⟩, trodAll_grow hsp (fun t ht => hS t (List.mem_cons_of_mem _ ht)) hs, e⟩
theorem trodVars_grow (hsp : ∀ b, b < w.heap.size → sp' b = true) (hv : ∀ n cs, w.var? P n = some cs → w'.var? P n = some cs) : ∀ {ns : List String} {ds : List (DataW H)} {ps : List MemPlace}, (∀ n ∈ ns, ∀ g t, P.globalNamed n = some g → (P.globals[g]?).map (·.type) = some t → S t) →
    DataW.TrodVars enc P w (fun _ => true) ns ds ps → DataW.TrodVars enc P w' sp' ns ds ps
  | [], [], _, _, h => h
  | n :: _, _ :: _, _, hS, ⟨g, t, cs, fuel, p, q, h1, h2, h3, h4, hs, e⟩ =>
    ⟨g, t, cs, fuel, p, q, h1, h2, hv _ _ h3, trod_grow hk hz hsp _ _ (hS n (List.mem_cons_self ..) g t h1 h2) _ _ h4, trodVars_grow hsp hv (fun n hn => hS n (List.mem_cons_of_mem _ hn)) hs, e⟩
omit hz in
theorem Kept.var {n : String} {cs : Array Value} (h : w.var? P n = some cs) : w'.var? P n = some cs := by
  unfold World.var? at h ⊢
  cases hg : P.globalNamed n with
  | none => rw [hg] at h; cases h
  | some g =>
    rw [hg] at h
    simp only [Option.bind_some] at h ⊢
    rcases Nat.lt_or_ge g w.heap.size with h1 | h1
    · rw [hk g h1]; exact h
    · rw [Array.getElem?_eq_none h1] at h; cases h
omit hz in
theorem Kept.noneFrozen {ps : List MemPlace} (hl : ∀ p ∈ ps, p.block < w.heap.size) (h : w.noneFrozen ps) : w'.noneFrozen ps := by
  intro b off hp
  have h1 := h b off hp
  have h2 := hl _ hp
  unfold World.frozen? at h1 ⊢
  rw [hk b h2]
  exact h1
/-- A law that keeps all old memory: what it hands back is what the row wants. -/
theorem post_kept {f : Func} {s : ChangeSpec} {apart fresh handsOn again : Bool} {args : Array Value} {v : Value} {ds gs : List (DataW H)} {before : List MemPlace} {res : List (DataW H)}
    (hS : ∀ t ∈ f.params.toList, S t) (hSv : ∀ n ∈ s.vars, ∀ g t, P.globalNamed n = some g → (P.globals[g]?).map (·.type) = some t → S t)
    (hW : DataW.Whole enc P f.params.toList s.vars apart w args.toList ds gs before) (hos : w'.os = w.os) (hout : w'.output = w.output)
    (hr : (s.fn H (ds ++ gs)).results = res) (ha : (s.fn H (ds ++ gs)).args = ds) (hvv : (s.fn H (ds ++ gs)).vars = gs)
    (hres : ∀ (b : Nat) (sp : Nat → Bool) (hd : Bool), DataW.TrodAll enc P w' b sp hd f.resultTypes.toList (v.resultList f.resultTypes.size) res [])
    (hok : ∀ (j : Nat) (t : TypeId) (r : Value), f.resultTypes[j]? = some t → (v.resultList f.resultTypes.size)[j]? = some r → Value.okWide P w' .any 0 t r) :
    s.post enc P f apart fresh handsOn again w args v w' := by
  have hlt := hW.lt
  have hW0 := hW
  obtain ⟨p, q, h1, h2, rfl, h4, h5⟩ := hW
  have hsp : ∀ b, b < w.heap.size → (fun b => decide (b < w.heap.size)) b = true := fun b hb => by simpa using hb
  refine ⟨ds, gs, p ++ q, [], p, q, hW0, by rw [hr]; exact hres _ _ _, by rw [ha]; exact trodAll_grow hk hz hsp hS h1, by rw [hvv]; exact trodVars_grow hk hz hsp (fun n cs => hk.var) hSv h2, ⟨hos, hout, fun i hi => ?_⟩, fun _ => ⟨hok, _, _, ([] ++ p) ++ q, ⟨[] ++ p, q, trodAll_append (trodAll_grow hk hz (fun _ _ => rfl) hS h1) (hres _ _ _), trodVars_grow hk hz (fun _ _ => rfl) (fun n cs => hk.var) hSv h2, rfl, ?_, ?_⟩, ?_⟩⟩
  · rw [hk i hi]
    cases w.heap[i]? with
    | none => rfl
    | some o => cases o <;> simp
  · simpa using hk.noneFrozen hlt h4
  · simpa using h5
  · intro p hp _
    simpa using hp
end
end SX
end Go.Proofs.YtjpdnkfplnnhhaaGreatDoor

/- SX: rows: from a contract to the law's call. -/
set_option linter.unusedVariables false
set_option linter.unusedSimpArgs false
namespace Go.Proofs.YtjpdnkfplnnhhaaGreatDoor
namespace SX
open Go Go.ChangeShapes Go.WideShapes Go.Deep
section
variable {P : Program}
/-- A contract, as a call. -/
theorem Ctr.calls {f : FuncId} {fn : Func} {c : Code} (hf : P.funcs[f]? = some fn) (hb : fn.body = some c) (hnm : (fn.name == "runtime.NumGoroutine") = false) {args : List SV} {H : List SB} {K : SV → List SB → Prop} (h : Ctr P f args H K)
    {C : Fr} {E : Env} {m : Mem} {w : World} (hr : Rel E C m H w) (ho : OkA m (vers H) args) :
    Calls P f (denL E args).toArray w (fun e w' => ∃ v, e = .returned v ∧ ∃ r H' E' m', v = den E' r ∧ K r H' ∧ (Ok m' (vers H') r ∧ live r = true) ∧ Ext E m (vers H) E' m' (vers H') ∧ Rel E' C m' H' w') := by
  have h1 := h.out C E m w hr ho
  have hrun : (callFunc f (denL E args).toArray).run P w = .ok (.enter f (denL E args).toArray) w := by
    have h1 : fn.name ≠ "runtime.NumGoroutine" := by simpa using hnm
    simp [callFunc, hf, h1, hb]
  unfold callX at h1
  rw [hrun] at h1
  exact h1
/-- The frame that holds all that is there. -/
def frAll (w : World) : Fr := ⟨w.os, w.tape, w.output, fun b => w.heap[b]?, w.drawn⟩
theorem rel_all (w : World) (E : Env) : Rel E (frAll w) (fun _ => none) [] w where
  os := rfl
  tape := rfl
  output := ⟨rfl, Nat.le_refl _⟩
  im := fun b o h => by cases h
  fr := fun b o h => h
  mf := fun b o h => rfl
  bl := fun k B h => by simp at h
  nn := fun k v h hv => by
    exfalso
    unfold Vle at h
    simp [vers] at h
  sp := fun k b ⟨B, h, _⟩ => by simp at h
  inj := fun j k b ⟨B, h, _⟩ => by simp at h
theorem Rel.kept {w w' : World} {E : Env} {m : Mem} {H : List SB} (h : Rel E (frAll w) m H w') : Kept w w' ∧ w'.os = w.os ∧ w'.output = w.output := by
  refine ⟨fun b hb => ?_, h.os, h.output.1⟩
  have hg : w.heap[b]? = some w.heap[b] := Array.getElem?_eq_getElem hb
  rw [h.fr b _ hg, hg]
/-- A law of plain values. -/
theorem law_calls {f : FuncId} {fn : Func} {c : Code} (hf : P.funcs[f]? = some fn) (hb : fn.body = some c) (hnm : (fn.name == "runtime.NumGoroutine") = false) {args : List SV} (h : CtrV P f args (.b true))
    (ho : OkA (fun _ => none) [] args) (w : World) {vs : Array Value} (hvs : vs = (denL (fun _ _ => none) args).toArray) :
    Calls P f vs w (fun e w' => e = .returned (.bool true) ∧ Kept w w' ∧ w'.os = w.os ∧ w'.output = w.output) := by
  subst hvs
  refine (h.calls hf hb hnm (rel_all w _) ho).mono fun e w' he => ?_
  obtain ⟨v, rfl, r, H', E', m', rfl, ⟨rfl, rfl⟩, _, _, hrel⟩ := he
  exact ⟨rfl, hrel.kept⟩
/-- The blocks that the arguments lean on, and the rest. -/
def memOf (w : World) (S : Nat → Bool) : Mem := fun b => if S b then w.heap[b]? else none
def frOf (w : World) (S : Nat → Bool) : Fr := ⟨w.os, w.tape, w.output, fun b => if S b then none else w.heap[b]?, w.drawn⟩
theorem rel_of (w : World) (S : Nat → Bool) (E : Env) : Rel E (frOf w S) (memOf w S) [] w where
  os := rfl
  tape := rfl
  output := ⟨rfl, Nat.le_refl _⟩
  im := fun b o h => by
    unfold memOf at h
    split at h
    · exact h
    · cases h
  fr := fun b o h => by
    simp only [frOf] at h
    split at h
    · cases h
    · exact h
  mf := fun b o h => by
    simp only [frOf] at h
    unfold memOf
    split at h
    · cases h
    · rename_i hs; rw [if_neg hs]
  bl := fun k B h => by simp at h
  nn := fun k v h hv => by
    exfalso
    unfold Vle at h
    simp [vers] at h
  sp := fun k b ⟨B, h, _⟩ => by simp at h
  inj := fun j k b ⟨B, h, _⟩ => by simp at h
theorem Rel.keptOf {w w' : World} {S : Nat → Bool} {E : Env} {m : Mem} {H : List SB} (hm : ∀ b o, memOf w S b = some o → m b = some o) (h : Rel E (frOf w S) m H w') : Kept w w' ∧ w'.os = w.os ∧ w'.output = w.output := by
  refine ⟨fun b hb => ?_, h.os, h.output.1⟩
  have hg : w.heap[b]? = some w.heap[b] := Array.getElem?_eq_getElem hb
  cases hs : S b with
  | true =>
    have := h.im b _ (hm b w.heap[b] (by unfold memOf; rw [hs]; exact hg))
    rw [this, hg]
  | false =>
    have := h.fr b w.heap[b] (by simp only [frOf, hs]; exact hg)
    rw [this, hg]
/-- A law whose arguments lean on memory that it only reads. -/
theorem law_callsM {f : FuncId} {fn : Func} {c : Code} (hf : P.funcs[f]? = some fn) (hb : fn.body = some c) (hnm : (fn.name == "runtime.NumGoroutine") = false) {args : List SV} (h : CtrV P f args (.b true))
    (w : World) (S : Nat → Bool) (ho : OkA (memOf w S) [] args) {vs : Array Value} (hvs : vs = (denL (fun _ _ => none) args).toArray) :
    Calls P f vs w (fun e w' => e = .returned (.bool true) ∧ Kept w w' ∧ w'.os = w.os ∧ w'.output = w.output) := by
  subst hvs
  refine (h.calls hf hb hnm (rel_of w S _) ho).mono fun e w' he => ?_
  obtain ⟨v, rfl, r, H', E', m', rfl, ⟨rfl, rfl⟩, _, hx, hrel⟩ := he
  exact ⟨rfl, hrel.keptOf hx.mm⟩
end
section
variable {H : Type} {enc : TypeId × Value → H} {P : Program} {w : World} {base : Nat} {spare : Nat → Bool} {held : Bool}
/-- A struct of integers and bools, by value, opened. -/
theorem open_flat {r : Reach} {b0 : Nat} {t : TypeId} {fs : Array Field} {v : Value} {d : DataW H} {p : List MemPlace} (hs : P.underlying t = some (.struct fs)) (hone : oneCellFields P fs = true) (hC : P.cellsOf t = fs.size)
    (hv : Value.okWide P w r b0 t v) (h : DataW.Trod enc P w base spare held t v d p) :
    ∃ cs : List Value, v = .agg cs.toArray ∧ cs.length = fs.size ∧ ∀ (i : Nat) (f : Field), fs[i]? = some f → (∀ k, P.underlying f.type = some (.int k) → ∃ n, cs[i]? = some (.int k n)) ∧ (P.underlying f.type = some .bool → ∃ b, cs[i]? = some (.bool b)) := by
  obtain ⟨cs, rfl, hsz⟩ := okWide_struct hs hv
  obtain ⟨fuel, hf⟩ := h
  obtain ⟨xs, n, _, _, hl, hlen, hg⟩ := DataW.trod_struct hs hf
  refine ⟨cs.toList, by simp, by simpa [hC] using hsz, fun i f hi => ?_⟩
  obtain ⟨o0, k0⟩ := hone_of hone i f hi
  have h1 := hg i f hi
  rw [o0, k0] at h1
  have hilt : i < cs.size := by
    rw [hsz, hC]
    rcases Nat.lt_or_ge i fs.size with h | h
    · exact h
    · rw [Array.getElem?_eq_none h] at hi; cases hi
  have hcell : ((Value.agg cs).cells.toList.drop i).take 1 = [cs[i]] := by
    simp only [Value.cells]
    rw [List.drop_eq_getElem_cons (by simpa using hilt)]
    simp
  rw [hcell] at h1
  have hx : ∃ y, xs[i]? = some y := by
    have : i < xs.length := by rw [hlen]; rw [hsz, hC] at hilt; exact hilt
    exact ⟨_, List.getElem?_eq_getElem this⟩
  obtain ⟨y, hy⟩ := hx
  rw [hy] at h1
  have hci : cs.toList[i]? = some cs[i] := by simp [hilt]
  refine ⟨fun k hk => ?_, fun hk => ?_⟩
  · obtain ⟨n, e, _⟩ := DataW.trod_int hk h1
    simp only [List.cons.injEq, and_true] at e
    exact ⟨n, by rw [hci, e]⟩
  · obtain ⟨b, e, _⟩ := DataW.trod_bool hk h1
    simp only [List.cons.injEq, and_true] at e
    exact ⟨b, by rw [hci, e]⟩
end
end SX
end Go.Proofs.YtjpdnkfplnnhhaaGreatDoor

/- SX: rows: slices and structs of plain cells, opened. -/
set_option linter.unusedVariables false
set_option linter.unusedSimpArgs false
namespace Go.Proofs.YtjpdnkfplnnhhaaGreatDoor
namespace SX
open Go Go.ChangeShapes Go.WideShapes

/-- What a cell of a kind may hold. -/
def LKv : LK → Value → Prop
  | .i k, v => ∃ n, v = .int k n ∧ (Lit.int k n).wf = true
  | .b, v => ∃ b, v = .bool b
  | .s, v => ∃ s : ByteArray, v = .string s ∧ s.size ≤ maxLen
def LKs : List LK → List Value → Prop
  | [], [] => True
  | k :: ls, v :: cs => LKv k v ∧ LKs ls cs
  | _, _ => False
theorem LKs.len : ∀ {ls : List LK} {cs : List Value}, LKs ls cs → cs.length = ls.length
  | [], [], _ => rfl
  | k :: ls, v :: cs, h => by simp only [LKs] at h; simp [LKs.len h.2]
  | [], _ :: _, h => h.elim
  | _ :: _, [], h => h.elim
theorem LKs.app : ∀ {ls rs : List LK} {cs ds : List Value}, LKs ls cs → LKs rs ds → LKs (ls ++ rs) (cs ++ ds)
  | [], rs, [], ds, _, h => h
  | k :: ls, rs, v :: cs, ds, h, h' => by simp only [LKs, List.cons_append] at h ⊢; exact ⟨h.1, LKs.app h.2 h'⟩
  | [], _, _ :: _, _, h, _ => h.elim
  | _ :: _, _, [], _, h, _ => h.elim
theorem LKs_rep {ls : List LK} {m : Nat} (hm : ls.length = m) : ∀ (n : Nat) (cs : List Value), cs.length = n * m → (∀ i, i < n → LKs ls ((cs.drop (i * m)).take m)) → LKs (rep n ls) cs
  | 0, cs, hl, _ => by
    have : cs = [] := List.eq_nil_of_length_eq_zero (by omega)
    subst this; simp [rep, LKs]
  | n + 1, cs, hl, h => by
    have h0 := h 0 (by omega)
    rw [Nat.zero_mul, List.drop_zero] at h0
    have h1 := LKs_rep hm n (cs.drop m) (by rw [List.length_drop, hl, Nat.succ_mul]; omega) fun i hi => by
      have := h (i + 1) (by omega)
      rw [List.drop_drop, show m + i * m = (i + 1) * m by rw [Nat.succ_mul, Nat.add_comm]]
      exact this
    have := h0.app h1
    rw [List.take_append_drop] at this
    simpa only [rep] using this
section
variable {H : Type} {enc : TypeId × Value → H} {P : Program} {w : World} {base : Nat} {spare : Nat → Bool} {held : Bool}
mutual
theorem trod_flat : ∀ (f : Nat) (t : TypeId) (ls : List LK), shape P f t = some ls → P.cellsOf t = ls.length → ∀ (fuel : Nat) (cs : List Value) (x : DataW H × List MemPlace), DataW.trod enc P w base spare held fuel t cs = some x → LKs ls cs
  | 0, t, ls, h, _, _, _, _, _ => by simp [shape] at h
  | f + 1, t, ls, h, hc, fuel, cs, x, hx => by
    unfold shape at h
    cases hu : P.underlying t with
    | none => simp [hu] at h
    | some d =>
      rw [hu] at h
      cases d <;> simp only at h <;> try (cases h; done)
      case bool =>
        cases h
        obtain ⟨b, rfl, _⟩ := DataW.trod_bool hu hx
        exact ⟨⟨b, rfl⟩, trivial⟩
      case int k =>
        cases h
        obtain ⟨n, rfl, _, hw⟩ := DataW.trod_int hu hx
        exact ⟨⟨n, rfl, hw⟩, trivial⟩
      case string =>
        cases h
        obtain ⟨s, rfl, _, hw⟩ := DataW.trod_string hu hx
        exact ⟨⟨s, rfl, hw⟩, trivial⟩
      case struct fs =>
        cases hsh : P.stoodInHeld t with
        | true => rw [hsh] at h; cases h
        | false =>
          rw [hsh] at h
          simp only [cond_false] at h
          obtain ⟨xs, n, rfl, _, hl, hxl, hg⟩ := DataW.trod_struct hu hx
          have := trod_flatF f 0 fs.toList ls h n cs (fun i fl hi => by
            have hi' : fs[i]? = some fl := by simpa using hi
            have hlt : i < xs.length := by
              rw [hxl]
              rcases Nat.lt_or_ge i fs.size with h | h
              · exact h
              · rw [Array.getElem?_eq_none h] at hi'; cases hi'
            exact ⟨_, (hg i fl hi').trans (List.getElem?_eq_getElem hlt)⟩) (by omega)
          rw [List.drop_zero, List.take_of_length_le (by omega)] at this
          exact this
      case array n e =>
        cases hs : shape P f e with
        | none => rw [hs] at h; cases h
        | some es =>
          rw [hs] at h
          simp only at h
          cases hb : Nat.beq (P.cellsOf e) es.length with
          | false => rw [hb] at h; cases h
          | true =>
            rw [hb] at h
            simp only [cond_true, Option.some.injEq] at h
            subst h
            have hce := Nat.eq_of_beq_eq_true hb
            obtain ⟨xs, m, rfl, _, hl, hxl, hg⟩ := DataW.trod_array hu hx
            refine LKs_rep hce.symm n cs (by rw [hl, hc, rep_length, hce]) fun i hi => ?_
            have hlt : i < xs.length := by omega
            exact trod_flat f e es hs hce m _ _ ((hg i hi).trans (List.getElem?_eq_getElem hlt))
theorem trod_flatF : ∀ (f off : Nat) (fs : List Field) (ls : List LK), shapeF P f off fs = some ls → ∀ (n : Nat) (cs : List Value), (∀ (i : Nat) (fl : Field), fs[i]? = some fl → ∃ y, DataW.trod enc P w base spare held n fl.type ((cs.drop fl.offset).take (P.cellsOf fl.type)) = some y) → off + ls.length ≤ cs.length → LKs ls ((cs.drop off).take ls.length)
  | f, off, [], ls, h, n, cs, _, _ => by
    unfold shapeF at h
    simp only [Option.some.injEq] at h
    subst h
    simp [LKs]
  | 0, off, _ :: _, ls, h, _, _, _, _ => by simp [shapeF] at h
  | f + 1, off, x :: r, ls, h, n, cs, hg, hl => by
    unfold shapeF at h
    cases hc : (x.name == "_" || !(Nat.beq x.offset off)) with
    | true => rw [hc] at h; cases h
    | false =>
      rw [hc] at h
      simp only [cond_false] at h
      simp only [Bool.or_eq_false_iff, Bool.not_eq_false'] at hc
      have hoff := Nat.eq_of_beq_eq_true hc.2
      cases hs : shape P f x.type with
      | none => rw [hs] at h; cases h
      | some es =>
        rw [hs] at h
        simp only at h
        cases hb : Nat.beq (P.cellsOf x.type) es.length with
        | false => rw [hb] at h; cases h
        | true =>
          rw [hb] at h
          simp only [cond_true] at h
          have hce := Nat.eq_of_beq_eq_true hb
          cases hr : shapeF P f (off + es.length) r with
          | none => rw [hr] at h; cases h
          | some rs =>
            rw [hr] at h
            simp only [Option.some.injEq] at h
            subst h
            rw [List.length_append] at hl
            obtain ⟨y, hy⟩ := hg 0 x rfl
            have h1 := trod_flat f x.type es hs hce n _ _ hy
            rw [hoff, hce] at h1
            have h2 := trod_flatF f (off + es.length) r rs hr n cs (fun i fl hi => hg (i + 1) fl (by simpa using hi)) (by omega)
            have := h1.app h2
            rw [← List.drop_drop, ← List.take_add, ← List.length_append] at this
            exact this
end
/-- A slice of plain elements, opened: its rows. -/
theorem open_rows {r : Reach} {b0 f : Nat} {t e : TypeId} {ls : List LK} {v : Value} {d : DataW H} {p : List MemPlace} (ht : P.underlying t = some (.slice e)) (hsh : shape P f e = some ls) (hc : P.cellsOf e = ls.length) (hpos : 0 < ls.length)
    (hv : Value.okWide P w r b0 t v) (h : DataW.Trod enc P w base spare held t v d p) :
    ∃ (rows : List (List Value)) (a : Option Addr) (cap : Nat), v = .slice a rows.length cap ∧ rows.length ≤ cap ∧ cap ≤ maxLen ∧ (∀ row ∈ rows, LKs ls row) ∧
      (rows ≠ [] → ∃ ad arr ty fr, a = some ad ∧ ad.spot = none ∧ w.heap[ad.block]? = some (.cells arr ty fr) ∧ ∀ j row, rows[j]? = some row → ∀ u c, row[u]? = some c → arr[ad.off + j * ls.length + u]? = some c) := by
  obtain ⟨fuel, hn⟩ := h
  obtain ⟨a0, l0, c0, rfl⟩ := okWide_slice ht hv
  rcases DataW.trod_slice ht hn with ⟨e1, _⟩ | ⟨a, len, cap, elems, rest, n, rfl, e1, _, _, h1, h2, h3, h4, _⟩
  · simp only [Value.cells, List.cons.injEq, Value.slice.injEq, and_true] at e1
    obtain ⟨rfl, rfl, rfl⟩ := e1
    exact ⟨[], none, 0, rfl, Nat.le_refl _, Nat.zero_le _, fun row hr => (by cases hr), fun h => absurd rfl h⟩
  · simp only [Value.cells, List.cons.injEq, Value.slice.injEq, and_true] at e1
    obtain ⟨rfl, rfl, rfl⟩ := e1
    have hrow : ∀ j, j < l0 → ∃ row y, w.cells? base (a.add (j * P.cellsOf e)) (P.cellsOf e) = some row ∧ DataW.trod enc P w base spare held n e row = some y := fun j hj => by
      have := h4 j hj
      rw [List.getElem?_eq_getElem (by omega)] at this
      obtain ⟨row, q1, q2⟩ := Option.bind_eq_some_iff.1 this
      exact ⟨row, _, q1, q2⟩
    have hget : ∀ j, j < l0 → ((List.range l0).map fun j => (w.cells? base (a.add (j * P.cellsOf e)) (P.cellsOf e)).getD [])[j]? = some ((w.cells? base (a.add (j * P.cellsOf e)) (P.cellsOf e)).getD []) := fun j hj => by
      rw [List.getElem?_map, List.getElem?_range hj]; rfl
    have hcell : ∀ j, j < l0 → ∀ u c, ((w.cells? base (a.add (j * P.cellsOf e)) (P.cellsOf e)).getD [])[u]? = some c → u < P.cellsOf e ∧ w.cell? ((a.add (j * P.cellsOf e)).add u) = some c := fun j hj u c hu => by
      obtain ⟨row, y, q1, q2⟩ := hrow j hj
      rw [q1] at hu
      simp only [Option.getD_some] at hu
      unfold World.cells? at q1
      split at q1
      · have hl := mapM_some_length q1
        have hlt : u < row.length := (List.getElem?_eq_some_iff.1 hu).1
        have hlt2 : u < P.cellsOf e := by simpa [hl] using hlt
        have := mapM_some_get q1 u u (by simp [hlt2])
        exact ⟨hlt2, by rw [this, hu]⟩
      · cases q1
    refine ⟨(List.range l0).map fun j => (w.cells? base (a.add (j * P.cellsOf e)) (P.cellsOf e)).getD [], some a, c0, by simp, by simp; omega, by omega, fun row hr => ?_, fun hne => ?_⟩
    · obtain ⟨j, hj, rfl⟩ := List.mem_map.1 hr
      obtain ⟨row, y, q1, q2⟩ := hrow j (by simpa using hj)
      rw [q1]
      exact trod_flat f e ls hsh hc n row y q2
    · have hl0 : 0 < l0 := by
        rcases Nat.eq_zero_or_pos l0 with h | h
        · subst h; exact absurd rfl hne
        · exact h
      obtain ⟨row, y, q1, q2⟩ := hrow 0 hl0
      have hrl := (trod_flat f e ls hsh hc n row y q2).len
      have h00 := (hcell 0 hl0 0 (row[0]'(by omega)) (by rw [q1]; simp)).2
      have ha0 : a.add 0 = a := by simp [Addr.add]
      rw [Nat.zero_mul, ha0, ha0] at h00
      have hsp := World.cell?_spot h00
      have hadd : ∀ k, (a.add k).spot = none ∧ (a.add k).block = a.block ∧ (a.add k).off = a.off + k := fun k => by
        unfold Addr.add
        split
        · rename_i h; subst h; exact ⟨hsp, rfl, rfl⟩
        · exact ⟨rfl, rfl, rfl⟩
      have hadd2 : ∀ k u, (a.add k).add u = ⟨a.block, a.off + k + u, none⟩ := fun k u => by
        obtain ⟨g1, g2, g3⟩ := hadd k
        unfold Addr.add at g1 g2 g3 ⊢
        split
        · rename_i h
          subst h
          simp only [Nat.add_zero]
          split
          · rename_i h; subst h
            cases a; simp only at hsp; subst hsp; rfl
          · rfl
        · split
          · rename_i h; subst h; simp
          · rfl
      have h00' := h00
      unfold World.cell? at h00'
      split at h00'
      · rename_i arr ty fr hblk
        refine ⟨a, arr, ty, fr, rfl, hsp, hblk, fun j row hj u c hu => ?_⟩
        have hjl : j < l0 := by have := (List.getElem?_eq_some_iff.1 hj).1; simpa using this
        rw [hget j hjl] at hj
        cases hj
        have h5 := (hcell j hjl u c hu).2
        rw [hadd2] at h5
        unfold World.cell? at h5
        rw [hblk] at h5
        simp only [Option.isSome_none, Bool.false_eq_true, if_false] at h5
        rw [← hc]; exact h5
      · cases h00'
/-- .. as an immutable slice. -/
theorem open_imm {r : Reach} {b0 f : Nat} {t e : TypeId} {ls : List LK} {v : Value} {dd : DataW H} {p : List MemPlace} (ht : P.underlying t = some (.slice e)) (hsh : shape P f e = some ls) (hc : P.cellsOf e = ls.length) (hpos : 0 < ls.length)
    {α : Type} (d : α) {n : Nat} (en : α → List SV) (hn : ls.length = n) (hw : ∀ x, wdL (en x) = n) (hok : ∀ x m, OkL m [] (en x)) (hdec : ∀ row, LKs ls row → ∃ x, row = cellsL E0 (en x))
    (hv : Value.okWide P w r b0 t v) (h : DataW.Trod enc P w base spare held t v dd p) :
    ∃ (xs : List α) (a : Option Addr) (cap : Nat) (S : Nat → Bool), v = den (fun _ _ => none) (.imm α d n en xs a cap) ∧ Ok (memOf w S) [] (.imm α d n en xs a cap) ∧ xs.length ≤ maxLen := by
  obtain ⟨rows, a, cap, rfl, h1, h2, h3, h4⟩ := open_rows ht hsh hc hpos hv h
  have hx : ∃ xs : List α, rows = xs.map fun x => cellsL E0 (en x) := by
    clear h h4 hv h1
    induction rows with
    | nil => exact ⟨[], rfl⟩
    | cons row rows ih =>
      obtain ⟨xs, hxs⟩ := ih fun r hr => h3 r (List.mem_cons_of_mem _ hr)
      obtain ⟨x, hx⟩ := hdec row (h3 row List.mem_cons_self)
      exact ⟨x :: xs, by rw [hxs, hx]; rfl⟩
  obtain ⟨xs, rfl⟩ := hx
  rw [List.length_map] at *
  refine ⟨xs, a, cap, fun b => decide (some b = a.map (·.block)), by simp [den, wrapV, cells], ?_, by omega⟩
  simp only [Ok]
  refine ⟨h1, fun hne => ?_, hw, fun j hj => hok _ _⟩
  obtain ⟨ad, arr, ty, fr, rfl, e2, e3, e4⟩ := h4 (by simpa using hne)
  refine ⟨ad, arr, ty, fr, rfl, e2, by unfold memOf; rw [if_pos (by simp)]; exact e3, fun j hj u c hu => ?_⟩
  have := e4 j (cellsL E0 (en (xs.getD j d))) (by
    rw [List.getElem?_map, List.getElem?_eq_getElem hj]
    simp [List.getD_eq_getElem?_getD, List.getElem?_eq_getElem hj]) u c hu
  rw [hn] at this
  exact this
/-- A struct of plain cells by value, opened. -/
theorem open_agg {r : Reach} {b0 f : Nat} {t : TypeId} {ls : List LK} {v : Value} {d : DataW H} {p : List MemPlace} (ht : ∃ fs, P.underlying t = some (.struct fs)) (hsh : shape P f t = some ls) (hc : P.cellsOf t = ls.length)
    (hv : Value.okWide P w r b0 t v) (h : DataW.Trod enc P w base spare held t v d p) : ∃ cs : List Value, v = .agg cs.toArray ∧ LKs ls cs := by
  obtain ⟨fs, hs⟩ := ht
  obtain ⟨cs, rfl, hsz⟩ := okWide_struct hs hv
  obtain ⟨fuel, hf⟩ := h
  have := trod_flat f t ls hsh hc fuel _ _ hf
  exact ⟨cs.toList, by simp, this⟩
end
theorem memOf_mono {w : World} {S S' : Nat → Bool} (h : ∀ b, S b = true → S' b = true) : ∀ b o, memOf w S b = some o → memOf w S' b = some o := fun b o hb => by
  unfold memOf at hb ⊢
  split at hb
  · rename_i hs; rw [if_pos (h b hs)]; exact hb
  · cases hb
end SX
end Go.Proofs.YtjpdnkfplnnhhaaGreatDoor

/- SX: rows: the form's own reach bounds a slice that came in. -/
set_option linter.unusedVariables false
namespace Go.Proofs.YtjpdnkfplnnhhaaGreatDoor
namespace SX
open Go Go.ChangeShapes Go.WideShapes Go.ChangeAt
section
variable {H : Type} {enc : TypeId × Value → H} {P : Program} {w : World} {base : Nat} {spare : Nat → Bool} {held : Bool}
theorem slice_sized {t e : TypeId} {a : Option Addr} {len cap : Nat} {d : DataW H} {p : List MemPlace} (ht : P.underlying t = some (.slice e)) (h : DataW.Trod enc P w base spare held t (.slice a len cap) d p)
    {ts : List TypeId} {ds : List (DataW H)} (hz : (DataW.weightsEach P ts ds).all (· ≤ reachBytes) = true) {j : Nat} (hj : ts[j]? = some t) (hd : ds[j]? = some d) : len * P.bytesOf e ≤ reachBytes := by
  obtain ⟨fuel, hn⟩ := h
  rcases DataW.trod_slice ht hn with ⟨e1, _⟩ | ⟨a0, l0, c0, elems, rest, n, rfl, e1, e2, _, h1, h2, h3, _⟩
  · simp only [Value.cells, List.cons.injEq, Value.slice.injEq, and_true] at e1
    obtain ⟨rfl, rfl, rfl⟩ := e1
    rw [Nat.zero_mul]; exact Nat.zero_le _
  · simp only [Value.cells, List.cons.injEq, Value.slice.injEq, and_true] at e1
    obtain ⟨rfl, rfl, rfl⟩ := e1
    have e3 : d = .slice (elems.map (·.1)) (rest.map (·.1)) := congrArg Prod.fst e2
    subst e3
    have := sized_slice hz hj hd ht
    rw [List.length_map, h3, Nat.add_mul] at this
    omega
end
end SX
end Go.Proofs.YtjpdnkfplnnhhaaGreatDoor

/- Conditions: rows: what comes in, opened. -/
set_option linter.unusedVariables false
set_option maxRecDepth 100000
namespace Go.Proofs.YtjpdnkfplnnhhaaGreatDoor
open Go Go.ChangeShapes Go.WideShapes Go.ChangeAt Go.RowKit
theorem own : ownKnob Tryz.prog.godebug = none := by kernel_rfl
theorem compsOk : ∀ t, t < Tryz.prog.types.size → SX.CompsOk Tryz.prog (· < Tryz.prog.types.size) t := SX.compsOk_of (by kernel_rfl)
namespace SX
theorem LKs_ints : ∀ {n : Nat} {cs : List Value}, LKs (List.replicate n (.i .i64)) cs → ∃ xs : List Int, xs.length = n ∧ cs = xs.map (.int .i64)
  | 0, [], _ => ⟨[], rfl, rfl⟩
  | 0, _ :: _, h => h.elim
  | n + 1, [], h => h.elim
  | n + 1, v :: cs, h => by
    obtain ⟨⟨x, rfl, _⟩, h2⟩ := h
    obtain ⟨xs, e1, rfl⟩ := LKs_ints h2
    exact ⟨x :: xs, by simp [e1], rfl⟩
theorem cn_dec (row : List Value) (h : LKs (List.replicate 5 (.i .i64)) row) : ∃ c : Cn, row = cellsL E0 (cenc c) := by
  obtain ⟨xs, h1, rfl⟩ := LKs_ints h
  match xs, h1 with
  | [a, b, c, d, e], _ => exact ⟨⟨a, b, c, d, e⟩, rfl⟩
theorem oc_dec (row : List Value) (h : LKs (List.replicate 27 (.i .i64)) row) : ∃ o : Oc, row = cellsL E0 (oenc o) := by
  obtain ⟨xs, h1, rfl⟩ := LKs_ints h
  exact ⟨⟨xs, h1⟩, (oc_cells E0 ⟨xs, h1⟩).symm⟩
end SX
section
variable {H : Type} {enc : TypeId × Value → H} {W : World} {b0 : Nat} {v : Value} {d : DataW H} {p : List MemPlace} {base : Nat} {spare : Nat → Bool} {held : Bool}
theorem conds_open (hv : Value.okWide Tryz.prog W .any b0 27 v) (h : DataW.Trod enc Tryz.prog W base spare held 27 v d p) :
    ∃ (xs : List SX.Cn) (a : Option Addr) (cap : Nat) (S : Nat → Bool), v = SX.den (fun _ _ => none) (.imm SX.Cn SX.cn0 5 SX.cenc xs a cap) ∧ SX.Ok (SX.memOf W S) [] (.imm SX.Cn SX.cn0 5 SX.cenc xs a cap) ∧ xs.length ≤ maxLen :=
  SX.open_imm (f := 40) (e := 30) (ls := List.replicate 5 (.i .i64)) Tryz.underlying27 (by kernel_rfl) (by kernel_rfl) (by decide) SX.cn0 SX.cenc rfl (fun _ => rfl) (fun c m => by simp [SX.cenc, SX.OkL, SX.Ok, SX.isUnit]) SX.cn_dec hv h
theorem outs_open (hv : Value.okWide Tryz.prog W .any b0 42 v) (h : DataW.Trod enc Tryz.prog W base spare held 42 v d p) :
    ∃ (xs : List SX.Oc) (a : Option Addr) (cap : Nat) (S : Nat → Bool), v = SX.den (fun _ _ => none) (.imm SX.Oc SX.oc0 27 SX.oenc xs a cap) ∧ SX.Ok (SX.memOf W S) [] (.imm SX.Oc SX.oc0 27 SX.oenc xs a cap) ∧ xs.length ≤ maxLen :=
  SX.open_imm (f := 40) (e := 26) (ls := List.replicate 27 (.i .i64)) Tryz.underlying42 (by kernel_rfl) (by kernel_rfl) (by decide) SX.oc0 SX.oenc rfl SX.oenc_w SX.oenc_ok SX.oc_dec hv h
theorem out_open (hv : Value.okWide Tryz.prog W .any b0 26 v) (h : DataW.Trod enc Tryz.prog W base spare held 26 v d p) : ∃ o : SX.Oc, v = SX.den (fun _ _ => none) (.agg (SX.oenc o)) := by
  obtain ⟨cs, rfl, hl⟩ := SX.open_agg (f := 40) (ls := List.replicate 27 (.i .i64)) ⟨_, Tryz.underlying26⟩ (by kernel_rfl) (by kernel_rfl) hv h
  obtain ⟨o, rfl⟩ := SX.oc_dec cs hl
  exact ⟨o, by rw [SX.den_agg]; rfl⟩
end
end Go.Proofs.YtjpdnkfplnnhhaaGreatDoor

/- CondLogic: the row. -/
set_option linter.unusedVariables false
set_option maxRecDepth 100000
namespace Go.Proofs.YtjpdnkfplnnhhaaGreatDoor
open Go Go.ChangeShapes Go.WideShapes Go.ChangeAt Go.RowKit
theorem params_in : ∀ t ∈ Tryz.f7.params.toList, t < Tryz.prog.types.size := by
  have : (Tryz.f7.params.toList.all fun t => Nat.blt t Tryz.prog.types.size) = true := by kernel_rfl
  exact fun t ht => Nat.le_of_ble_eq_true (List.all_eq_true.1 this t ht)
theorem door_met (os : Os) (args : Array Value) : laidMetH Tryz.prog Rows.condLogicRow.laid ((World.doorLaid Tryz.prog 400 os).forCall (fun _ _ => 0) ⟨#[], args, []⟩).memory :=
  laidMetH_of_parts3 (fuel := 8) (laidMet_of_run' 8 (by kernel_rfl) (by kernel_rfl)) (by kernel_rfl) (by kernel_rfl)
theorem lifted (os : Os) (started : os.Started) (H : Type) (enc : TypeId × Value → H) :
    ReturnsInHanded {} Tryz.checked os 7 .any (fun w args => (Rows.condLogicSpec.pre enc Tryz.prog Tryz.f7 [] false w args ∧ laidMetH Tryz.prog Rows.condLogicRow.laid w) ∧ sizedMet enc Tryz.prog Tryz.f7 (OpenSpec.ofChange Rows.condLogicSpec) false w args)
      (Rows.condLogicSpec.post enc Tryz.prog Tryz.f7 false true false false) := by
  refine returnsInHanded_of_change_and (C := Tryz.checked) (X := fun w _ => laidMetH Tryz.prog Rows.condLogicRow.laid w) (fun _ _ _ hh h => h.of_heap hh) own started (by kernel_rfl) Tryz.func7
    (ChangeSpec.witness_shaped (enc := enc) (C := Tryz.checked) (os := os) (X := fun w _ => laidMetH Tryz.prog Rows.condLogicRow.laid w) false (World.doorLaid Tryz.prog 400 os) #[.slice none 0 0, .slice none 0 0, .agg #[.int .i64 0, .int .i64 0, .int .i64 0, .int .i64 0, .int .i64 0, .int .i64 0, .int .i64 0, .int .i64 0, .int .i64 0, .int .i64 0, .int .i64 0, .int .i64 0, .int .i64 0, .int .i64 0, .int .i64 0, .int .i64 0, .int .i64 0, .int .i64 0, .int .i64 0, .int .i64 0, .int .i64 0, .int .i64 0, .int .i64 0, .int .i64 0, .int .i64 0, .int .i64 0, .int .i64 0]] 8 rfl (World.shaped_of_RefB (by kernel_rfl) (by kernel_rfl)) (by kernel_rfl) (by kernel_rfl) (by kernel_rfl) (door_met os _)) ?_
  intro W base args ds gs before hval0 hW _ hz hL _
  have hval : ∀ (j : Nat) t v, Tryz.f7.params[j]? = some t → args[j]? = some v → Value.okWide Tryz.prog W .any base t v := hval0
  have hW' := hW
  obtain ⟨p, q, hA0, hV, rfl, hfz, hnd⟩ := hW
  have hA : DataW.TrodAll enc Tryz.prog W 0 (fun _ => true) true Tryz.f7.params.toList args.toList ds p := hA0
  rw [Tryz.params7] at hA hval
  obtain ⟨v0, v1, v2, d0, d1, d2, p0, p1, p2, rfl, rfl, rfl, h0, h1, h2⟩ := trodAll_three hA
  obtain ⟨rfl, rfl⟩ := trodVars_none hV
  obtain ⟨xs, ad, cap, S, rfl, hok, _⟩ := conds_open (hval 0 _ v0 rfl rfl) h0
  obtain ⟨ys, ad2, cap2, S2, rfl, hok2, _⟩ := conds_open (hval 1 _ v1 rfl rfl) h1
  obtain ⟨o, rfl⟩ := out_open (hval 2 _ v2 rfl rfl) h2
  have hby : Tryz.prog.bytesOf 30 = 40 := by kernel_rfl
  have hz1 := SX.slice_sized Tryz.underlying27 h0 hz (j := 0) rfl rfl
  have hz2 := SX.slice_sized Tryz.underlying27 h1 hz (j := 1) rfl rfl
  rw [hby] at hz1 hz2
  clear hA0 hval0
  refine (SX.law_callsM (args := [.imm SX.Cn SX.cn0 5 SX.cenc xs ad cap, .imm SX.Cn SX.cn0 5 SX.cenc ys ad2 cap2, .agg (SX.oenc o)]) Tryz.func7 rfl rfl (SX.logic_ok xs ys o ad cap ad2 cap2 (Nat.le_trans hz1 (by decide)) (Nat.le_trans hz2 (by decide))) W (fun _ => true) ?_ rfl).mono fun e W' ⟨he, hk, ho, hu⟩ => ?_
  · exact ⟨⟨rfl, hok.mono (SX.memOf_mono fun _ _ => rfl) _ _ _ (fun _ _ h => h)⟩, ⟨rfl, hok2.mono (SX.memOf_mono fun _ _ => rfl) _ _ _ (fun _ _ h => h)⟩, ⟨rfl, by simp [SX.Ok, SX.oenc, SX.OkL, SX.isUnit]⟩, trivial⟩
  subst he
  exact ⟨_, rfl, SX.post_kept hk compsOk params_in (fun n hn => by cases hn) hW' ho hu rfl rfl rfl (fun _ _ _ => trodAll_mk1 (shut_bool Tryz.underlying4 _)) (ok_one (by kernel_rfl) rfl (okWide_bool_mk Tryz.underlying4 _))⟩
theorem condLogic_holds : Rows.CondLogicSaid :=
  OpenClaim.holds_of_wide 7 Tryz.f7 rfl rfl rfl rfl rfl rfl rfl ⟨rfl, rfl, rfl, rfl, rfl⟩ rfl rfl rfl rfl rfl (by kernel_rfl) Tryz.func7 (by kernel_rfl)
    (of_decide_eq_true (by kernel_rfl)) (by unfold Func.isWrapper; first | (rw [if_pos (by decide +kernel)]; kernel_rfl) | (rw [if_neg (by decide +kernel)]; exact ⟨rfl, rfl⟩))
    (fun os started H enc _ => lifted os started H enc)
theorem condLogic_card : Rows.CondLogicCardSaid :=
  Claim7.holds_tied_plain_at .later [] [.data, .data, .data, .listed, .data] true (true, "be092f51ca8b83d40ec68f0285afff7df209af5f4d9902e95f9a8a4fc8ea18dd") true
    condLogic_holds (fun _ h => by cases h) (by kernel_rfl) (fun _ h => by cases h) condLogic_row_tie rfl ⟨rfl, rfl⟩ (by kernel_rfl) rfl
    (fun f fn hf hfn => by
      obtain rfl : f = 7 := Option.some.inj ((show Tryz.prog.funcNamed "belated/belatedlaw8.CondLogic" = some 7 by kernel_rfl).symm.trans hf) |>.symm
      obtain rfl : fn = Tryz.f7 := (Option.some.inj (Tryz.func7.symm.trans hfn)).symm
      exact ⟨by kernel_rfl, fun j t ht => by
        rw [Tryz.params7] at ht
        have hm : t ∈ [27, 27, 26] := by simpa using Array.mem_of_getElem? ht
        have hall : ([27, 27, 26].all fun u => !Tryz.prog.wantsStandIn u) = true := by kernel_rfl
        exact (show Tryz.prog.wantsStandIn t = false by simpa using List.all_eq_true.1 hall t hm)⟩)
    (by kernel_rfl)
#print axioms condLogic_card
end Go.Proofs.YtjpdnkfplnnhhaaGreatDoor
