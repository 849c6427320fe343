/- A part of SX: symbolic and concrete runs of the program, with contracts of functions; lemmas without further conditions. -/
import Derived.IntWalk
import Derived.ChangeSame
import Derived.ChangeReads
import Derived.ProofKit
import Derived.Deep.Fields
import Derived.Test.YthkedcneehdinaaGreatDoorChecked
import Derived.Shelf.LaysM
import Derived.Lib.ItoaNum
import Derived.Shelf.Lays
import Derived.Shelf.Pu.Lays
import Derived.OpenShut
import Derived.SizedLaws
import Derived.Lib.LaidTab
import Derived.Handed
import Derived.Test.YthkedcneehdinaaGreatDoorWE
set_option linter.unusedVariables false
set_option linter.unusedSimpArgs false
set_option linter.unusedSectionVars false
/- Conditions: what they are, what they say, in plain terms. -/
set_option linter.unusedVariables false
namespace Go.Proofs.YthkedcneehdinaaGreatDoor
namespace SX
open Go Go.Proofs
theorem wrap64 {x : Int} (h1 : -9223372036854775808 ≤ x) (h2 : x ≤ 9223372036854775807) : IntKind.i64.wrap x = x := IntWalk.i64_in x ⟨h1, h2⟩
theorem Joins.nil {new : List SV} : Joins [] new new := ⟨fun E => rfl, fun m V _ h => h⟩
/-- A node. -/
structure Cn where
  k : Int
  t : Int
  r : Int
  l : Int
  v : Int
  deriving DecidableEq
def cn0 : Cn := ⟨0, 0, 0, 0, 0⟩
def cenc (c : Cn) : List SV := [.i .i64 c.k, .i .i64 c.t, .i .i64 c.r, .i .i64 c.l, .i .i64 c.v]
def partsF (c : Cn) : Int :=
  if c.k = 1 then (if c.l = 0 ∧ 0 ≤ c.t ∧ c.t < 3 ∧ 0 ≤ c.r ∧ c.r < 8 then 0 else -1)
  else if c.k = 2 then (if c.t = 0 ∧ c.r = 0 ∧ 0 ≤ c.l ∧ c.l < 3 then 0 else -1)
  else if c.k = 3 then (if c.t = 0 ∧ c.r = 0 ∧ c.l = 0 ∧ c.v = 0 then 1 else -1)
  else if c.k = 4 ∨ c.k = 5 then (if c.t = 0 ∧ c.r = 0 ∧ c.l = 0 ∧ c.v = 0 then 2 else -1)
  else -1
theorem partsF_le (c : Cn) : -1 ≤ partsF c ∧ partsF c ≤ 2 := by
  unfold partsF
  repeat' split
  all_goals omega
/-- How many stand whole behind the first i nodes. -/
def nAt (cs : List Cn) : Nat → Int
  | 0 => 0
  | i + 1 => nAt cs i + (1 - partsF (cs.getD i cn0))
/-- The first i nodes are as they may be. -/
def okAt (cs : List Cn) (i : Nat) : Prop := ∀ j, j < i → 0 ≤ partsF (cs.getD j cn0) ∧ partsF (cs.getD j cn0) ≤ nAt cs j
def rightP (cs : List Cn) : Prop := (1 ≤ cs.length ∧ cs.length ≤ 32) ∧ okAt cs cs.length ∧ nAt cs cs.length = 1
open Classical in
noncomputable def rightB (cs : List Cn) : Bool := decide (rightP cs)
theorem okAt_succ {cs : List Cn} {i : Nat} (h : okAt cs i) (h1 : 0 ≤ partsF (cs.getD i cn0)) (h2 : partsF (cs.getD i cn0) ≤ nAt cs i) : okAt cs (i + 1) := by
  intro j hj
  rcases Nat.lt_succ_iff_lt_or_eq.1 hj with hj | rfl
  · exact h j hj
  · exact ⟨h1, h2⟩
theorem nAt_bd {cs : List Cn} : ∀ {i : Nat}, okAt cs i → 0 ≤ nAt cs i ∧ nAt cs i ≤ i ∧ (0 < i → 1 ≤ nAt cs i)
  | 0, _ => by simp [nAt]
  | i + 1, h => by
    have ih := nAt_bd (cs := cs) (i := i) fun j hj => h j (by omega)
    have h1 := h i (by omega)
    simp only [nAt]
    omega
end SX
end Go.Proofs.YthkedcneehdinaaGreatDoor

/- Conditions: parts, one, Right. -/
set_option linter.unusedVariables false
set_option maxRecDepth 100000
namespace Go.Proofs.YthkedcneehdinaaGreatDoor
namespace SX
open Go Go.Proofs
theorem i64_congr {x y : Int} (h : x = y) : SV.i .i64 x = SV.i .i64 y := congrArg (SV.i .i64) h
theorem parts_ok (c : Cn) : CtrV Tryz.prog 78 [.agg (cenc c)] (.i .i64 (partsF c)) := by
  refine Ctr.enterV tabOkF (fn := Tryz.f78) rfl rfl rfl rfl rfl rfl ?_
  refine ⟨fun h1 => ⟨fun h2 => ?_, fun h2 => ?_⟩, fun h1 => ⟨fun h2 => ⟨fun h3 => ?_, fun h3 => ?_⟩, fun h2 => ⟨fun h3 => ⟨fun h4 => ?_, fun h4 => ?_⟩, fun h3 => ⟨fun h4 => ⟨fun h5 => ⟨fun h6 => ?_, fun h6 => ?_⟩, fun h5 => Bool.noConfusion (h4.symm.trans h5)⟩, fun h4 => ⟨fun h5 => ⟨fun h6 => ?_, fun h6 => ?_⟩, fun h5 => ?_⟩⟩⟩⟩⟩
  · refine i64_congr (y := partsF c) ?_
    simp at h1 h2; unfold partsF; simp [h1, h2]
  · refine i64_congr (y := partsF c) ?_
    simp at h1 h2; unfold partsF; simp [h1]; intros; omega
  · refine i64_congr (y := partsF c) ?_
    simp at h1 h2 h3; unfold partsF; simp [h1, h2, h3]
  · refine i64_congr (y := partsF c) ?_
    simp at h1 h2 h3; unfold partsF; simp [h1, h2]; intros; omega
  · refine i64_congr (y := partsF c) ?_
    simp at h1 h2 h3 h4; unfold partsF; simp [h1, h2, h3, h4]
  · refine i64_congr (y := partsF c) ?_
    simp at h1 h2 h3 h4; unfold partsF; simp [h1, h2, h3]; intros; omega
  · refine i64_congr (y := partsF c) ?_
    simp at h1 h2 h3 h4 h6; unfold partsF; simp [h1, h2, h3, h4, h6]
  · refine i64_congr (y := partsF c) ?_
    simp at h1 h2 h3 h4 h6; unfold partsF; simp [h1, h2, h3, h4]; intros; omega
  · refine i64_congr (y := partsF c) ?_
    simp at h1 h2 h3 h4 h5 h6; unfold partsF; simp [h1, h2, h3, h4, h5, h6]
  · refine i64_congr (y := partsF c) ?_
    simp at h1 h2 h3 h4 h5 h6; unfold partsF; simp [h1, h2, h3, h4, h5]; intros; omega
  · refine i64_congr (y := partsF c) ?_
    simp at h1 h2 h3 h4 h5; unfold partsF; simp [h1, h2, h3, h4, h5]
end SX
end Go.Proofs.YthkedcneehdinaaGreatDoor

/- Conditions: Right. -/
set_option linter.unusedVariables false
set_option maxRecDepth 100000
namespace Go.Proofs.YthkedcneehdinaaGreatDoor
namespace SX
open Go Go.Proofs
theorem b_congr {x y : Bool} (h : x = y) : SV.b x = SV.b y := congrArg SV.b h
theorem right_false {cs : List Cn} (h : ¬ rightP cs) : rightB cs = false := by unfold rightB; simp [h]
theorem right_true {cs : List Cn} (h : rightP cs) : rightB cs = true := by unfold rightB; simp [h]
theorem right_len {cs : List Cn} (h1 : (decide ((cs.length : Int) < 1) || decide ((32 : Int) < cs.length)) = true) : rightB cs = false := by
  refine right_false fun h => ?_
  have h2 := h.1
  simp at h1
  omega
theorem right_bad {cs : List Cn} {i : Nat} (hi : i < cs.length) (h : partsF (cs.getD i cn0) < 0 ∨ nAt cs i < partsF (cs.getD i cn0)) : rightB cs = false := by
  refine right_false fun hr => ?_
  have := hr.2.1 i hi
  omega
theorem right_end {cs : List Cn} (h0 : 1 ≤ cs.length ∧ cs.length ≤ 32) (hk : okAt cs cs.length) : decide (nAt cs cs.length = 1) = rightB cs := by
  unfold rightB rightP
  rw [Bool.eq_iff_iff]
  simp only [decide_eq_true_eq]
  exact ⟨fun h => ⟨h0, hk, h⟩, fun h => h.2.2⟩
theorem right_ok (cs : List Cn) (a : Option Addr) (cap : Nat) : CtrV Tryz.prog 34 [.imm Cn cn0 5 cenc cs a cap] (.b (rightB cs)) := by
  refine Ctr.enterV tabOkF (fn := Tryz.f34) rfl rfl rfl rfl rfl rfl ?_
  refine ⟨fun h1 => b_congr (right_len h1).symm, fun h1 => ?_⟩
  have hl : 1 ≤ cs.length ∧ cs.length ≤ 32 := by
    have h1 : (decide ((cs.length : Int) < 1) || decide ((32 : Int) < cs.length)) = false := h1
    simp at h1; omega
  refine WpC.loop tabOkF (β := Nat) (fun i => i ≤ cs.length ∧ okAt cs i) (fun i => [(17, .i .i64 i), (3, .i .i64 (nAt cs i))]) (fun _ => []) (fun i => cs.length - i) 0 34359607404 ⟨Nat.zero_le _, fun j hj => by omega⟩ ?_ ?_
  · exact ⟨rfl, ⟨⟨rfl, rfl, rfl⟩, ⟨rfl, rfl, rfl⟩, trivial⟩, ⟨[], rfl⟩, trivial, rfl⟩
  · rintro i ⟨hi, ho⟩
    have hb := nAt_bd ho
    have hp := partsF_le (cs.getD i cn0)
    refine ⟨fun h2 => ?_, fun h2 => ?_⟩
    · have h2 : i < cs.length := by simpa using h2
      refine ⟨fun _ => ⟨by omega, by omega⟩, ?_⟩
      refine OpC.callV rfl rfl rfl rfl rfl rfl rfl (fun _ => parts_ok (cs.getD i cn0)) ?_
      refine ⟨fun h3 => ?_, fun h3 => ?_⟩
      · refine b_congr (right_bad h2 ?_).symm
        have h3 : (decide (partsF (cs.getD i cn0) < 0) || decide (nAt cs i < partsF (cs.getD i cn0))) = true := h3
        simpa only [Bool.or_eq_true, decide_eq_true_eq] using h3
      · have h3 : (decide (partsF (cs.getD i cn0) < 0) || decide (nAt cs i < partsF (cs.getD i cn0))) = false := h3
        simp only [Bool.or_eq_false_iff, decide_eq_false_iff_not] at h3
        refine ⟨i + 1, ⟨h2, okAt_succ ho (by omega) (by omega)⟩, by omega, rfl, ⟨⟨?_, rfl, rfl⟩, ⟨?_, rfl, rfl⟩, trivial⟩, ⟨_, rfl⟩, trivial, rfl⟩
        · show SV.i .i64 (IntKind.i64.wrap ((i : Int) + 1)) = SV.i .i64 ((i + 1 : Nat) : Int)
          rw [wrap64 (by omega) (by omega)]; rfl
        · show SV.i .i64 (IntKind.i64.wrap (nAt cs i + IntKind.i64.wrap (1 - partsF (cs.getD i cn0)))) = SV.i .i64 (nAt cs i + (1 - partsF (cs.getD i cn0)))
          rw [wrap64 (x := 1 - partsF (cs.getD i cn0)) (by omega) (by omega), wrap64 (by omega) (by omega)]
    · have h2 : i = cs.length := by simp at h2; omega
      subst h2
      exact b_congr (right_end hl ho)
theorem decide_cn (x y : Cn) : (decide (x.k = y.k) && (decide (x.t = y.t) && (decide (x.r = y.r) && (decide (x.l = y.l) && decide (x.v = y.v))))) = decide (x = y) := by
  rw [Bool.eq_iff_iff]
  cases x; cases y
  simp
theorem conds_ok (xs ys : List Cn) (a : Option Addr) (cap : Nat) (a' : Option Addr) (cap' : Nat) (hlen : (xs.length : Int) < 9223372036854775807) : CtrV Tryz.prog 32 [.imm Cn cn0 5 cenc xs a cap, .imm Cn cn0 5 cenc ys a' cap'] (.b (decide (xs = ys))) := by
  refine Ctr.enterV tabOkF (fn := Tryz.f32) rfl rfl rfl rfl rfl rfl ?_
  refine ⟨fun h1 => b_congr ?_, fun h1 => ?_⟩
  · have h1 : ¬ (xs.length : Int) = ys.length := by simpa using h1
    exact (decide_eq_false fun e => h1 (by rw [e])).symm
  have hl : xs.length = ys.length := by
    have h1 : (xs.length : Int) = ys.length := by simpa using h1
    omega
  refine WpC.loop tabOkF (β := Nat) (fun i => i ≤ xs.length ∧ ∀ j, j < i → xs.getD j cn0 = ys.getD j cn0) (fun i => [(5, .i .i64 i)]) (fun _ => []) (fun i => xs.length - i) 0 67106864 ⟨Nat.zero_le _, fun j hj => by omega⟩ ?_ ?_
  · exact ⟨rfl, ⟨⟨rfl, rfl, rfl⟩, trivial⟩, ⟨[], rfl⟩, trivial, rfl⟩
  · rintro i ⟨hi, ho⟩
    refine ⟨fun h2 => ?_, fun h2 => ?_⟩
    · have h2 : i < xs.length := by simpa using h2
      refine WpC.dr tabOkF mixed 0 ?_
      refine ⟨fun _ => ⟨by omega, by omega⟩, ?_⟩
      refine ⟨fun _ => ⟨by omega, by omega⟩, ?_⟩
      refine ⟨by kernel_rfl, ?_⟩
      refine ⟨fun h3 => ?_, fun h3 => ?_⟩
      · have h3 : (!(decide ((xs.getD i cn0).k = (ys.getD i cn0).k) && (decide ((xs.getD i cn0).t = (ys.getD i cn0).t) && (decide ((xs.getD i cn0).r = (ys.getD i cn0).r) && (decide ((xs.getD i cn0).l = (ys.getD i cn0).l) && decide ((xs.getD i cn0).v = (ys.getD i cn0).v)))))) = true := h3
        rw [decide_cn] at h3
        refine b_congr (decide_eq_false fun e => ?_).symm
        simp [e] at h3
      · have h3 : (!(decide ((xs.getD i cn0).k = (ys.getD i cn0).k) && (decide ((xs.getD i cn0).t = (ys.getD i cn0).t) && (decide ((xs.getD i cn0).r = (ys.getD i cn0).r) && (decide ((xs.getD i cn0).l = (ys.getD i cn0).l) && decide ((xs.getD i cn0).v = (ys.getD i cn0).v)))))) = false := h3
        rw [decide_cn] at h3
        have h4 : xs.getD i cn0 = ys.getD i cn0 := by simpa only [Bool.not_eq_false', decide_eq_true_eq] using h3
        refine ⟨i + 1, ⟨h2, fun j hj => ?_⟩, by omega, rfl, ⟨⟨?_, rfl, rfl⟩, trivial⟩, ⟨_, rfl⟩, trivial, rfl⟩
        · rcases Nat.lt_succ_iff_lt_or_eq.1 hj with hj | rfl
          · exact ho j hj
          · exact h4
        · show SV.i .i64 (IntKind.i64.wrap ((i : Int) + 1)) = SV.i .i64 ((i + 1 : Nat) : Int)
          rw [wrap64 (by omega) (by omega)]; rfl
    · have h2 : i = xs.length := by simp at h2; omega
      subst h2
      refine b_congr (decide_eq_true ?_).symm
      apply List.ext_getElem hl
      intro j h5 h6
      have := ho j h5
      simpa [List.getD_eq_getElem?_getD, List.getElem?_eq_getElem h5, List.getElem?_eq_getElem h6] using this
end SX
end Go.Proofs.YthkedcneehdinaaGreatDoor

/- Conditions: what a node says, the closure of Eval, fold. -/
set_option linter.unusedVariables false
set_option maxRecDepth 100000
namespace Go.Proofs.YthkedcneehdinaaGreatDoor
namespace SX
open Go Go.Proofs
section
variable {P : Program} {T : Tb}
/-- A function that hands back a value, and leaves what it is lent as it was. -/
theorem Ctr.enterG (hT : TabOk P T) {f : FuncId} {fn : Func} {c : Code} {n : Nat} (hf : P.funcs[f]? = some fn) (hb : fn.body = some c) (hn : fn.ntmps = n) (hnm : (fn.name == "runtime.NumGoroutine") = false) {args : List SV} {H : List SB} {r : SV}
    (hl : Nat.ble args.length n = true) (hr : Bnd H.length r) (hH : BndH H.length H) (h : sx P T c (retK T fn.results.toList (fun r' h => r' = r ∧ ∃ X, h = H ++ X)) ⟨args ++ List.replicate (n - args.length) .dead, H⟩) : Ctr P f args H (fun r' h => r' = r ∧ h = H) := by
  have h1 := Ctr.enter hT hf hb hn hnm hl h
  exact h1.trim callX_m fun r' H1 ⟨e, X, hX⟩ => ⟨H, X, hX, Nat.le_refl _, hH, by rw [e]; exact hr, e, rfl⟩
end
theorem parts_reg {c : Cn} (hp : 0 ≤ partsF c) (h : c.k = 1) : (c.t = 0 ∨ c.t = 1 ∨ c.t = 2) ∧ (c.r = 0 ∨ c.r = 1 ∨ c.r = 2 ∨ c.r = 3 ∨ c.r = 4 ∨ c.r = 5 ∨ c.r = 6 ∨ c.r = 7) := by
  unfold partsF at hp
  rw [if_pos h] at hp
  split at hp
  · omega
  · omega
theorem parts_loc {c : Cn} (hp : 0 ≤ partsF c) (h : c.k = 2) : c.l = 0 ∨ c.l = 1 ∨ c.l = 2 := by
  unfold partsF at hp
  rw [if_neg (by omega), if_pos h] at hp
  split at hp
  · omega
  · omega
theorem parts_not {c : Cn} (hp : 0 ≤ partsF c) (h : c.k = 3) : partsF c = 1 := by
  unfold partsF at hp ⊢
  rw [if_neg (by omega), if_neg (by omega), if_pos h] at *
  split at hp
  · rename_i h2; rw [if_pos h2]
  · omega
theorem parts_two {c : Cn} (hp : 0 ≤ partsF c) (h : c.k ≠ 1 ∧ c.k ≠ 2 ∧ c.k ≠ 3) : partsF c = 2 ∧ (c.k = 4 ∨ c.k = 5) := by
  unfold partsF at hp ⊢
  rw [if_neg h.1, if_neg h.2.1, if_neg h.2.2] at *
  split at hp
  · rename_i h1
    split at hp
    · rename_i h2; rw [if_pos h1, if_pos h2]; exact ⟨rfl, h1⟩
    · omega
  · omega
end SX
end Go.Proofs.YthkedcneehdinaaGreatDoor

/- SX: clear of a row's end; what is known of slices that stay. -/
set_option linter.unusedVariables false
set_option linter.unusedSimpArgs false
namespace Go.Proofs.YthkedcneehdinaaGreatDoor
namespace SX
open Go

section
variable {P : Program} {T : Tb} {ops : Array Oper} {o : Oper}
end
end SX
end Go.Proofs.YthkedcneehdinaaGreatDoor

/- SX: more of guarded operations in a drawn order; rows joined. -/
set_option linter.unusedVariables false
set_option linter.unusedSimpArgs false
namespace Go.Proofs.YthkedcneehdinaaGreatDoor
namespace SX
open Go
section
variable {P : Program} {T : Tb} {ops : Array Oper} {o : Oper}
end
end SX
end Go.Proofs.YthkedcneehdinaaGreatDoor

/- A run of the program, as a memo. Made by memo.py. -/
set_option maxRecDepth 100000
namespace Go.Proofs.YthkedcneehdinaaGreatDoor
namespace SX
open Go Go.Proofs
def CdXLang : Memo := ⟨37,
  [],
  [],
  (.ptr 1 1 0
  []),
  [(.mem 9 [(.s [82, 65, 88]), (.s [82, 66, 88]), (.s [82, 67, 88]), (.s [82, 68, 88]), (.s [82, 83, 73]), (.s [82, 68, 73]), (.s [82, 56]), (.s [82, 57])] 1 0), (.mem 102 [(.sl 0 1
  0 8 (.some 8) 0), (.s [36]), (.fn 80 []), (.fn 81 [])] 1
  0)]⟩
theorem CdXLang_ok : MemoOk Tryz.prog CdXLang := memo_of (tr := treeF) (ft := ftree) (ms := []) (n := 40) tabOkF ftOk mixed (by intro m hm; cases hm) (by decide +kernel)
end SX
end Go.Proofs.YthkedcneehdinaaGreatDoor

/- A run of the program, as a memo. Made by memo.py. -/
set_option maxRecDepth 100000
namespace Go.Proofs.YthkedcneehdinaaGreatDoor
namespace SX
open Go Go.Proofs
def CdRLang : Memo := ⟨49,
  [],
  [],
  (.ptr 1 1 0
  []),
  [(.mem 9 [(.s [97, 48]), (.s [97, 49]), (.s [97, 50]), (.s [97, 51]), (.s [97, 52]), (.s [97, 53]), (.s [97, 54]), (.s [97, 55])] 1 0), (.mem 102 [(.sl 0 1 0 8 (.some 8) 0), (.s
  []), (.fn 91 []), (.fn 92 [])] 1
  0)]⟩
theorem CdRLang_ok : MemoOk Tryz.prog CdRLang := memo_of (tr := treeF) (ft := ftree) (ms := []) (n := 40) tabOkF ftOk mixed (by intro m hm; cases hm) (by decide +kernel)
end SX
end Go.Proofs.YthkedcneehdinaaGreatDoor

/- A run of the program, as a memo. Made by memo.py. -/
set_option maxRecDepth 100000
namespace Go.Proofs.YthkedcneehdinaaGreatDoor
namespace SX
open Go Go.Proofs
def CdALang : Memo := ⟨55,
  [],
  [],
  (.ptr 1 1 0
  []),
  [(.mem 9 [(.s [88, 48]), (.s [88, 49]), (.s [88, 50]), (.s [88, 51]), (.s [88, 52]), (.s [88, 53]), (.s [88, 54]), (.s [88, 55])] 1 0), (.mem 102 [(.sl 0 1 0 8 (.some 8) 0), (.s
  [35]), (.fn 103 []), (.fn 104 [])] 1
  0)]⟩
theorem CdALang_ok : MemoOk Tryz.prog CdALang := memo_of (tr := treeF) (ft := ftree) (ms := []) (n := 40) tabOkF ftOk mixed (by intro m hm; cases hm) (by decide +kernel)
end SX
end Go.Proofs.YthkedcneehdinaaGreatDoor

/- Names of registers: the program's, the reference's. -/
set_option linter.unusedVariables false
set_option maxRecDepth 100000
namespace Go.Proofs.YthkedcneehdinaaGreatDoor
namespace SX
open Go Go.Proofs
/-- The registers' names of an architecture. -/
def regsL (a : Int) : List (List UInt8) :=
  if a = 1 then [[82, 65, 88], [82, 66, 88], [82, 67, 88], [82, 68, 88], [82, 83, 73], [82, 68, 73], [82, 56], [82, 57]]
  else if a = 2 then [[97, 48], [97, 49], [97, 50], [97, 51], [97, 52], [97, 53], [97, 54], [97, 55]]
  else if a = 3 then [[88, 48], [88, 49], [88, 50], [88, 51], [88, 52], [88, 53], [88, 54], [88, 55]]
  else []
def nameF (a n : Int) : List UInt8 := if 0 ≤ n ∧ n < 8 then (regsL a).getD n.toNat [] else []
def rowS (s0 s1 s2 s3 s4 s5 s6 s7 : List UInt8) : SB := .mem 9 [.s s0, .s s1, .s s2, .s s3, .s s4, .s s5, .s s6, .s s7] 1 0
def langB (h : List UInt8) (rd pr : Nat) : SB := .mem 102 [.sl 0 1 0 8 (some 8) 0, .s h, .fn rd [], .fn pr []] 1 0
theorem bndLang {s0 s1 s2 s3 s4 s5 s6 s7 h : List UInt8} {rd pr : Nat} : BndH 2 [rowS s0 s1 s2 s3 s4 s5 s6 s7, langB h rd pr] := ⟨⟨rfl, rfl, rfl, rfl, rfl, rfl, rfl, rfl, trivial⟩, ⟨rfl, rfl, rfl, rfl, trivial⟩, trivial⟩
theorem s_congr {x y : List UInt8} (h : x = y) : SV.s x = SV.s y := congrArg SV.s h
theorem cases8 {n : Int} (h0 : 0 ≤ n) (h8 : n < 8) : n = 0 ∨ n = 1 ∨ n = 2 ∨ n = 3 ∨ n = 4 ∨ n = 5 ∨ n = 6 ∨ n = 7 := by omega
theorem lname_ok (s0 s1 s2 s3 s4 s5 s6 s7 h : List UInt8) (rd pr : Nat) (n : Int) : Ctr Tryz.prog 53 [.ptr 1 1 0 [], .i .i64 n] [rowS s0 s1 s2 s3 s4 s5 s6 s7, langB h rd pr]
    (fun r h' => r = .s (if 0 ≤ n ∧ n < 8 then [s0, s1, s2, s3, s4, s5, s6, s7].getD n.toNat [] else []) ∧ h' = [rowS s0 s1 s2 s3 s4 s5 s6 s7, langB h rd pr]) := by
  refine Ctr.enterG tabOkF (fn := Tryz.f53) rfl rfl rfl rfl rfl rfl bndLang ?_
  refine ⟨fun h1 => ⟨s_congr ?_, _, rfl⟩, fun h1 => ?_⟩
  · have h1 : (decide (n < 0) || decide ((8 : Int) ≤ n)) = true := h1
    simp only [Bool.or_eq_true, decide_eq_true_eq] at h1
    rw [if_neg (by omega)]
  · have h1 : (decide (n < 0) || decide ((8 : Int) ≤ n)) = false := h1
    simp only [Bool.or_eq_false_iff, decide_eq_false_iff_not] at h1
    rw [if_pos (by omega)]
    rcases cases8 (n := n) (by omega) (by omega) with rfl | rfl | rfl | rfl | rfl | rfl | rfl | rfl
    all_goals exact ⟨fun _ => by decide, ⟨rfl, _, rfl⟩⟩
theorem x86_lang : Ctr Tryz.prog 37 [] [] (fun r h => r = .ptr 1 1 0 [] ∧ h = [rowS [82, 65, 88] [82, 66, 88] [82, 67, 88] [82, 68, 88] [82, 83, 73] [82, 68, 73] [82, 56] [82, 57], langB [36] 80 81]) := CdXLang_ok
theorem x86Name_ok (n : Int) : CtrV Tryz.prog 36 [.i .i64 n] (.s (nameF 1 n)) := by
  refine Ctr.enterV tabOkF (fn := Tryz.f36) rfl rfl rfl rfl rfl rfl ?_
  refine OpC.callL rfl rfl rfl rfl [] 2 rfl rfl rfl x86_lang rfl rfl rfl rfl trivial rfl (fun r H' hk => ?_) ?_
  · obtain ⟨rfl, rfl⟩ := hk; exact ⟨Nat.zero_le _, Nat.le_refl _⟩
  rintro r H' ⟨rfl, rfl⟩
  refine OpC.callG rfl rfl rfl rfl rfl rfl (fun _ => lname_ok [82, 65, 88] [82, 66, 88] [82, 67, 88] [82, 68, 88] [82, 83, 73] [82, 68, 73] [82, 56] [82, 57] [36] 80 81 n) ?_
  exact rfl
theorem riscv_lang : Ctr Tryz.prog 49 [] [] (fun r h => r = .ptr 1 1 0 [] ∧ h = [rowS [97, 48] [97, 49] [97, 50] [97, 51] [97, 52] [97, 53] [97, 54] [97, 55], langB [] 91 92]) := CdRLang_ok
theorem riscvName_ok (n : Int) : CtrV Tryz.prog 18 [.i .i64 n] (.s (nameF 2 n)) := by
  refine Ctr.enterV tabOkF (fn := Tryz.f18) rfl rfl rfl rfl rfl rfl ?_
  refine OpC.callL rfl rfl rfl rfl [] 2 rfl rfl rfl riscv_lang rfl rfl rfl rfl trivial rfl (fun r H' hk => ?_) ?_
  · obtain ⟨rfl, rfl⟩ := hk; exact ⟨Nat.zero_le _, Nat.le_refl _⟩
  rintro r H' ⟨rfl, rfl⟩
  refine OpC.callG rfl rfl rfl rfl rfl rfl (fun _ => lname_ok [97, 48] [97, 49] [97, 50] [97, 51] [97, 52] [97, 53] [97, 54] [97, 55] [] 91 92 n) ?_
  exact rfl
theorem arm_lang : Ctr Tryz.prog 55 [] [] (fun r h => r = .ptr 1 1 0 [] ∧ h = [rowS [88, 48] [88, 49] [88, 50] [88, 51] [88, 52] [88, 53] [88, 54] [88, 55], langB [35] 103 104]) := CdALang_ok
theorem armName_ok (n : Int) : CtrV Tryz.prog 27 [.i .i64 n] (.s (nameF 3 n)) := by
  refine Ctr.enterV tabOkF (fn := Tryz.f27) rfl rfl rfl rfl rfl rfl ?_
  refine OpC.callL rfl rfl rfl rfl [] 2 rfl rfl rfl arm_lang rfl rfl rfl rfl trivial rfl (fun r H' hk => ?_) ?_
  · obtain ⟨rfl, rfl⟩ := hk; exact ⟨Nat.zero_le _, Nat.le_refl _⟩
  rintro r H' ⟨rfl, rfl⟩
  refine OpC.callG rfl rfl rfl rfl rfl rfl (fun _ => lname_ok [88, 48] [88, 49] [88, 50] [88, 51] [88, 52] [88, 53] [88, 54] [88, 55] [35] 103 104 n) ?_
  exact rfl
/-- A location's name. -/
def locF (k : Int) : List UInt8 := [UInt8.ofNat (120 + k.toNat)]
theorem nameF_len (a n : Int) : (nameF a n).length ≤ 3 := by
  unfold nameF
  split
  · rename_i h
    unfold regsL
    split
    · rcases cases8 h.1 h.2 with rfl | rfl | rfl | rfl | rfl | rfl | rfl | rfl <;> decide
    · split
      · rcases cases8 h.1 h.2 with rfl | rfl | rfl | rfl | rfl | rfl | rfl | rfl <;> decide
      · split
        · rcases cases8 h.1 h.2 with rfl | rfl | rfl | rfl | rfl | rfl | rfl | rfl <;> decide
        · simp
  · simp
end SX
end Go.Proofs.YthkedcneehdinaaGreatDoor

/- Which of eight names. -/
namespace Go.Proofs.YthkedcneehdinaaGreatDoor
namespace SX
open Go Go.Proofs
def idxF (s0 s1 s2 s3 s4 s5 s6 s7 v : List UInt8) : Int := if v = s0 then 0 else if v = s1 then 1 else if v = s2 then 2 else if v = s3 then 3 else if v = s4 then 4 else if v = s5 then 5 else if v = s6 then 6 else if v = s7 then 7 else -1
end SX
end Go.Proofs.YthkedcneehdinaaGreatDoor

/- SX: rows: what was read is read again when no old block has changed. -/
set_option linter.unusedVariables false
set_option linter.unusedSimpArgs false
namespace Go.Proofs.YthkedcneehdinaaGreatDoor
namespace SX
open Go Go.ChangeShapes Go.WideShapes
theorem mapM_to {α β : Type} {f g : α → Option β} : ∀ {l : List α} {r : List β}, l.mapM f = some r → (∀ x ∈ l, ∀ y, f x = some y → g x = some y) → l.mapM g = some r
  | [], r, h, hr => by simpa using h
  | a :: as1, r, h, hr => by
    rw [List.mapM_cons] at h ⊢
    cases ha : f a with
    | none => simp [ha] at h
    | some b =>
      cases has : as1.mapM f with
      | none => simp [ha, has] at h
      | some bs =>
        simp [ha, has] at h
        subst h
        rw [hr a (by simp) b ha, mapM_to has fun x hx y hy => hr x (by simp [hx]) y hy]
        rfl
theorem mapM_at {α β : Type} {f : α → Option β} : ∀ {l : List α} {r : List β}, l.mapM f = some r → ∀ {x}, x ∈ l → ∃ y, f x = some y
  | [], r, h, x, hx => by simp at hx
  | a :: as1, r, h, x, hx => by
    rw [List.mapM_cons] at h
    cases ha : f a with
    | none => simp [ha] at h
    | some b =>
      cases has : as1.mapM f with
      | none => simp [ha, has] at h
      | some bs =>
        rcases List.mem_cons.1 hx with rfl | hx
        · exact ⟨b, ha⟩
        · exact mapM_at has hx
/-- No block of the first world has changed in the second one. -/
def Kept (w w' : World) : Prop := ∀ b, b < w.heap.size → w'.heap[b]? = w.heap[b]?
section
variable {H : Type} {enc : TypeId × Value → H} {P : Program} {w w' : World} {base : Nat} {sp sp' : Nat → Bool} {held : Bool}
theorem Kept.cell (hk : Kept w w') {a : Addr} {v : Value} (h : w.cell? a = some v) : w'.cell? a = some v := by
  have hb := World.block_lt_of_cell? w _ h
  have := hk a.block hb
  unfold World.cell? at h ⊢
  rw [this]
  exact h
theorem Kept.cells (hk : Kept w w') {a : Addr} {n : Nat} {cs : List Value} (h : w.cells? base a n = some cs) : w'.cells? base a n = some cs := by
  unfold World.cells? at h ⊢
  split at h
  · rename_i hb
    rw [if_pos hb]
    exact mapM_to h fun i _ y hy => hk.cell hy
  · cases h
/-- What a type is made of is among these types; the elements of slices have cells. -/
def CompsOk (P : Program) (S : TypeId → Prop) (t : TypeId) : Prop := match P.underlying t with
  | some (.pointer e) => S e
  | some (.slice e) => S e ∧ 0 < P.cellsOf e
  | some (.struct fs) => ∀ f ∈ fs.toList, S f.type
  | some (.array _ e) => S e
  | some (.map _ e) => S e
  | _ => True
def compsB (P : Program) (n : Nat) (t : TypeId) : Bool := match P.underlying t with
  | some (.pointer e) => Nat.blt e n
  | some (.slice e) => Nat.blt e n && Nat.blt 0 (P.cellsOf e)
  | some (.struct fs) => fs.toList.all fun f => Nat.blt f.type n
  | some (.array _ e) => Nat.blt e n
  | some (.map _ e) => Nat.blt e n
  | _ => true
theorem compsOk_of {P : Program} {n : Nat} (h : ((List.range n).all (compsB P n)) = true) : ∀ t, t < n → CompsOk P (· < n) t := by
  intro t ht
  have := List.all_eq_true.1 h t (List.mem_range.2 ht)
  unfold compsB at this
  unfold CompsOk
  split <;> rename_i hu <;> first | trivial | (rw [hu] at this; simp only at this)
  · exact Nat.le_of_ble_eq_true this
  · rw [Bool.and_eq_true] at this
    exact ⟨Nat.le_of_ble_eq_true this.1, Nat.le_of_ble_eq_true this.2⟩
  · intro f hf
    exact Nat.le_of_ble_eq_true (List.all_eq_true.1 this f hf)
  · exact Nat.le_of_ble_eq_true this
  · exact Nat.le_of_ble_eq_true this
theorem trodStep_grow {S : TypeId → Prop} {r r' : TypeId → List Value → Option (DataW H × List MemPlace)} (hk : Kept w w') (hsp : ∀ b, b < w.heap.size → sp' b = true) (hz : ∀ t, S t → CompsOk P S t)
    (hr : ∀ t, S t → ∀ cs x, r t cs = some x → r' t cs = some x) {t : TypeId} (hS : S t) {cs : List Value} {x : DataW H × List MemPlace}
    (h : DataW.trodStep enc P w base (fun _ => true) true r t cs = some x) : DataW.trodStep enc P w' base sp' true r' t cs = some x := by
  have hcp := hz t hS
  unfold CompsOk at hcp
  unfold DataW.trodStep at h ⊢
  split at h
  case h_1 => exact h
  case h_2 => exact h
  case h_3 => exact h
  case h_4 => exact h
  case h_5 => exact h
  case h_6 e a ht =>
    rw [ht] at hcp
    simp only [Option.map_eq_some_iff, Option.bind_eq_some_iff] at h ⊢
    obtain ⟨y, ⟨cs', hc, hy⟩, rfl⟩ := h
    exact ⟨y, ⟨cs', hk.cells hc, hr _ hcp _ _ hy⟩, rfl⟩
  case h_7 => exact h
  case h_8 e a len cap ht =>
    rw [ht] at hcp
    simp only at h ⊢
    split at h
    · rename_i hc
      rw [if_pos hc]
      simp only [Option.map_eq_some_iff, Option.bind_eq_some_iff] at h ⊢
      obtain ⟨elems, he, rest, hrest, rfl⟩ := h
      have one : ∀ i y, (w.cells? base (a.add (i * P.cellsOf e)) (P.cellsOf e)).bind (r e) = some y → (w'.cells? base (a.add (i * P.cellsOf e)) (P.cellsOf e)).bind (r' e) = some y := fun i y hy => by
        simp only [Option.bind_eq_some_iff] at hy ⊢
        obtain ⟨cs', hc', hy'⟩ := hy
        exact ⟨cs', hk.cells hc', hr _ hcp.1 _ _ hy'⟩
      refine ⟨elems, mapM_to he fun i _ y hy => one i y hy, rest, ?_, rfl⟩
      by_cases hcap : cap - len = 0
      · rw [hcap] at hrest ⊢
        simp only [List.range_zero, List.mapM_nil] at hrest ⊢
        revert hrest
        cases sp' a.block <;> simp
      · rw [if_pos trivial] at hrest
        obtain ⟨y, hy⟩ := mapM_at hrest (List.mem_range.2 (Nat.pos_of_ne_zero hcap))
        simp only [Option.bind_eq_some_iff] at hy
        obtain ⟨cs', hc', _⟩ := hy
        have hb : (a.add ((len + 0) * P.cellsOf e)).block < w.heap.size := World.cells?_block hc' hcp.2
        have hb : a.block < w.heap.size := by
          have e1 : (a.add ((len + 0) * P.cellsOf e)).block = a.block := by unfold Addr.add; split <;> rfl
          rw [← e1]; exact hb
        rw [if_pos (hsp _ hb)]
        exact mapM_to hrest fun i _ y hy => one _ y hy
    · cases h
  case h_9 fs ht =>
    rw [ht] at hcp
    split at h
    · rename_i hc
      rw [if_pos hc]
      simp only [Option.map_eq_some_iff] at h ⊢
      obtain ⟨xs, hx, rfl⟩ := h
      exact ⟨xs, mapM_to hx fun f hf y hy => hr _ (hcp f hf) _ _ hy, rfl⟩
    · cases h
  case h_10 n e ht =>
    rw [ht] at hcp
    split at h
    · rename_i hc
      rw [if_pos hc]
      simp only [Option.map_eq_some_iff] at h ⊢
      obtain ⟨xs, hx, rfl⟩ := h
      exact ⟨xs, mapM_to hx fun f _ y hy => hr _ hcp _ _ hy, rfl⟩
    · cases h
  case h_11 => exact h
  case h_12 => exact h
  case h_13 => exact h
  case h_14 k e b ht =>
    rw [ht] at hcp
    split at h
    · rename_i es clock hb
      have hlt : b < w.heap.size := by
        rcases Nat.lt_or_ge b w.heap.size with h1 | h1
        · exact h1
        · rw [Array.getElem?_eq_none h1] at hb; cases hb
      have hb' : w'.heap[b]? = some (.map es clock) := by rw [hk b hlt]; exact hb
      rw [hb']
      simp only
      split at h
      · rename_i hc
        rw [if_pos hc]
        simp only [Option.bind_eq_some_iff] at h ⊢
        obtain ⟨entries, he, hd⟩ := h
        refine ⟨entries, mapM_to he fun x _ y hy => ?_, hd⟩
        simp only [Option.bind_eq_some_iff] at hy ⊢
        obtain ⟨key, hk, hz⟩ := hy
        refine ⟨key, hk, ?_⟩
        split at hz
        · rename_i hf
          rw [if_pos hf]
          simp only [Option.map_eq_some_iff] at hz ⊢
          obtain ⟨q, hq, rfl⟩ := hz
          exact ⟨q, hr _ hcp _ _ hq, rfl⟩
        · cases hz
      · cases h
    · cases h
  all_goals exact h
variable {S : TypeId → Prop} (hk : Kept w w') (hz : ∀ t, S t → CompsOk P S t)
include hk hz
theorem trod_grow (hsp : ∀ b, b < w.heap.size → sp' b = true) : ∀ (n : Nat) (t : TypeId), S t → ∀ (cs : List Value) (x : DataW H × List MemPlace), DataW.trod enc P w base (fun _ => true) true n t cs = some x → DataW.trod enc P w' base sp' true n t cs = some x := by
  intro n
  induction n with
  | zero => intro t _ cs x h; simp [DataW.trod] at h
  | succ n ih =>
    intro t hS cs x h
    rw [DataW.trod_step] at h ⊢
    exact trodStep_grow hk hsp hz ih hS h
theorem trodAll_grow (hsp : ∀ b, b < w.heap.size → sp' b = true) : ∀ {ts : List TypeId} {vs : List Value} {ds : List (DataW H)} {ps : List MemPlace}, (∀ t ∈ ts, S t) →
    DataW.TrodAll enc P w base (fun _ => true) true ts vs ds ps → DataW.TrodAll enc P w' base sp' true ts vs ds ps
  | [], [], [], _, _, h => h
  | _ :: _, _ :: _, _ :: _, _, hS, ⟨p, q, ⟨n, h⟩, hs, e⟩ => ⟨p, q, ⟨n, trod_grow hk hz hsp n _ (hS _ (List.mem_cons_self ..)) _ _ h⟩, trodAll_grow hsp (fun t ht => hS t (List.mem_cons_of_mem _ ht)) hs, e⟩
theorem trodVars_grow (hsp : ∀ b, b < w.heap.size → sp' b = true) (hv : ∀ n cs, w.var? P n = some cs → w'.var? P n = some cs) : ∀ {ns : List String} {ds : List (DataW H)} {ps : List MemPlace}, (∀ n ∈ ns, ∀ g t, P.globalNamed n = some g → (P.globals[g]?).map (·.type) = some t → S t) →
    DataW.TrodVars enc P w (fun _ => true) ns ds ps → DataW.TrodVars enc P w' sp' ns ds ps
  | [], [], _, _, h => h
  | n :: _, _ :: _, _, hS, ⟨g, t, cs, fuel, p, q, h1, h2, h3, h4, hs, e⟩ =>
    ⟨g, t, cs, fuel, p, q, h1, h2, hv _ _ h3, trod_grow hk hz hsp _ _ (hS n (List.mem_cons_self ..) g t h1 h2) _ _ h4, trodVars_grow hsp hv (fun n hn => hS n (List.mem_cons_of_mem _ hn)) hs, e⟩
omit hz in
theorem Kept.var {n : String} {cs : Array Value} (h : w.var? P n = some cs) : w'.var? P n = some cs := by
  unfold World.var? at h ⊢
  cases hg : P.globalNamed n with
  | none => rw [hg] at h; cases h
  | some g =>
    rw [hg] at h
    simp only [Option.bind_some] at h ⊢
    rcases Nat.lt_or_ge g w.heap.size with h1 | h1
    · rw [hk g h1]; exact h
    · rw [Array.getElem?_eq_none h1] at h; cases h
omit hz in
theorem Kept.noneFrozen {ps : List MemPlace} (hl : ∀ p ∈ ps, p.block < w.heap.size) (h : w.noneFrozen ps) : w'.noneFrozen ps := by
  intro b off hp
  have h1 := h b off hp
  have h2 := hl _ hp
  unfold World.frozen? at h1 ⊢
  rw [hk b h2]
  exact h1
/-- A law that keeps all old memory: what it hands back is what the row wants. -/
theorem post_kept {f : Func} {s : ChangeSpec} {apart fresh handsOn again : Bool} {args : Array Value} {v : Value} {ds gs : List (DataW H)} {before : List MemPlace} {res : List (DataW H)}
    (hS : ∀ t ∈ f.params.toList, S t) (hSv : ∀ n ∈ s.vars, ∀ g t, P.globalNamed n = some g → (P.globals[g]?).map (·.type) = some t → S t)
    (hW : DataW.Whole enc P f.params.toList s.vars apart w args.toList ds gs before) (hos : w'.os = w.os) (hout : w'.output = w.output)
    (hr : (s.fn H (ds ++ gs)).results = res) (ha : (s.fn H (ds ++ gs)).args = ds) (hvv : (s.fn H (ds ++ gs)).vars = gs)
    (hres : ∀ (b : Nat) (sp : Nat → Bool) (hd : Bool), DataW.TrodAll enc P w' b sp hd f.resultTypes.toList (v.resultList f.resultTypes.size) res [])
    (hok : ∀ (j : Nat) (t : TypeId) (r : Value), f.resultTypes[j]? = some t → (v.resultList f.resultTypes.size)[j]? = some r → Value.okWide P w' .any 0 t r) :
    s.post enc P f apart fresh handsOn again w args v w' := by
  have hlt := hW.lt
  have hW0 := hW
  obtain ⟨p, q, h1, h2, rfl, h4, h5⟩ := hW
  have hsp : ∀ b, b < w.heap.size → (fun b => decide (b < w.heap.size)) b = true := fun b hb => by simpa using hb
  refine ⟨ds, gs, p ++ q, [], p, q, hW0, by rw [hr]; exact hres _ _ _, by rw [ha]; exact trodAll_grow hk hz hsp hS h1, by rw [hvv]; exact trodVars_grow hk hz hsp (fun n cs => hk.var) hSv h2, ⟨hos, hout, fun i hi => ?_⟩, fun _ => ⟨hok, _, _, ([] ++ p) ++ q, ⟨[] ++ p, q, trodAll_append (trodAll_grow hk hz (fun _ _ => rfl) hS h1) (hres _ _ _), trodVars_grow hk hz (fun _ _ => rfl) (fun n cs => hk.var) hSv h2, rfl, ?_, ?_⟩, ?_⟩⟩
  · rw [hk i hi]
    cases w.heap[i]? with
    | none => rfl
    | some o => cases o <;> simp
  · simpa using hk.noneFrozen hlt h4
  · simpa using h5
  · intro p hp _
    simpa using hp
end
end SX
end Go.Proofs.YthkedcneehdinaaGreatDoor

/- SX: rows: from a contract to the law's call. -/
set_option linter.unusedVariables false
set_option linter.unusedSimpArgs false
namespace Go.Proofs.YthkedcneehdinaaGreatDoor
namespace SX
open Go Go.ChangeShapes Go.WideShapes Go.Deep
section
variable {P : Program}
/-- A contract, as a call. -/
theorem Ctr.calls {f : FuncId} {fn : Func} {c : Code} (hf : P.funcs[f]? = some fn) (hb : fn.body = some c) (hnm : (fn.name == "runtime.NumGoroutine") = false) {args : List SV} {H : List SB} {K : SV → List SB → Prop} (h : Ctr P f args H K)
    {C : Fr} {E : Env} {m : Mem} {w : World} (hr : Rel E C m H w) (ho : OkA m (vers H) args) :
    Calls P f (denL E args).toArray w (fun e w' => ∃ v, e = .returned v ∧ ∃ r H' E' m', v = den E' r ∧ K r H' ∧ (Ok m' (vers H') r ∧ live r = true) ∧ Ext E m (vers H) E' m' (vers H') ∧ Rel E' C m' H' w') := by
  have h1 := h.out C E m w hr ho
  have hrun : (callFunc f (denL E args).toArray).run P w = .ok (.enter f (denL E args).toArray) w := by
    have h1 : fn.name ≠ "runtime.NumGoroutine" := by simpa using hnm
    simp [callFunc, hf, h1, hb]
  unfold callX at h1
  rw [hrun] at h1
  exact h1
/-- The blocks that the arguments lean on, and the rest. -/
def memOf (w : World) (S : Nat → Bool) : Mem := fun b => if S b then w.heap[b]? else none
def frOf (w : World) (S : Nat → Bool) : Fr := ⟨w.os, w.tape, w.output, fun b => if S b then none else w.heap[b]?, w.drawn⟩
/-- The tables lie in the world. -/
def TabsIn (w : World) : Prop := TbOk fun b => w.heap[b]?
def isTab (b : Nat) : Bool := (tabs b).isSome
theorem TabsIn.mem {w : World} (hT : TabsIn w) {S : Nat → Bool} (hS : ∀ b, isTab b = true → S b = true) : TbOk (memOf w S) := fun g v hg => by
  have := hT g v hg
  have hs : S g = true := hS g (by simp [isTab, hg])
  cases v with
  | ints k zs => obtain ⟨t, fr, h1⟩ := this; exact ⟨t, fr, by unfold memOf; rw [hs]; exact h1⟩
  | ifc => obtain ⟨tt, v, t, fr, h1⟩ := this; exact ⟨tt, v, t, fr, by unfold memOf; rw [hs]; exact h1⟩
  | anyI k => obtain ⟨n, arr, t, fr, h1, h2⟩ := this; exact ⟨n, arr, t, fr, by unfold memOf; rw [hs]; exact h1, h2⟩
theorem memOf_mono {w : World} {S S' : Nat → Bool} (h : ∀ b, S b = true → S' b = true) : ∀ b o, memOf w S b = some o → memOf w S' b = some o := fun b o hb => by
  unfold memOf at hb ⊢
  split at hb
  · rename_i hs; rw [if_pos (h b hs)]; exact hb
  · cases hb
theorem rel_of (w : World) (S : Nat → Bool) (E : Env) (hT : TabsIn w) (hS : ∀ b, isTab b = true → S b = true) : Rel E (frOf w S) (memOf w S) [] w := {
  os := rfl
  tape := rfl
  output := ⟨rfl, DrOk.refl _⟩
  im := fun b o h => by
    unfold memOf at h
    split at h
    · exact h
    · cases h
  fr := fun b o h => by
    simp only [frOf] at h
    split at h
    · cases h
    · exact h
  mf := ⟨fun b o h => by
    simp only [frOf] at h
    unfold memOf
    split at h
    · cases h
    · rename_i hs; rw [if_neg hs], hT.mem hS⟩
  bl := fun k B h => by simp at h
  nn := fun k v h hv => by
    exfalso
    unfold Vle at h
    simp [vers] at h
  sp := fun k b ⟨B, h, _⟩ => by simp at h
  inj := fun j k b ⟨B, h, _⟩ => by simp at h }
theorem Rel.keptOf {w w' : World} {S : Nat → Bool} {E : Env} {m : Mem} {H : List SB} (hm : ∀ b o, memOf w S b = some o → m b = some o) (h : Rel E (frOf w S) m H w') : Kept w w' ∧ w'.os = w.os ∧ w'.output = w.output := by
  refine ⟨fun b hb => ?_, h.os, h.output.1⟩
  have hg : w.heap[b]? = some w.heap[b] := Array.getElem?_eq_getElem hb
  cases hs : S b with
  | true =>
    have := h.im b _ (hm b w.heap[b] (by unfold memOf; rw [hs]; exact hg))
    rw [this, hg]
  | false =>
    have := h.fr b w.heap[b] (by simp only [frOf, hs]; exact hg)
    rw [this, hg]
/-- A law whose arguments lean on memory that it only reads. -/
theorem law_callsM {f : FuncId} {fn : Func} {c : Code} (hf : P.funcs[f]? = some fn) (hb : fn.body = some c) (hnm : (fn.name == "runtime.NumGoroutine") = false) {args : List SV} (h : CtrV P f args (.b true))
    (w : World) (hT : TabsIn w) (S : Nat → Bool) (ho : OkA (memOf w S) [] args) {vs : Array Value} (hvs : vs = (denL (fun _ _ => none) args).toArray) :
    Calls P f vs w (fun e w' => e = .returned (.bool true) ∧ Kept w w' ∧ w'.os = w.os ∧ w'.output = w.output) := by
  subst hvs
  refine (h.calls hf hb hnm (rel_of w (fun b => S b || isTab b) _ hT (fun b h => by simp [h])) (OkA.mono (memOf_mono fun b h => by simp [h]) _ _ _ (fun _ _ h => h) ho)).mono fun e w' he => ?_
  obtain ⟨v, rfl, r, H', E', m', rfl, ⟨rfl, rfl⟩, _, hx, hrel⟩ := he
  exact ⟨rfl, hrel.keptOf hx.mm⟩
end
section
variable {H : Type} {enc : TypeId × Value → H} {P : Program} {w : World} {base : Nat} {spare : Nat → Bool} {held : Bool}
end
end SX
end Go.Proofs.YthkedcneehdinaaGreatDoor

/- The laying of a contract of the shelf at this program. -/
set_option maxRecDepth 100000
namespace Go.Proofs
open Go.Shelf
def Tryz.Itoa_ren : Go.Shelf.Ren := ⟨fun | 171 => 76 | 243 => 130 | 246 => 192 | 283 => 223 | 284 => 224 | 285 => 225 | 286 => 226 | 129 => 246 | 317 => 248 | 318 => 249 | 319 => 250 | 320 => 251 | 337 => 261 | 338 => 262 | n => n, fun | 3 => 3 | 9 => 9 | 2 => 2 | 4 => 4 | 171 => 224 | 0 => 0 | 53 => 125 | 37 => 182 | 5 => 5 | 173 => 227 | 212 => 259 | 51 => 207 | 20 => 20 | 213 => 260 | 46 => 176 | 232 => 277 | 233 => 278 | n => n, fun | 17 => 5 | 18 => 6 | 19 => 7 | n => n⟩
theorem Tryz.Itoa : Go.Proofs.LaysM.n171 Tryz.prog Tryz.Itoa_ren := {
  mixed := by kernel_rfl
  f129 := Tryz.func246.trans (congrArg some (by kernel_rfl))
  f171 := Tryz.func76.trans (congrArg some (by kernel_rfl))
  f243 := Tryz.func130.trans (congrArg some (by kernel_rfl))
  f246 := Tryz.func192.trans (congrArg some (by kernel_rfl))
  f283 := Tryz.func223.trans (congrArg some (by kernel_rfl))
  f284 := Tryz.func224.trans (congrArg some (by kernel_rfl))
  f285 := Tryz.func225.trans (congrArg some (by kernel_rfl))
  f286 := Tryz.func226.trans (congrArg some (by kernel_rfl))
  f317 := Tryz.func248.trans (congrArg some (by kernel_rfl))
  f318 := Tryz.func249.trans (congrArg some (by kernel_rfl))
  f319 := Tryz.func250.trans (congrArg some (by kernel_rfl))
  f320 := Tryz.func251.trans (congrArg some (by kernel_rfl))
  f337 := Tryz.func261.trans (congrArg some (by kernel_rfl))
  f338 := Tryz.func262.trans (congrArg some (by kernel_rfl))
  t0 := Tryz.underlying0
  a0 := Tryz.isAgg0
  z0 := Tryz.sizeOf0
  v0 := Tryz.zeroValue0
  t2 := Tryz.underlying2
  a2 := Tryz.isAgg2
  z2 := Tryz.sizeOf2
  v2 := Tryz.zeroValue2
  t3 := Tryz.underlying3
  a3 := Tryz.isAgg3
  z3 := Tryz.sizeOf3
  v3 := Tryz.zeroValue3
  t4 := Tryz.underlying4
  a4 := Tryz.isAgg4
  z4 := Tryz.sizeOf4
  v4 := Tryz.zeroValue4
  t5 := Tryz.underlying5
  a5 := Tryz.isAgg5
  z5 := Tryz.sizeOf5
  v5 := Tryz.zeroValue5
  t9 := Tryz.underlying9
  a9 := Tryz.isAgg9
  z9 := Tryz.sizeOf9
  v9 := Tryz.zeroValue9
  t20 := Tryz.underlying20
  a20 := Tryz.isAgg20
  z20 := Tryz.sizeOf20
  v20 := Tryz.zeroValue20
  t37 := Tryz.underlying182
  a37 := Tryz.isAgg182
  z37 := Tryz.sizeOf182
  v37 := Tryz.zeroValue182
  t46 := Tryz.underlying176
  a46 := Tryz.isAgg176
  z46 := Tryz.sizeOf176
  v46 := Tryz.zeroValue176
  t51 := Tryz.underlying207
  a51 := Tryz.isAgg207
  z51 := Tryz.sizeOf207
  v51 := Tryz.zeroValue207
  t53 := Tryz.underlying125
  a53 := Tryz.isAgg125
  z53 := Tryz.sizeOf125
  v53 := Tryz.zeroValue125
  t171 := Tryz.underlying224
  a171 := Tryz.isAgg224
  z171 := Tryz.sizeOf224
  v171 := Tryz.zeroValue224
  t173 := Tryz.underlying227
  a173 := Tryz.isAgg227
  z173 := Tryz.sizeOf227
  v173 := Tryz.zeroValue227
  t212 := Tryz.underlying259
  a212 := Tryz.isAgg259
  z212 := Tryz.sizeOf259
  v212 := Tryz.zeroValue259
  t213 := Tryz.underlying260
  a213 := Tryz.isAgg260
  z213 := Tryz.sizeOf260
  t232 := Tryz.underlying277
  a232 := Tryz.isAgg277
  z232 := Tryz.sizeOf277
  v232 := Tryz.zeroValue277
  t233 := Tryz.underlying278
  a233 := Tryz.isAgg278
  z233 := Tryz.sizeOf278
  v233 := Tryz.zeroValue278
  g17 := by kernel_rfl
  g18 := by kernel_rfl
  g19 := by kernel_rfl
  i0 := by kernel_rfl
  i2 := by kernel_rfl
  i3 := by kernel_rfl
  i4 := by kernel_rfl
  i5 := by kernel_rfl
  i9 := by kernel_rfl
  i20 := by kernel_rfl
  i37 := by kernel_rfl
  i46 := by kernel_rfl
  i51 := by kernel_rfl
  i53 := by kernel_rfl
  i171 := by kernel_rfl
  i173 := by kernel_rfl
  i212 := by kernel_rfl
  i232 := by kernel_rfl
  i233 := by kernel_rfl
  m17 := by kernel_rfl
  m18 := by kernel_rfl
  m19 := by kernel_rfl }
end Go.Proofs

/- Digits, plain. -/
set_option linter.unusedVariables false
namespace Go.Proofs.YthkedcneehdinaaGreatDoor
namespace SX
open Go Go.Proofs
end SX
end Go.Proofs.YthkedcneehdinaaGreatDoor

/- The laying of a contract of the shelf at this program. -/
set_option maxRecDepth 100000
namespace Go.Proofs
open Go.Shelf
end Go.Proofs

/- The laying of a contract of the shelf at this program. -/
set_option maxRecDepth 100000
namespace Go.Proofs
open Go.Shelf
def Tryz.TIdx_ren : Go.Shelf.Ren := ⟨fun | 143 => 40 | 219 => 85 | 217 => 89 | 225 => 147 | 224 => 148 | 267 => 149 | 266 => 153 | 314 => 205 | n => n, fun | 9 => 9 | 3 => 3 | 4 => 4 | 5 => 5 | 46 => 176 | 146 => 211 | 51 => 207 | n => n, fun | 1 => 1 | n => n⟩
theorem Tryz.TIdx : Go.Proofs.Lays.n143 Tryz.prog Tryz.TIdx_ren := {
  mixed := by kernel_rfl
  f143 := Tryz.func40.trans (congrArg some (by kernel_rfl))
  f217 := Tryz.func89.trans (congrArg some (by kernel_rfl))
  f219 := Tryz.func85.trans (congrArg some (by kernel_rfl))
  f224 := Tryz.func148.trans (congrArg some (by kernel_rfl))
  f225 := Tryz.func147.trans (congrArg some (by kernel_rfl))
  f266 := Tryz.func153.trans (congrArg some (by kernel_rfl))
  f267 := Tryz.func149.trans (congrArg some (by kernel_rfl))
  f314 := Tryz.func205.trans (congrArg some (by kernel_rfl))
  t3 := Tryz.underlying3
  a3 := Tryz.isAgg3
  z3 := Tryz.sizeOf3
  v3 := Tryz.zeroValue3
  t4 := Tryz.underlying4
  a4 := Tryz.isAgg4
  z4 := Tryz.sizeOf4
  v4 := Tryz.zeroValue4
  t5 := Tryz.underlying5
  a5 := Tryz.isAgg5
  z5 := Tryz.sizeOf5
  v5 := Tryz.zeroValue5
  t9 := Tryz.underlying9
  a9 := Tryz.isAgg9
  z9 := Tryz.sizeOf9
  v9 := Tryz.zeroValue9
  t46 := Tryz.underlying176
  a46 := Tryz.isAgg176
  z46 := Tryz.sizeOf176
  v46 := Tryz.zeroValue176
  t51 := Tryz.underlying207
  a51 := Tryz.isAgg207
  z51 := Tryz.sizeOf207
  v51 := Tryz.zeroValue207
  t146 := Tryz.underlying211
  a146 := Tryz.isAgg211
  z146 := Tryz.sizeOf211
  v146 := Tryz.zeroValue211
  g1 := by kernel_rfl }
end Go.Proofs

/- The laying of a contract of the shelf at this program. -/
set_option maxRecDepth 100000
namespace Go.Proofs
open Go.Shelf
def Tryz.TCon_ren : Go.Shelf.Ren := ⟨fun | 144 => 87 | 143 => 40 | 219 => 85 | 217 => 89 | 225 => 147 | 224 => 148 | 267 => 149 | 266 => 153 | 314 => 205 | n => n, fun | 9 => 9 | 4 => 4 | 3 => 3 | 5 => 5 | 46 => 176 | 146 => 211 | 51 => 207 | n => n, fun | 1 => 1 | n => n⟩
theorem Tryz.TCon : Go.Proofs.Lays.n144 Tryz.prog Tryz.TCon_ren := {
  mixed := by kernel_rfl
  f143 := Tryz.func40.trans (congrArg some (by kernel_rfl))
  f144 := Tryz.func87.trans (congrArg some (by kernel_rfl))
  f217 := Tryz.func89.trans (congrArg some (by kernel_rfl))
  f219 := Tryz.func85.trans (congrArg some (by kernel_rfl))
  f224 := Tryz.func148.trans (congrArg some (by kernel_rfl))
  f225 := Tryz.func147.trans (congrArg some (by kernel_rfl))
  f266 := Tryz.func153.trans (congrArg some (by kernel_rfl))
  f267 := Tryz.func149.trans (congrArg some (by kernel_rfl))
  f314 := Tryz.func205.trans (congrArg some (by kernel_rfl))
  t3 := Tryz.underlying3
  a3 := Tryz.isAgg3
  z3 := Tryz.sizeOf3
  v3 := Tryz.zeroValue3
  t4 := Tryz.underlying4
  a4 := Tryz.isAgg4
  z4 := Tryz.sizeOf4
  v4 := Tryz.zeroValue4
  t5 := Tryz.underlying5
  a5 := Tryz.isAgg5
  z5 := Tryz.sizeOf5
  v5 := Tryz.zeroValue5
  t9 := Tryz.underlying9
  a9 := Tryz.isAgg9
  z9 := Tryz.sizeOf9
  v9 := Tryz.zeroValue9
  t46 := Tryz.underlying176
  a46 := Tryz.isAgg176
  z46 := Tryz.sizeOf176
  v46 := Tryz.zeroValue176
  t51 := Tryz.underlying207
  a51 := Tryz.isAgg207
  z51 := Tryz.sizeOf207
  v51 := Tryz.zeroValue207
  t146 := Tryz.underlying211
  a146 := Tryz.isAgg211
  z146 := Tryz.sizeOf211
  v146 := Tryz.zeroValue211
  g1 := by kernel_rfl }
end Go.Proofs

/- The laying of a contract of the shelf at this program. -/
set_option maxRecDepth 100000
namespace Go.Proofs
open Go.Shelf
def Tryz.TIxb_ren : Go.Shelf.Ren := ⟨fun | 137 => 47 | 217 => 89 | 266 => 153 | n => n, fun | 9 => 9 | 5 => 5 | 3 => 3 | n => n, fun | n => n⟩
theorem Tryz.TIxb : Go.Proofs.Lays.n137 Tryz.prog Tryz.TIxb_ren := {
  mixed := by kernel_rfl
  f137 := Tryz.func47.trans (congrArg some (by kernel_rfl))
  f217 := Tryz.func89.trans (congrArg some (by kernel_rfl))
  f266 := Tryz.func153.trans (congrArg some (by kernel_rfl))
  t3 := Tryz.underlying3
  a3 := Tryz.isAgg3
  z3 := Tryz.sizeOf3
  v3 := Tryz.zeroValue3
  t5 := Tryz.underlying5
  a5 := Tryz.isAgg5
  z5 := Tryz.sizeOf5
  v5 := Tryz.zeroValue5
  t9 := Tryz.underlying9
  a9 := Tryz.isAgg9
  z9 := Tryz.sizeOf9
  v9 := Tryz.zeroValue9 }
end Go.Proofs

/- The laying of a contract of the shelf at this program. -/
set_option maxRecDepth 100000
namespace Go.Proofs
open Go.Shelf
def Tryz.TErr_ren : Go.Shelf.Ren := ⟨fun | 17 => 152 | 21 => 208 | 22 => 209 | 23 => 210 | 24 => 211 | 25 => 233 | 27 => 76 | 26 => 234 | 28 => 130 | 29 => 192 | 30 => 223 | 31 => 224 | 32 => 225 | 33 => 226 | 35 => 246 | 34 => 248 | 36 => 249 | 37 => 250 | 38 => 251 | 39 => 261 | 40 => 262 | n => n, fun | 9 => 9 | 3 => 3 | 24 => 127 | 34 => 213 | 4 => 4 | 39 => 215 | 44 => 248 | 37 => 182 | 0 => 0 | 47 => 263 | 50 => 266 | 48 => 264 | 2 => 2 | 52 => 224 | 22 => 125 | 5 => 5 | 55 => 227 | 59 => 259 | 60 => 207 | 20 => 20 | 61 => 260 | 36 => 176 | 65 => 277 | 66 => 278 | 67 => 192 | n => n, fun | 0 => 3 | 1 => 4 | 2 => 5 | 3 => 6 | 4 => 7 | n => n⟩
theorem Tryz.TErr : Go.Proofs.LaysPu.n17 Tryz.prog Tryz.TErr_ren := {
  mixed := by kernel_rfl
  f17 := Tryz.func152.trans (congrArg some (by kernel_rfl))
  f21 := Tryz.func208.trans (congrArg some (by kernel_rfl))
  f22 := Tryz.func209.trans (congrArg some (by kernel_rfl))
  f23 := Tryz.func210.trans (congrArg some (by kernel_rfl))
  f24 := Tryz.func211.trans (congrArg some (by kernel_rfl))
  f25 := Tryz.func233.trans (congrArg some (by kernel_rfl))
  f26 := Tryz.func234.trans (congrArg some (by kernel_rfl))
  f27 := Tryz.func76.trans (congrArg some (by kernel_rfl))
  f28 := Tryz.func130.trans (congrArg some (by kernel_rfl))
  f29 := Tryz.func192.trans (congrArg some (by kernel_rfl))
  f30 := Tryz.func223.trans (congrArg some (by kernel_rfl))
  f31 := Tryz.func224.trans (congrArg some (by kernel_rfl))
  f32 := Tryz.func225.trans (congrArg some (by kernel_rfl))
  f33 := Tryz.func226.trans (congrArg some (by kernel_rfl))
  f34 := Tryz.func248.trans (congrArg some (by kernel_rfl))
  f35 := Tryz.func246.trans (congrArg some (by kernel_rfl))
  f36 := Tryz.func249.trans (congrArg some (by kernel_rfl))
  f37 := Tryz.func250.trans (congrArg some (by kernel_rfl))
  f38 := Tryz.func251.trans (congrArg some (by kernel_rfl))
  f39 := Tryz.func261.trans (congrArg some (by kernel_rfl))
  f40 := Tryz.func262.trans (congrArg some (by kernel_rfl))
  t0 := Tryz.underlying0
  a0 := Tryz.isAgg0
  z0 := Tryz.sizeOf0
  v0 := Tryz.zeroValue0
  i0 := by kernel_rfl
  t2 := Tryz.underlying2
  a2 := Tryz.isAgg2
  z2 := Tryz.sizeOf2
  v2 := Tryz.zeroValue2
  i2 := by kernel_rfl
  t3 := Tryz.underlying3
  a3 := Tryz.isAgg3
  z3 := Tryz.sizeOf3
  v3 := Tryz.zeroValue3
  i3 := by kernel_rfl
  t4 := Tryz.underlying4
  a4 := Tryz.isAgg4
  z4 := Tryz.sizeOf4
  v4 := Tryz.zeroValue4
  i4 := by kernel_rfl
  t5 := Tryz.underlying5
  a5 := Tryz.isAgg5
  z5 := Tryz.sizeOf5
  v5 := Tryz.zeroValue5
  i5 := by kernel_rfl
  t9 := Tryz.underlying9
  a9 := Tryz.isAgg9
  z9 := Tryz.sizeOf9
  v9 := Tryz.zeroValue9
  i9 := by kernel_rfl
  t20 := Tryz.underlying20
  a20 := Tryz.isAgg20
  z20 := Tryz.sizeOf20
  v20 := Tryz.zeroValue20
  i20 := by kernel_rfl
  t22 := Tryz.underlying125
  a22 := Tryz.isAgg125
  z22 := Tryz.sizeOf125
  v22 := Tryz.zeroValue125
  i22 := by kernel_rfl
  t24 := Tryz.underlying127
  a24 := Tryz.isAgg127
  z24 := Tryz.sizeOf127
  v24 := Tryz.zeroValue127
  i24 := by kernel_rfl
  t34 := Tryz.underlying213
  a34 := Tryz.isAgg213
  z34 := Tryz.sizeOf213
  v34 := Tryz.zeroValue213
  i34 := by kernel_rfl
  c34 := by kernel_rfl
  t36 := Tryz.underlying176
  a36 := Tryz.isAgg176
  z36 := Tryz.sizeOf176
  v36 := Tryz.zeroValue176
  i36 := by kernel_rfl
  t37 := Tryz.underlying182
  a37 := Tryz.isAgg182
  z37 := Tryz.sizeOf182
  v37 := Tryz.zeroValue182
  i37 := by kernel_rfl
  t39 := Tryz.underlying215
  a39 := Tryz.isAgg215
  z39 := Tryz.sizeOf215
  v39 := Tryz.zeroValue215
  i39 := by kernel_rfl
  t44 := Tryz.underlying248
  a44 := Tryz.isAgg248
  z44 := Tryz.sizeOf248
  v44 := Tryz.zeroValue248
  i44 := by kernel_rfl
  t47 := Tryz.underlying263
  a47 := Tryz.isAgg263
  z47 := Tryz.sizeOf263
  v47 := Tryz.zeroValue263
  i47 := by kernel_rfl
  t48 := Tryz.underlying264
  a48 := Tryz.isAgg264
  z48 := Tryz.sizeOf264
  v48 := Tryz.zeroValue264
  i48 := by kernel_rfl
  t50 := Tryz.underlying266
  a50 := Tryz.isAgg266
  z50 := Tryz.sizeOf266
  v50 := Tryz.zeroValue266
  i50 := by kernel_rfl
  t52 := Tryz.underlying224
  a52 := Tryz.isAgg224
  z52 := Tryz.sizeOf224
  v52 := Tryz.zeroValue224
  i52 := by kernel_rfl
  t55 := Tryz.underlying227
  a55 := Tryz.isAgg227
  z55 := Tryz.sizeOf227
  v55 := Tryz.zeroValue227
  i55 := by kernel_rfl
  t59 := Tryz.underlying259
  a59 := Tryz.isAgg259
  z59 := Tryz.sizeOf259
  v59 := Tryz.zeroValue259
  i59 := by kernel_rfl
  t60 := Tryz.underlying207
  a60 := Tryz.isAgg207
  z60 := Tryz.sizeOf207
  v60 := Tryz.zeroValue207
  i60 := by kernel_rfl
  t61 := Tryz.underlying260
  a61 := Tryz.isAgg260
  z61 := Tryz.sizeOf260
  t65 := Tryz.underlying277
  a65 := Tryz.isAgg277
  z65 := Tryz.sizeOf277
  v65 := Tryz.zeroValue277
  i65 := by kernel_rfl
  t66 := Tryz.underlying278
  a66 := Tryz.isAgg278
  z66 := Tryz.sizeOf278
  v66 := Tryz.zeroValue278
  i66 := by kernel_rfl
  t67 := Tryz.underlying192
  a67 := Tryz.isAgg192
  z67 := Tryz.sizeOf192
  v67 := Tryz.zeroValue192
  i67 := by kernel_rfl
  g0 := by kernel_rfl
  m0 := by kernel_rfl
  g1 := by kernel_rfl
  m1 := by kernel_rfl
  g2 := by kernel_rfl
  m2 := by kernel_rfl
  g3 := by kernel_rfl
  m3 := by kernel_rfl
  g4 := by kernel_rfl
  m4 := by kernel_rfl }
end Go.Proofs

/- Conditions: fold over bools, Eval. -/
set_option linter.unusedVariables false
set_option maxRecDepth 100000
namespace Go.Proofs.YthkedcneehdinaaGreatDoor
namespace SX
open Go Go.Proofs
theorem cenc_w (c : Cn) : wdL (cenc c) = 5 := rfl
theorem cenc_ok (c : Cn) (m : Mem) : OkL m [] (cenc c) := by simp [cenc, OkL, Ok, isUnit]
def kAt (N : Nat) (c : Cn) : Int := IntKind.i64.wrap ((N : Int) - partsF c)
theorem kAt_eq {N : Nat} {c : Cn} (h0 : 0 ≤ partsF c) (h1 : partsF c ≤ N) (h2 : N ≤ 1000) : kAt N c = (N : Int) - partsF c := wrap64 (by omega) (by omega)
theorem rightP_of {cs : List Cn} (h : rightB cs = true) : rightP cs := by unfold rightB at h; simpa using h
end SX
end Go.Proofs.YthkedcneehdinaaGreatDoor

/- A run of the program, as a memo. Made by memo.py. -/
set_option maxRecDepth 100000
namespace Go.Proofs.YthkedcneehdinaaGreatDoor
namespace SX
open Go Go.Proofs
def CdAble : Memo := ⟨29,
  [],
  [],
  (.b
  .true),
  []⟩
theorem CdAble_ok : MemoOk Tryz.prog CdAble := memo_of (tr := treeF) (ft := ftree) (ms := []) (n := 40) tabOkF ftOk mixed (by intro m hm; cases hm) (by decide +kernel)
end SX
end Go.Proofs.YthkedcneehdinaaGreatDoor

/- SX: rows: slices and structs of plain cells, opened. -/
set_option linter.unusedVariables false
set_option linter.unusedSimpArgs false
namespace Go.Proofs.YthkedcneehdinaaGreatDoor
namespace SX
open Go Go.ChangeShapes Go.WideShapes

/-- What a cell of a kind may hold. -/
def LKv : LK → Value → Prop
  | .i k, v => ∃ n, v = .int k n ∧ (Lit.int k n).wf = true
  | .b, v => ∃ b, v = .bool b
  | .s, v => ∃ s : ByteArray, v = .string s ∧ s.size ≤ maxLen
def LKs : List LK → List Value → Prop
  | [], [] => True
  | k :: ls, v :: cs => LKv k v ∧ LKs ls cs
  | _, _ => False
theorem LKs.len : ∀ {ls : List LK} {cs : List Value}, LKs ls cs → cs.length = ls.length
  | [], [], _ => rfl
  | k :: ls, v :: cs, h => by simp only [LKs] at h; simp [LKs.len h.2]
  | [], _ :: _, h => h.elim
  | _ :: _, [], h => h.elim
theorem LKs.app : ∀ {ls rs : List LK} {cs ds : List Value}, LKs ls cs → LKs rs ds → LKs (ls ++ rs) (cs ++ ds)
  | [], rs, [], ds, _, h => h
  | k :: ls, rs, v :: cs, ds, h, h' => by simp only [LKs, List.cons_append] at h ⊢; exact ⟨h.1, LKs.app h.2 h'⟩
  | [], _, _ :: _, _, h, _ => h.elim
  | _ :: _, _, [], _, h, _ => h.elim
theorem LKs_rep {ls : List LK} {m : Nat} (hm : ls.length = m) : ∀ (n : Nat) (cs : List Value), cs.length = n * m → (∀ i, i < n → LKs ls ((cs.drop (i * m)).take m)) → LKs (rep n ls) cs
  | 0, cs, hl, _ => by
    have : cs = [] := List.eq_nil_of_length_eq_zero (by omega)
    subst this; simp [rep, LKs]
  | n + 1, cs, hl, h => by
    have h0 := h 0 (by omega)
    rw [Nat.zero_mul, List.drop_zero] at h0
    have h1 := LKs_rep hm n (cs.drop m) (by rw [List.length_drop, hl, Nat.succ_mul]; omega) fun i hi => by
      have := h (i + 1) (by omega)
      rw [List.drop_drop, show m + i * m = (i + 1) * m by rw [Nat.succ_mul, Nat.add_comm]]
      exact this
    have := h0.app h1
    rw [List.take_append_drop] at this
    simpa only [rep] using this
section
variable {H : Type} {enc : TypeId × Value → H} {P : Program} {w : World} {base : Nat} {spare : Nat → Bool} {held : Bool}
mutual
theorem trod_flat : ∀ (f : Nat) (t : TypeId) (ls : List LK), shape P f t = some ls → P.cellsOf t = ls.length → ∀ (fuel : Nat) (cs : List Value) (x : DataW H × List MemPlace), DataW.trod enc P w base spare held fuel t cs = some x → LKs ls cs
  | 0, t, ls, h, _, _, _, _, _ => by simp [shape] at h
  | f + 1, t, ls, h, hc, fuel, cs, x, hx => by
    unfold shape at h
    cases hu : P.underlying t with
    | none => simp [hu] at h
    | some d =>
      rw [hu] at h
      cases d <;> simp only at h <;> try (cases h; done)
      case bool =>
        cases h
        obtain ⟨b, rfl, _⟩ := DataW.trod_bool hu hx
        exact ⟨⟨b, rfl⟩, trivial⟩
      case int k =>
        cases h
        obtain ⟨n, rfl, _, hw⟩ := DataW.trod_int hu hx
        exact ⟨⟨n, rfl, hw⟩, trivial⟩
      case string =>
        cases h
        obtain ⟨s, rfl, _, hw⟩ := DataW.trod_string hu hx
        exact ⟨⟨s, rfl, hw⟩, trivial⟩
      case struct fs =>
        cases hsh : P.stoodInHeld t with
        | true => rw [hsh] at h; cases h
        | false =>
          rw [hsh] at h
          simp only [cond_false] at h
          obtain ⟨xs, n, rfl, _, hl, hxl, hg⟩ := DataW.trod_struct hu hx
          have := trod_flatF f 0 fs.toList ls h n cs (fun i fl hi => by
            have hi' : fs[i]? = some fl := by simpa using hi
            have hlt : i < xs.length := by
              rw [hxl]
              rcases Nat.lt_or_ge i fs.size with h | h
              · exact h
              · rw [Array.getElem?_eq_none h] at hi'; cases hi'
            exact ⟨_, (hg i fl hi').trans (List.getElem?_eq_getElem hlt)⟩) (by omega)
          rw [List.drop_zero, List.take_of_length_le (by omega)] at this
          exact this
      case array n e =>
        cases hs : shape P f e with
        | none => rw [hs] at h; cases h
        | some es =>
          rw [hs] at h
          simp only at h
          cases hb : Nat.beq (P.cellsOf e) es.length with
          | false => rw [hb] at h; cases h
          | true =>
            rw [hb] at h
            simp only [cond_true, Option.some.injEq] at h
            subst h
            have hce := Nat.eq_of_beq_eq_true hb
            obtain ⟨xs, m, rfl, _, hl, hxl, hg⟩ := DataW.trod_array hu hx
            refine LKs_rep hce.symm n cs (by rw [hl, hc, rep_length, hce]) fun i hi => ?_
            have hlt : i < xs.length := by omega
            exact trod_flat f e es hs hce m _ _ ((hg i hi).trans (List.getElem?_eq_getElem hlt))
theorem trod_flatF : ∀ (f off : Nat) (fs : List Field) (ls : List LK), shapeF P f off fs = some ls → ∀ (n : Nat) (cs : List Value), (∀ (i : Nat) (fl : Field), fs[i]? = some fl → ∃ y, DataW.trod enc P w base spare held n fl.type ((cs.drop fl.offset).take (P.cellsOf fl.type)) = some y) → off + ls.length ≤ cs.length → LKs ls ((cs.drop off).take ls.length)
  | f, off, [], ls, h, n, cs, _, _ => by
    unfold shapeF at h
    simp only [Option.some.injEq] at h
    subst h
    simp [LKs]
  | 0, off, _ :: _, ls, h, _, _, _, _ => by simp [shapeF] at h
  | f + 1, off, x :: r, ls, h, n, cs, hg, hl => by
    unfold shapeF at h
    cases hc : (x.name == "_" || !(Nat.beq x.offset off)) with
    | true => rw [hc] at h; cases h
    | false =>
      rw [hc] at h
      simp only [cond_false] at h
      simp only [Bool.or_eq_false_iff, Bool.not_eq_false'] at hc
      have hoff := Nat.eq_of_beq_eq_true hc.2
      cases hs : shape P f x.type with
      | none => rw [hs] at h; cases h
      | some es =>
        rw [hs] at h
        simp only at h
        cases hb : Nat.beq (P.cellsOf x.type) es.length with
        | false => rw [hb] at h; cases h
        | true =>
          rw [hb] at h
          simp only [cond_true] at h
          have hce := Nat.eq_of_beq_eq_true hb
          cases hr : shapeF P f (off + es.length) r with
          | none => rw [hr] at h; cases h
          | some rs =>
            rw [hr] at h
            simp only [Option.some.injEq] at h
            subst h
            rw [List.length_append] at hl
            obtain ⟨y, hy⟩ := hg 0 x rfl
            have h1 := trod_flat f x.type es hs hce n _ _ hy
            rw [hoff, hce] at h1
            have h2 := trod_flatF f (off + es.length) r rs hr n cs (fun i fl hi => hg (i + 1) fl (by simpa using hi)) (by omega)
            have := h1.app h2
            rw [← List.drop_drop, ← List.take_add, ← List.length_append] at this
            exact this
end
/-- A slice of plain elements, opened: its rows. -/
theorem open_rows {r : Reach} {b0 f : Nat} {t e : TypeId} {ls : List LK} {v : Value} {d : DataW H} {p : List MemPlace} (ht : P.underlying t = some (.slice e)) (hsh : shape P f e = some ls) (hc : P.cellsOf e = ls.length) (hpos : 0 < ls.length)
    (hv : Value.okWide P w r b0 t v) (h : DataW.Trod enc P w base spare held t v d p) :
    ∃ (rows : List (List Value)) (a : Option Addr) (cap : Nat), v = .slice a rows.length cap ∧ rows.length ≤ cap ∧ cap ≤ maxLen ∧ (∀ row ∈ rows, LKs ls row) ∧
      (rows ≠ [] → ∃ ad arr ty fr, a = some ad ∧ ad.spot = none ∧ w.heap[ad.block]? = some (.cells arr ty fr) ∧ ∀ j row, rows[j]? = some row → ∀ u c, row[u]? = some c → arr[ad.off + j * ls.length + u]? = some c) := by
  obtain ⟨fuel, hn⟩ := h
  obtain ⟨a0, l0, c0, rfl⟩ := okWide_slice ht hv
  rcases DataW.trod_slice ht hn with ⟨e1, _⟩ | ⟨a, len, cap, elems, rest, n, rfl, e1, _, _, h1, h2, h3, h4, _⟩
  · simp only [Value.cells, List.cons.injEq, Value.slice.injEq, and_true] at e1
    obtain ⟨rfl, rfl, rfl⟩ := e1
    exact ⟨[], none, 0, rfl, Nat.le_refl _, Nat.zero_le _, fun row hr => (by cases hr), fun h => absurd rfl h⟩
  · simp only [Value.cells, List.cons.injEq, Value.slice.injEq, and_true] at e1
    obtain ⟨rfl, rfl, rfl⟩ := e1
    have hrow : ∀ j, j < l0 → ∃ row y, w.cells? base (a.add (j * P.cellsOf e)) (P.cellsOf e) = some row ∧ DataW.trod enc P w base spare held n e row = some y := fun j hj => by
      have := h4 j hj
      rw [List.getElem?_eq_getElem (by omega)] at this
      obtain ⟨row, q1, q2⟩ := Option.bind_eq_some_iff.1 this
      exact ⟨row, _, q1, q2⟩
    have hget : ∀ j, j < l0 → ((List.range l0).map fun j => (w.cells? base (a.add (j * P.cellsOf e)) (P.cellsOf e)).getD [])[j]? = some ((w.cells? base (a.add (j * P.cellsOf e)) (P.cellsOf e)).getD []) := fun j hj => by
      rw [List.getElem?_map, List.getElem?_range hj]; rfl
    have hcell : ∀ j, j < l0 → ∀ u c, ((w.cells? base (a.add (j * P.cellsOf e)) (P.cellsOf e)).getD [])[u]? = some c → u < P.cellsOf e ∧ w.cell? ((a.add (j * P.cellsOf e)).add u) = some c := fun j hj u c hu => by
      obtain ⟨row, y, q1, q2⟩ := hrow j hj
      rw [q1] at hu
      simp only [Option.getD_some] at hu
      unfold World.cells? at q1
      split at q1
      · have hl := mapM_some_length q1
        have hlt : u < row.length := (List.getElem?_eq_some_iff.1 hu).1
        have hlt2 : u < P.cellsOf e := by simpa [hl] using hlt
        have := mapM_some_get q1 u u (by simp [hlt2])
        exact ⟨hlt2, by rw [this, hu]⟩
      · cases q1
    refine ⟨(List.range l0).map fun j => (w.cells? base (a.add (j * P.cellsOf e)) (P.cellsOf e)).getD [], some a, c0, by simp, by simp; omega, by omega, fun row hr => ?_, fun hne => ?_⟩
    · obtain ⟨j, hj, rfl⟩ := List.mem_map.1 hr
      obtain ⟨row, y, q1, q2⟩ := hrow j (by simpa using hj)
      rw [q1]
      exact trod_flat f e ls hsh hc n row y q2
    · have hl0 : 0 < l0 := by
        rcases Nat.eq_zero_or_pos l0 with h | h
        · subst h; exact absurd rfl hne
        · exact h
      obtain ⟨row, y, q1, q2⟩ := hrow 0 hl0
      have hrl := (trod_flat f e ls hsh hc n row y q2).len
      have h00 := (hcell 0 hl0 0 (row[0]'(by omega)) (by rw [q1]; simp)).2
      have ha0 : a.add 0 = a := by simp [Addr.add]
      rw [Nat.zero_mul, ha0, ha0] at h00
      have hsp := World.cell?_spot h00
      have hadd : ∀ k, (a.add k).spot = none ∧ (a.add k).block = a.block ∧ (a.add k).off = a.off + k := fun k => by
        unfold Addr.add
        split
        · rename_i h; subst h; exact ⟨hsp, rfl, rfl⟩
        · exact ⟨rfl, rfl, rfl⟩
      have hadd2 : ∀ k u, (a.add k).add u = ⟨a.block, a.off + k + u, none⟩ := fun k u => by
        obtain ⟨g1, g2, g3⟩ := hadd k
        unfold Addr.add at g1 g2 g3 ⊢
        split
        · rename_i h
          subst h
          simp only [Nat.add_zero]
          split
          · rename_i h; subst h
            cases a; simp only at hsp; subst hsp; rfl
          · rfl
        · split
          · rename_i h; subst h; simp
          · rfl
      have h00' := h00
      unfold World.cell? at h00'
      split at h00'
      · rename_i arr ty fr hblk
        refine ⟨a, arr, ty, fr, rfl, hsp, hblk, fun j row hj u c hu => ?_⟩
        have hjl : j < l0 := by have := (List.getElem?_eq_some_iff.1 hj).1; simpa using this
        rw [hget j hjl] at hj
        cases hj
        have h5 := (hcell j hjl u c hu).2
        rw [hadd2] at h5
        unfold World.cell? at h5
        rw [hblk] at h5
        simp only [Option.isSome_none, Bool.false_eq_true, if_false] at h5
        rw [← hc]; exact h5
      · cases h00'
/-- .. as an immutable slice. -/
theorem open_imm {r : Reach} {b0 f : Nat} {t e : TypeId} {ls : List LK} {v : Value} {dd : DataW H} {p : List MemPlace} (ht : P.underlying t = some (.slice e)) (hsh : shape P f e = some ls) (hc : P.cellsOf e = ls.length) (hpos : 0 < ls.length)
    {α : Type} (d : α) {n : Nat} (en : α → List SV) (hn : ls.length = n) (hw : ∀ x, wdL (en x) = n) (hok : ∀ x m, OkL m [] (en x)) (hdec : ∀ row, LKs ls row → ∃ x, row = cellsL E0 (en x))
    (hv : Value.okWide P w r b0 t v) (h : DataW.Trod enc P w base spare held t v dd p) :
    ∃ (xs : List α) (a : Option Addr) (cap : Nat) (S : Nat → Bool), v = den (fun _ _ => none) (.imm α d n en xs a cap) ∧ Ok (memOf w S) [] (.imm α d n en xs a cap) ∧ xs.length ≤ maxLen := by
  obtain ⟨rows, a, cap, rfl, h1, h2, h3, h4⟩ := open_rows ht hsh hc hpos hv h
  have hx : ∃ xs : List α, rows = xs.map fun x => cellsL E0 (en x) := by
    clear h h4 hv h1
    induction rows with
    | nil => exact ⟨[], rfl⟩
    | cons row rows ih =>
      obtain ⟨xs, hxs⟩ := ih fun r hr => h3 r (List.mem_cons_of_mem _ hr)
      obtain ⟨x, hx⟩ := hdec row (h3 row List.mem_cons_self)
      exact ⟨x :: xs, by rw [hxs, hx]; rfl⟩
  obtain ⟨xs, rfl⟩ := hx
  rw [List.length_map] at *
  refine ⟨xs, a, cap, fun b => decide (some b = a.map (·.block)), by simp [den, wrapV, cells], ?_, by omega⟩
  simp only [Ok]
  refine ⟨h1, fun hne => ?_, hw, fun j hj => hok _ _⟩
  obtain ⟨ad, arr, ty, fr, rfl, e2, e3, e4⟩ := h4 (by simpa using hne)
  refine ⟨ad, arr, ty, fr, rfl, e2, by unfold memOf; rw [if_pos (by simp)]; exact e3, fun j hj u c hu => ?_⟩
  have := e4 j (cellsL E0 (en (xs.getD j d))) (by
    rw [List.getElem?_map, List.getElem?_eq_getElem hj]
    simp [List.getD_eq_getElem?_getD, List.getElem?_eq_getElem hj]) u c hu
  rw [hn] at this
  exact this
end
end SX
end Go.Proofs.YthkedcneehdinaaGreatDoor

/- SX: rows: the form's own reach bounds a slice that came in. -/
set_option linter.unusedVariables false
namespace Go.Proofs.YthkedcneehdinaaGreatDoor
namespace SX
open Go Go.ChangeShapes Go.WideShapes Go.ChangeAt
section
variable {H : Type} {enc : TypeId × Value → H} {P : Program} {w : World} {base : Nat} {spare : Nat → Bool} {held : Bool}
end
end SX
end Go.Proofs.YthkedcneehdinaaGreatDoor

/- SX: rows: the tables that a row lists lie in the world. -/
set_option linter.unusedVariables false
namespace Go.Proofs.YthkedcneehdinaaGreatDoor
namespace SX
open Go
theorem laidVars_mem {P : Program} {w : World} {n : String} {d : DataW Unit} : ∀ {l : List (String × DataW Unit)} {ps : List MemPlace}, DataW.LaidVars P w l ps → (n, d) ∈ l →
    ∃ g t cs fuel p, P.globalNamed n = some g ∧ (P.globals[g]?).map (·.type) = some t ∧ w.var? P n = some cs ∧ DataW.trod (fun _ => ()) P w 0 (fun _ => true) false fuel t cs.toList = some (d, p)
  | [], _, _, h => by cases h
  | (n', d') :: r, ps, hl, h => by
    obtain ⟨g, t, cs, fuel, p, q, h1, h2, h3, h4, h5, _⟩ := hl
    rcases List.mem_cons.1 h with h | h
    · cases h; exact ⟨g, t, cs, fuel, p, h1, h2, h3, h4⟩
    · exact laidVars_mem h5 h
theorem laidMetH_plain {P : Program} {l : List (String × DataW Unit)} {w : World} (hf : (l.filter fun x => x.2.handleName?.isSome) = []) (h : laidMetH P l w) : laidMet P l w := by
  unfold laidMetH at h
  rw [hf] at h
  exact h
theorem trod_ifc {H : Type} {enc : TypeId × Value → H} {P : Program} {w : World} {base : Nat} {sp : Nat → Bool} {held : Bool} {fuel : Nat} {t : TypeId} {ms} {cs : List Value} {tn : String} {d : DataW H} {p : List MemPlace}
    (ht : P.underlying t = some (.interface ms)) (h : DataW.trod enc P w base sp held fuel t cs = some (.iface tn d, p)) : ∃ u v, cs = [.iface u v] := by
  cases fuel with
  | zero => simp [DataW.trod] at h
  | succ fuel =>
    unfold DataW.trod at h
    rw [ht] at h
    match cs, h with
    | [.iface u v], _ => exact ⟨u, v, rfl⟩
    | [.nilIface], h => simp at h
    | [], h => simp at h
    | _ :: _ :: _, h => simp at h
    | [.int _ _], h | [.bool _], h | [.float _ _], h | [.string _], h | [.pointer _], h | [.slice _ _ _], h | [.agg _], h | [.map _], h | [.func _ _ _], h | [.nilFunc], h | [.tuple _], h | [.chan _], h => simp at h
/-- How a row lists a table. -/
def TbRow (P : Program) (laid : List (String × DataW Unit)) (g : Nat) : TbV → Prop
  | .ints k zs => ∃ n t N e, (n, Lib.tabData k zs) ∈ laid ∧ P.globalNamed n = some g ∧ (P.globals[g]?).map (·.type) = some t ∧ P.underlying t = some (.array N e) ∧ P.underlying e = some (.int k) ∧ P.cellsOf e = 1 ∧ P.cellsOf t = N
  | .ifc => ∃ n t ms tn d, (n, .iface tn d) ∈ laid ∧ P.globalNamed n = some g ∧ (P.globals[g]?).map (·.type) = some t ∧ P.underlying t = some (.interface ms)
  | .anyI _ => False
theorem var_at {P : Program} {w : World} {n : String} {g : Nat} {cs : Array Value} (hg : P.globalNamed n = some g) (h : w.var? P n = some cs) : ∃ t fr, w.heap[g]? = some (.cells cs t fr) := by
  unfold World.var? at h
  rw [hg] at h
  simp only [Option.bind_some] at h
  split at h
  · rename_i c t fr hh; cases h; exact ⟨t, fr, hh⟩
  · cases h
theorem tabsIn_of {P : Program} {laid : List (String × DataW Unit)} {w : World} (hf : (laid.filter fun x => x.2.handleName?.isSome) = []) (h : laidMetH P laid w) (hr : ∀ g v, tabs g = some v → TbRow P laid g v ∨ TbAt (fun b => w.heap[b]?) g v) : TabsIn w := by
  obtain ⟨ps, hl, _⟩ := laidMetH_plain hf h
  intro g v hg
  rcases hr g v hg with hv | hv
  rotate_left
  · exact hv
  cases v with
  | ints k zs =>
    obtain ⟨n, t, N, e, hm, h1, h2, h3, h4, h5, h6⟩ := hv
    obtain ⟨g', t', cs, fuel, p, g1, g2, g3, g4⟩ := laidVars_mem hl hm
    obtain rfl := Option.some.inj (h1.symm.trans g1)
    obtain rfl := Option.some.inj (h2.symm.trans g2)
    have := Lib.cells_of_tab h3 h4 h5 h6 g4
    obtain ⟨t2, fr, hh⟩ := var_at h1 g3
    refine ⟨t2, fr, ?_⟩
    show w.heap[g]? = _
    rw [hh, ← this]
  | anyI k => exact hv.elim
  | ifc =>
    obtain ⟨n, t, ms, tn, d, hm, h1, h2, h3⟩ := hv
    obtain ⟨g', t', cs, fuel, p, g1, g2, g3, g4⟩ := laidVars_mem hl hm
    obtain rfl := Option.some.inj (h1.symm.trans g1)
    obtain rfl := Option.some.inj (h2.symm.trans g2)
    obtain ⟨u, v, hc⟩ := trod_ifc h3 g4
    obtain ⟨t2, fr, hh⟩ := var_at h1 g3
    refine ⟨u, v, t2, fr, ?_⟩
    show w.heap[g]? = _
    rw [hh]
    congr 2
    exact Array.toList_inj.1 (by simpa using hc)
theorem anyI_at {w : World} {g : Nat} {k : IntKind} (h : ∃ m, w.cell? ⟨g, 0, none⟩ = some (.int k m)) : TbAt (fun b => w.heap[b]?) g (.anyI k) := by
  obtain ⟨m, hm⟩ := h
  unfold World.cell? at hm
  simp only at hm
  split at hm
  · rename_i arr t fr hh
    exact ⟨m, arr, t, fr, hh, by simpa using hm⟩
  · cases hm
end SX
end Go.Proofs.YthkedcneehdinaaGreatDoor

/- SX: rows: the world at the call is of the program's shape. -/
set_option linter.unusedVariables false
namespace Go.Proofs.YthkedcneehdinaaGreatDoor
namespace SX
open Go Go.ChangeShapes Go.WideShapes Go.ChangeAt Go.RowKit
variable {H : Type} {enc : TypeId × Value → H}
theorem returns_shaped {a : Assume} {C : Checked} {os : Os} {f : FuncId} {fn : Func} {s : ChangeSpec} {conds : List PathCond} {apart fresh handsOn again : Bool} {X : World → Array Value → Prop}
    (hX : ∀ (w w' : World) (args : Array Value), w.heap = w'.heap → X w args → X w' args)
    (own : ownKnob C.prog.godebug = none) (started : os.Started) (noInit : C.prog.inits.idxOf? f = none) (hfn : C.prog.funcs[f]? = some fn)
    (witness : ∃ (w : World) (tape : Tape) (i : Input), w.os = os ∧ (w.forCall tape i).Shaped C.prog ∧ i.vars = [] ∧ Input.okWide C.prog (w.forCall tape i) .any w.heap.size f i ∧
      ((s.pre enc C.prog fn conds apart (w.forCall tape i).memory i.args ∧ X (w.forCall tape i).memory i.args) ∧ sizedMet enc C.prog fn (OpenSpec.ofChange s) apart (w.forCall tape i).memory i.args) ∧ a.holds C.prog (lone (Frame.enter C.prog f i.args .normal) [] (w.forCall tape i)))
    (contract : ∀ (W : World) (base : Nat) (args : Array Value) (ds gs : List (DataW H)) (before : List MemPlace),
      (∀ (j : Nat) t v, fn.params[j]? = some t → args[j]? = some v → Value.okWide C.prog W .any base t v) →
      DataW.Whole enc C.prog fn.params.toList s.vars apart W args.toList ds gs before →
      (DataW.weightsEach C.prog (fn.params.toList ++ s.plain.varTypes C.prog) (ds ++ gs)).all (· ≤ reachBytes) = true → X W args → W.ShapedOpen C.prog →
      Calls C.prog f args W fun e W' => ∃ v, e = .returned v ∧ s.post enc C.prog fn apart fresh handsOn again W args v W') :
    ReturnsInHanded a C os f .any (fun w args => (s.pre enc C.prog fn conds apart w args ∧ X w args) ∧ sizedMet enc C.prog fn (OpenSpec.ofChange s) apart w args) (s.post enc C.prog fn apart fresh handsOn again) := by
  refine returnsInHanded_of_calls own started noInit witness ?_
  intro w tape i _ hsh _ hok hpre hholds
  obtain ⟨_, _, _, fn', hfn', _, _, _, _, hval⟩ := hok
  have e : fn' = fn := Option.some.inj (hfn'.symm.trans hfn)
  subst e
  obtain ⟨⟨⟨ds, gs, before, hw, hc⟩, hx⟩, hz⟩ := hpre
  have hw' := DataW.Whole.of_heap (w' := w.forCall tape i) (by rfl) hw
  refine (contract (w.forCall tape i) w.heap.size i.args ds gs before hval hw' (hz.weights hw) (hX _ _ _ (by rfl) hx) hsh).mono fun e W' ⟨v, he, hp⟩ => ?_
  subst he
  exact ChangeSpec.post_blind hp
end SX
end Go.Proofs.YthkedcneehdinaaGreatDoor
