/- A part of SX: symbolic and concrete runs of the program, with contracts of functions; lemmas without further conditions. -/
import Derived.IntWalk
import Derived.Test.YtlgjjklikbpcoaaGreatDoorChecked
import Derived.Shelf.LaysM
import Derived.Test.YtlgjjklikbpcoaaGreatDoorYN
set_option linter.unusedVariables false
set_option linter.unusedSimpArgs false
set_option linter.unusedSectionVars false
/- Instructions: what they are; small functions. -/
set_option linter.unusedVariables false
set_option maxRecDepth 100000
namespace Go.Proofs.YtlgjjklikbpcoaaGreatDoor
namespace SX
open Go Go.Proofs
structure In where
  op : Int
  dst : Int
  a : Int
  b : Int
  imm : Int
  loc : Int
  off : Int
  ix : Int
  sz : Int
  fn : Int
  acq : Bool
  wk : Bool
  rel : Bool
  pr : Int
  su : Int
  to : Int
  ze : Bool
  deriving DecidableEq
def ienc (i : In) : List SV := [.i .i64 i.op, .i .i64 i.dst, .i .i64 i.a, .i .i64 i.b, .i .i64 i.imm, .i .i64 i.loc, .i .i64 i.off, .i .i64 i.ix, .i .i64 i.sz, .i .i64 i.fn, .b i.acq, .b i.wk, .b i.rel, .i .i64 i.pr, .i .i64 i.su, .i .i64 i.to, .b i.ze]
def rgB (r : Int) : Bool := decide (0 ≤ r) && decide (r < 8)
def szB (n : Int) : Bool := ((decide (n = 1) || decide (n = 2)) || decide (n = 4)) || decide (n = 8)
def mskX (off n : Int) : Bool := ((!szB n || decide (off < 0)) || decide (IntKind.i64.wrap (8 - n) < off)) || !decide (off.tmod n = 0)
def mskV (off n : Int) : Int := (2 ^ n.toNat - 1) * 2 ^ off.toNat
def mskF (off n : Int) : Int := if mskX off n then 0 else mskV off n
theorem register_ok (n : Int) : CtrV Tryz.prog 270 [.i .i64 n] (.b (rgB n)) := by
  refine Ctr.enterV tabOkF (fn := Tryz.f270) rfl rfl rfl rfl rfl rfl ?_
  exact rfl
theorem rrg_ok (n : Int) : CtrV Tryz.prog 222 [.i .i64 n] (.b (rgB n)) := by
  refine Ctr.enterV tabOkF (fn := Tryz.f222) rfl rfl rfl rfl rfl rfl ?_
  exact rfl
theorem sized_ok (n : Int) : CtrV Tryz.prog 311 [.i .i64 n] (.b (szB n)) := by
  refine Ctr.enterV tabOkF (fn := Tryz.f311) rfl rfl rfl rfl rfl rfl ?_
  exact rfl
theorem rsize_ok (n : Int) : CtrV Tryz.prog 294 [.i .i64 n] (.b (szB n)) := by
  refine Ctr.enterV tabOkF (fn := Tryz.f294) rfl rfl rfl rfl rfl rfl ?_
  exact rfl
def fnB (n : Int) : Bool := decide (1 ≤ n) && decide (n ≤ 3)
theorem msk_cases {off n : Int} (h : mskX off n = false) : (n = 1 ∧ (off = 0 ∨ off = 1 ∨ off = 2 ∨ off = 3 ∨ off = 4 ∨ off = 5 ∨ off = 6 ∨ off = 7)) ∨ (n = 2 ∧ (off = 0 ∨ off = 2 ∨ off = 4 ∨ off = 6)) ∨ (n = 4 ∧ (off = 0 ∨ off = 4)) ∨ (n = 8 ∧ off = 0) := by
  unfold mskX szB at h
  simp only [Bool.or_eq_false_iff, Bool.not_eq_false', Bool.or_eq_true, decide_eq_true_eq, decide_eq_false_iff_not, Int.not_lt] at h
  obtain ⟨⟨⟨h1, h2⟩, h3⟩, h4⟩ := h
  rcases h1 with ((rfl | rfl) | rfl) | rfl
  · have h3 : off ≤ 7 := h3
    left; exact ⟨rfl, by omega⟩
  · have h3 : off ≤ 6 := h3
    right; left
    refine ⟨rfl, ?_⟩
    rcases (by omega : off = 0 ∨ off = 1 ∨ off = 2 ∨ off = 3 ∨ off = 4 ∨ off = 5 ∨ off = 6) with rfl | rfl | rfl | rfl | rfl | rfl | rfl <;> first | (simp; done) | exact absurd h4 (by decide)
  · have h3 : off ≤ 4 := h3
    right; right; left
    refine ⟨rfl, ?_⟩
    rcases (by omega : off = 0 ∨ off = 1 ∨ off = 2 ∨ off = 3 ∨ off = 4) with rfl | rfl | rfl | rfl | rfl <;> first | (simp; done) | exact absurd h4 (by decide)
  · have h3 : off ≤ 0 := h3
    right; right; right
    exact ⟨rfl, by omega⟩
theorem call_of {f : Nat} {args : List SV} {r : SV} (h : (Memo.mk f args [] r []).runs (runM treeF ftree [] 40) = true) : CtrV Tryz.prog f args r :=
  memo_of (tr := treeF) (ft := ftree) (ms := []) (n := 40) (m := Memo.mk f args [] r []) tabOkF ftOk mixed (by intro m hm; cases hm) h
theorem msk_ne {off n : Int} (h : mskX off n = true) {x y z : Bool} (hx : ((!szB n || decide (off < 0)) || decide (IntKind.i64.wrap (8 - n) < off)) = false) : n ≠ 0 := by
  intro e
  subst e
  simp [szB] at hx
theorem mask_no {off n : Int} (h : mskX off n = true) : CtrV Tryz.prog 293 [.i .i64 off, .i .i64 n] (.i .i64 0) := by
  refine Ctr.enterV tabOkF (fn := Tryz.f293) rfl rfl rfl rfl rfl rfl ?_
  refine OpC.callV rfl rfl rfl rfl rfl rfl rfl (fun _ => sized_ok n) ?_
  refine ⟨fun hg => ?_, ⟨fun _ => rfl, fun h2 => ?_⟩⟩
  · have hg : ((((!szB n || decide (off < 0)) || decide (IntKind.i64.wrap (8 - n) < off)) == false)) = true := hg
    exact msk_ne (x := true) (y := true) (z := true) h (by simpa using hg)
  · have h2 : mskX off n = false := h2
    rw [h] at h2; cases h2
theorem rmask_no {off n : Int} (h : mskX off n = true) : CtrV Tryz.prog 273 [.i .i64 off, .i .i64 n] (.i .i64 0) := by
  refine Ctr.enterV tabOkF (fn := Tryz.f273) rfl rfl rfl rfl rfl rfl ?_
  refine OpC.callV rfl rfl rfl rfl rfl rfl rfl (fun _ => rsize_ok n) ?_
  refine ⟨fun hg => ?_, ⟨fun _ => rfl, fun h2 => ?_⟩⟩
  · have hg : ((((!szB n || decide (off < 0)) || decide (IntKind.i64.wrap (8 - n) < off)) == false)) = true := hg
    exact msk_ne (x := true) (y := true) (z := true) h (by simpa using hg)
  · have h2 : mskX off n = false := h2
    rw [h] at h2; cases h2
theorem mask_ok (off n : Int) : CtrV Tryz.prog 293 [.i .i64 off, .i .i64 n] (.i .i64 (mskF off n)) := by
  unfold mskF
  cases h : mskX off n with
  | true => exact mask_no h
  | false =>
    rcases msk_cases h with ⟨rfl, rfl | rfl | rfl | rfl | rfl | rfl | rfl | rfl⟩ | ⟨rfl, rfl | rfl | rfl | rfl⟩ | ⟨rfl, rfl | rfl⟩ | ⟨rfl, rfl⟩
    all_goals exact call_of (by decide +kernel)
theorem rmask_ok (off n : Int) : CtrV Tryz.prog 273 [.i .i64 off, .i .i64 n] (.i .i64 (mskF off n)) := by
  unfold mskF
  cases h : mskX off n with
  | true => exact rmask_no h
  | false =>
    rcases msk_cases h with ⟨rfl, rfl | rfl | rfl | rfl | rfl | rfl | rfl | rfl⟩ | ⟨rfl, rfl | rfl | rfl | rfl⟩ | ⟨rfl, rfl | rfl⟩ | ⟨rfl, rfl⟩
    all_goals exact call_of (by decide +kernel)
theorem msk_nz (off n : Int) : (!decide (mskF off n = 0)) = !mskX off n := by
  unfold mskF
  cases h : mskX off n with
  | true => rfl
  | false =>
    rcases msk_cases h with ⟨rfl, rfl | rfl | rfl | rfl | rfl | rfl | rfl | rfl⟩ | ⟨rfl, rfl | rfl | rfl | rfl⟩ | ⟨rfl, rfl | rfl⟩ | ⟨rfl, rfl⟩ <;> rfl
def ixB (x : Int) : Bool := decide (x = -1) || rgB x
def accB (i : In) : Bool := ((decide (0 ≤ i.loc) && decide (i.loc < 3)) && !mskX i.off i.sz) && ixB i.ix
theorem access_ok (i : In) : CtrV Tryz.prog 271 [.agg (ienc i)] (.b (accB i)) := by
  refine Ctr.enterV tabOkF (fn := Tryz.f271) rfl rfl rfl rfl rfl rfl ?_
  refine OpC.callV rfl rfl rfl rfl rfl rfl rfl (fun _ => mask_ok i.off i.sz) ?_
  refine OpC.callV rfl rfl rfl rfl rfl rfl rfl (fun _ => register_ok i.ix) ?_
  refine b_cg ?_
  show (((decide (0 ≤ i.loc) && decide (i.loc < 3)) && !decide (mskF i.off i.sz = 0)) && (decide (i.ix = -1) || rgB i.ix)) = accB i
  rw [msk_nz]; rfl
theorem rplace_ok (i : In) : CtrV Tryz.prog 223 [.agg (ienc i)] (.b (accB i)) := by
  refine Ctr.enterV tabOkF (fn := Tryz.f223) rfl rfl rfl rfl rfl rfl ?_
  refine OpC.callV rfl rfl rfl rfl rfl rfl rfl (fun _ => rmask_ok i.off i.sz) ?_
  refine OpC.callV rfl rfl rfl rfl rfl rfl rfl (fun _ => rrg_ok i.ix) ?_
  refine b_cg ?_
  show (((decide (0 ≤ i.loc) && decide (i.loc < 3)) && !decide (mskF i.off i.sz = 0)) && (decide (i.ix = -1) || rgB i.ix)) = accB i
  rw [msk_nz]; rfl
theorem reads_ok (i : In) : CtrV Tryz.prog 256 [.agg (ienc i)] (.b (decide (i.op = 4) || decide (i.op = 6))) := by
  refine Ctr.enterV tabOkF (fn := Tryz.f256) rfl rfl rfl rfl rfl rfl ?_
  exact rfl
theorem writes_ok (i : In) : CtrV Tryz.prog 257 [.agg (ienc i)] (.b (decide (i.op = 5) || decide (i.op = 6))) := by
  refine Ctr.enterV tabOkF (fn := Tryz.f257) rfl rfl rfl rfl rfl rfl ?_
  exact rfl
end SX
end Go.Proofs.YtlgjjklikbpcoaaGreatDoor

/- Conditions: what they are, what they say, in plain terms. -/
set_option linter.unusedVariables false
namespace Go.Proofs.YtlgjjklikbpcoaaGreatDoor
namespace SX
open Go Go.Proofs
theorem Joins.nil {new : List SV} : Joins [] new new := ⟨fun E => rfl, fun m V _ h => h⟩
end SX
end Go.Proofs.YtlgjjklikbpcoaaGreatDoor

/- Conditions: parts, one, Right. -/
set_option linter.unusedVariables false
set_option maxRecDepth 100000
namespace Go.Proofs.YtlgjjklikbpcoaaGreatDoor
namespace SX
open Go Go.Proofs
end SX
end Go.Proofs.YtlgjjklikbpcoaaGreatDoor

/- Conditions: Right. -/
set_option linter.unusedVariables false
set_option maxRecDepth 100000
namespace Go.Proofs.YtlgjjklikbpcoaaGreatDoor
namespace SX
open Go Go.Proofs
end SX
end Go.Proofs.YtlgjjklikbpcoaaGreatDoor

/- Conditions: what a node says, the closure of Eval, fold. -/
set_option linter.unusedVariables false
set_option maxRecDepth 100000
namespace Go.Proofs.YtlgjjklikbpcoaaGreatDoor
namespace SX
open Go Go.Proofs
section
variable {P : Program} {T : Tb}
theorem Ctr.enterG (hT : TabOk P T) {f : FuncId} {fn : Func} {c : Code} {n : Nat} (hf : P.funcs[f]? = some fn) (hb : fn.body = some c) (hn : fn.ntmps = n) (hnm : (fn.name == "runtime.NumGoroutine") = false) {args : List SV} {H : List SB} {r : SV}
    (hl : Nat.ble args.length n = true) (hr : Bnd H.length r) (hH : BndH H.length H) (h : sx P T c (retK T fn.results.toList (fun r' h => r' = r ∧ ∃ X, h = H ++ X)) ⟨args ++ List.replicate (n - args.length) .dead, H⟩) : Ctr P f args H (fun r' h => r' = r ∧ h = H) := by
  have h1 := Ctr.enter hT hf hb hn hnm hl h
  exact h1.trim callX_m fun r' H1 ⟨e, X, hX⟩ => ⟨H, X, hX, Nat.le_refl _, hH, by rw [e]; exact hr, e, rfl⟩
end
end SX
end Go.Proofs.YtlgjjklikbpcoaaGreatDoor

/- A run of the program, as a memo. Made by memo.py. -/
set_option maxRecDepth 100000
namespace Go.Proofs.YtlgjjklikbpcoaaGreatDoor
namespace SX
open Go Go.Proofs
end SX
end Go.Proofs.YtlgjjklikbpcoaaGreatDoor

/- A run of the program, as a memo. Made by memo.py. -/
set_option maxRecDepth 100000
namespace Go.Proofs.YtlgjjklikbpcoaaGreatDoor
namespace SX
open Go Go.Proofs
def CdRLang : Memo := ⟨80,
  [],
  [],
  (.ptr 1 1 0
  []),
  [(.mem 9 [(.s [97, 48]), (.s [97, 49]), (.s [97, 50]), (.s [97, 51]), (.s [97, 52]), (.s [97, 53]), (.s [97, 54]), (.s [97, 55])] 1 0), (.mem 116 [(.sl 0 1 0 8 (.some 8) 0), (.s
  []), (.fn 156 []), (.fn 157 [])] 1
  0)]⟩
theorem CdRLang_ok : MemoOk Tryz.prog CdRLang := memo_of (tr := treeF) (ft := ftree) (ms := []) (n := 40) tabOkF ftOk mixed (by intro m hm; cases hm) (by decide +kernel)
end SX
end Go.Proofs.YtlgjjklikbpcoaaGreatDoor

/- A run of the program, as a memo. Made by memo.py. -/
set_option maxRecDepth 100000
namespace Go.Proofs.YtlgjjklikbpcoaaGreatDoor
namespace SX
open Go Go.Proofs
end SX
end Go.Proofs.YtlgjjklikbpcoaaGreatDoor

/- Names of registers: the program's, the reference's. -/
set_option linter.unusedVariables false
set_option maxRecDepth 100000
namespace Go.Proofs.YtlgjjklikbpcoaaGreatDoor
namespace SX
open Go Go.Proofs
def regsL (a : Int) : List (List UInt8) :=
  if a = 1 then [[82, 65, 88], [82, 66, 88], [82, 67, 88], [82, 68, 88], [82, 83, 73], [82, 68, 73], [82, 56], [82, 57]]
  else if a = 2 then [[97, 48], [97, 49], [97, 50], [97, 51], [97, 52], [97, 53], [97, 54], [97, 55]]
  else if a = 3 then [[88, 48], [88, 49], [88, 50], [88, 51], [88, 52], [88, 53], [88, 54], [88, 55]]
  else []
def nameF (a n : Int) : List UInt8 := if 0 ≤ n ∧ n < 8 then (regsL a).getD n.toNat [] else []
def rowS (s0 s1 s2 s3 s4 s5 s6 s7 : List UInt8) : SB := .mem 9 [.s s0, .s s1, .s s2, .s s3, .s s4, .s s5, .s s6, .s s7] 1 0
def langB (h : List UInt8) (rd pr : Nat) : SB := .mem 116 [.sl 0 1 0 8 (some 8) 0, .s h, .fn rd [], .fn pr []] 1 0
theorem bndLang {s0 s1 s2 s3 s4 s5 s6 s7 h : List UInt8} {rd pr : Nat} : BndH 2 [rowS s0 s1 s2 s3 s4 s5 s6 s7, langB h rd pr] := ⟨⟨rfl, rfl, rfl, rfl, rfl, rfl, rfl, rfl, trivial⟩, ⟨rfl, rfl, rfl, rfl, trivial⟩, trivial⟩
theorem s_congr {x y : List UInt8} (h : x = y) : SV.s x = SV.s y := congrArg SV.s h
theorem cases8 {n : Int} (h0 : 0 ≤ n) (h8 : n < 8) : n = 0 ∨ n = 1 ∨ n = 2 ∨ n = 3 ∨ n = 4 ∨ n = 5 ∨ n = 6 ∨ n = 7 := by omega
theorem riscv_lang : Ctr Tryz.prog 80 [] [] (fun r h => r = .ptr 1 1 0 [] ∧ h = [rowS [97, 48] [97, 49] [97, 50] [97, 51] [97, 52] [97, 53] [97, 54] [97, 55], langB [] 156 157]) := CdRLang_ok
theorem regsL_none {a : Int} (h1 : ¬ a = 1) (h2 : ¬ a = 2) (h3 : ¬ a = 3) (n : Int) : nameF a n = [] := by
  unfold nameF regsL
  rw [if_neg h1, if_neg h2, if_neg h3]
  split <;> rfl
theorem rname_ok (a n : Int) : CtrV Tryz.prog 26 [.i .i64 a, .i .i64 n] (.s (nameF a n)) := by
  refine Ctr.enterV tabOkF (fn := Tryz.f26) rfl rfl rfl rfl rfl rfl ?_
  refine ⟨fun h1 => s_congr ?_, fun h1 => ?_⟩
  · have h1 : (decide (n < 0) || decide ((7 : Int) < n)) = true := h1
    simp only [Bool.or_eq_true, decide_eq_true_eq] at h1
    unfold nameF
    rw [if_neg (by omega)]
  · have h1 : (decide (n < 0) || decide ((7 : Int) < n)) = false := h1
    simp only [Bool.or_eq_false_iff, decide_eq_false_iff_not] at h1
    refine ⟨fun h2 => ?_, fun h2 => ⟨fun h3 => ?_, fun h3 => ⟨fun h4 => ?_, fun h4 => ?_⟩⟩⟩
    · obtain rfl : a = 1 := of_decide_eq_true h2
      rcases cases8 (n := n) (by omega) (by omega) with rfl | rfl | rfl | rfl | rfl | rfl | rfl | rfl
      all_goals exact ⟨fun _ => by decide, rfl⟩
    · obtain rfl : a = 2 := of_decide_eq_true h3
      rcases cases8 (n := n) (by omega) (by omega) with rfl | rfl | rfl | rfl | rfl | rfl | rfl | rfl
      all_goals exact ⟨fun _ => by decide, ⟨fun _ => by decide, rfl⟩⟩
    · obtain rfl : a = 3 := of_decide_eq_true h4
      rcases cases8 (n := n) (by omega) (by omega) with rfl | rfl | rfl | rfl | rfl | rfl | rfl | rfl
      all_goals exact ⟨fun _ => by decide, ⟨fun _ => by decide, rfl⟩⟩
    · exact s_congr (regsL_none (of_decide_eq_false h2) (of_decide_eq_false h3) (of_decide_eq_false h4) n).symm
end SX
end Go.Proofs.YtlgjjklikbpcoaaGreatDoor

/- The laying of a contract of the shelf at this program. -/
set_option maxRecDepth 100000
namespace Go.Proofs
open Go.Shelf
end Go.Proofs
