/- A part of SX: symbolic and concrete runs of the program, with contracts of functions; lemmas without further conditions. -/
import Derived.Test.YtlgjjklikbpcoaaGreatDoorChecked
import Derived.Shelf.Lays
import Derived.Shelf.Strings.OnBuilder
import Derived.Test.YtlgjjklikbpcoaaGreatDoorYR
set_option linter.unusedVariables false
set_option linter.unusedSimpArgs false
set_option linter.unusedSectionVars false
/- Conditions as text, plain: trees, their texts, and the rows of both. -/
set_option linter.unusedVariables false
namespace Go.Proofs.YtlgjjklikbpcoaaGreatDoor
namespace SX
open Go Go.Proofs
end SX
end Go.Proofs.YtlgjjklikbpcoaaGreatDoor

/- The laying of a contract of the shelf at this program. -/
set_option maxRecDepth 100000
namespace Go.Proofs
open Go.Shelf
def Tryz.TJoin_ren : Go.Shelf.Ren := ⟨fun | 156 => 99 | 165 => 175 | 166 => 97 | 169 => 102 | 240 => 173 | 241 => 254 | 276 => 253 | 277 => 287 | n => n, fun | 31 => 99 | 9 => 9 | 3 => 3 | 4 => 4 | 0 => 0 | 20 => 20 | 72 => 142 | 76 => 145 | 70 => 139 | 37 => 140 | 75 => 144 | 127 => 215 | 164 => 268 | 5 => 5 | 80 => 152 | n => n, fun | n => n⟩
theorem Tryz.TJoin : Go.Proofs.Lays.n156 Tryz.prog Tryz.TJoin_ren := {
  mixed := by kernel_rfl
  f156 := Tryz.func99.trans (congrArg some (by kernel_rfl))
  f165 := Tryz.func175.trans (congrArg some (by kernel_rfl))
  f166 := Tryz.func97.trans (congrArg some (by kernel_rfl))
  f169 := Tryz.func102.trans (congrArg some (by kernel_rfl))
  f240 := Tryz.func173.trans (congrArg some (by kernel_rfl))
  f241 := Tryz.func254.trans (congrArg some (by kernel_rfl))
  f276 := Tryz.func253.trans (congrArg some (by kernel_rfl))
  f277 := Tryz.func287.trans (congrArg some (by kernel_rfl))
  t0 := Tryz.underlying0
  a0 := Tryz.isAgg0
  z0 := Tryz.sizeOf0
  v0 := Tryz.zeroValue0
  t3 := Tryz.underlying3
  a3 := Tryz.isAgg3
  z3 := Tryz.sizeOf3
  v3 := Tryz.zeroValue3
  t4 := Tryz.underlying4
  a4 := Tryz.isAgg4
  z4 := Tryz.sizeOf4
  v4 := Tryz.zeroValue4
  t9 := Tryz.underlying9
  a9 := Tryz.isAgg9
  z9 := Tryz.sizeOf9
  v9 := Tryz.zeroValue9
  t20 := Tryz.underlying20
  a20 := Tryz.isAgg20
  z20 := Tryz.sizeOf20
  v20 := Tryz.zeroValue20
  t31 := Tryz.underlying99
  a31 := Tryz.isAgg99
  z31 := Tryz.sizeOf99
  v31 := Tryz.zeroValue99
  t37 := Tryz.underlying140
  a37 := Tryz.isAgg140
  z37 := Tryz.sizeOf140
  v37 := Tryz.zeroValue140
  t70 := Tryz.underlying139
  a70 := Tryz.isAgg139
  z70 := Tryz.sizeOf139
  v70 := Tryz.zeroValue139
  t72 := Tryz.underlying142
  a72 := Tryz.isAgg142
  z72 := Tryz.sizeOf142
  v72 := Tryz.zeroValue142
  t75 := Tryz.underlying144
  a75 := Tryz.isAgg144
  z75 := Tryz.sizeOf144
  v75 := Tryz.zeroValue144
  t76 := Tryz.underlying145
  a76 := Tryz.isAgg145
  z76 := Tryz.sizeOf145
  v76 := Tryz.zeroValue145
  t127 := Tryz.underlying215
  a127 := Tryz.isAgg215
  z127 := Tryz.sizeOf215
  v127 := Tryz.zeroValue215
  t164 := Tryz.underlying268
  a164 := Tryz.isAgg268
  z164 := Tryz.sizeOf268
  v164 := Tryz.zeroValue268 }
end Go.Proofs

/- Texts of instructions: lines of operands. -/
set_option linter.unusedVariables false
set_option maxRecDepth 100000
namespace Go.Proofs.YtlgjjklikbpcoaaGreatDoor
open Go.Shelf in
theorem Tryz.joinX : Builder.Extra Tryz.prog Tryz.TJoin_ren := ⟨⟨by kernel_rfl, by kernel_rfl⟩, Tryz.underlying5, Tryz.isAgg5, Tryz.sizeOf5, Tryz.zeroValue5, by kernel_rfl, by kernel_rfl, by kernel_rfl, by decide⟩
namespace SX
open Go Go.Proofs
theorem drNo : drKeep = false := rfl
def strB (xs : List (List UInt8)) : SB := .mem 9 (xs.map .s) 1 0
theorem cells_s (E : Env) : ∀ xs : List (List UInt8), cellsL E (xs.map .s) = xs.map fun x => Value.string ⟨⟨x⟩⟩
  | [] => rfl
  | x :: r => by simp [cellsL, cells, cells_s E r]
theorem join_ok (xs : List (List UInt8)) (n : Nat) (hn : xs.length = n) (hn2 : n ≤ 1000) (sep : List UInt8) (hl : (Lib.join xs sep).length ≤ 140737488355328) :
    Ctr Tryz.prog 99 [.sl 0 1 0 n (some n) 0, .s sep] [strB xs] (fun r h => r = .s (Lib.join xs sep) ∧ h = [strB xs]) :=
  Ctr.of_below drNo (fn := Tryz.f99) Tryz.func99 rfl rfl (fun m => trivial) rfl fun C E m w hr ha => by
    obtain ⟨_, b, c, e1, e2, _⟩ := hr.bl 0 _ rfl
    have hbs : b < w.heap.size := size_of_heap e2
    have hargs : (denL E [.sl 0 1 0 n (some n) 0, .s sep]).toArray = #[.slice (some ⟨b, 0, none⟩) (xs.map fun x => (⟨⟨x⟩⟩ : ByteArray)).length n, .string ⟨⟨sep⟩⟩] := by
      simp [denL, wrapV, cells, e1, hn]
    have hmm : (xs.map fun x => (⟨⟨x⟩⟩ : ByteArray)).map (·.data.toList) = xs := by simp [Function.comp_def]
    rw [hargs]
    have := Any.strings_Join Tryz.TJoin Tryz.joinX b 0 n (xs.map fun x => (⟨⟨x⟩⟩ : ByteArray)) ⟨⟨sep⟩⟩ w (fun j x hx => by
      rw [cell_of_heap e2, Nat.zero_add, cells_s]
      simp only [List.getElem?_map, Option.map_eq_some_iff] at hx ⊢
      obtain ⟨y, hy, rfl⟩ := hx
      exact ⟨y, hy, rfl⟩) hbs (by simp; omega) (by simp; omega) (by rw [hmm]; exact hl)
    rw [hmm] at this
    exact this
def endF (z : Int) (e0 e1 e2 e3 : List UInt8) : List UInt8 := if z = 1 then e0 else if z = 2 then e1 else if z = 4 then e2 else if z = 8 then e3 else []
end SX
end Go.Proofs.YtlgjjklikbpcoaaGreatDoor

/- Which instructions are well formed: the program's answer. Printed by uib.py. -/
set_option linter.unusedVariables false
set_option maxRecDepth 100000
namespace Go.Proofs.YtlgjjklikbpcoaaGreatDoor
namespace SX
open Go Go.Proofs
def eqI (x y : In) : Bool := (decide (x.op = y.op) && (decide (x.dst = y.dst) && (decide (x.a = y.a) && (decide (x.b = y.b) && (decide (x.imm = y.imm) && (decide (x.loc = y.loc) && (decide (x.off = y.off) && (decide (x.ix = y.ix) && (decide (x.sz = y.sz) && (decide (x.fn = y.fn) && ((x.acq == y.acq) && ((x.wk == y.wk) && ((x.rel == y.rel) && (decide (x.pr = y.pr) && (decide (x.su = y.su) && (decide (x.to = y.to) && (x.ze == y.ze)))))))))))))))))
theorem no_tf {P : Prop} (h : true = false) : P := nomatch h
theorem no_ft {P : Prop} (h : false = true) : P := nomatch h
theorem ufence_ok (n : Int) : CtrV Tryz.prog 272 [.i .i64 n] (.b (fnB n)) := by
  refine Ctr.enterV tabOkF (fn := Tryz.f272) rfl rfl rfl rfl rfl rfl ?_
  exact rfl
theorem formed_1 (dst a b imm loc off ix sz fn pr su to : Int) (acq wk rel ze : Bool)  : CtrV Tryz.prog 217 [.agg (ienc ⟨1, dst, a, b, imm, loc, off, ix, sz, fn, acq, wk, rel, pr, su, to, ze⟩)] (.b (rgB dst && eqI ⟨1, dst, (-1), (-1), imm, 0, 0, (-1), 0, 0, false, false, false, 0, 0, 0, false⟩ ⟨1, dst, a, b, imm, loc, off, ix, sz, fn, acq, wk, rel, pr, su, to, ze⟩)) := by
  refine Ctr.enterV tabOkF (fn := Tryz.f217) rfl rfl rfl rfl rfl rfl ?_
  refine ⟨fun _ => ?_, fun h => no_tf h⟩
  refine WpC.dr tabOkF mixed 0 ⟨by kernel_rfl, ?_⟩
  refine OpC.callV rfl rfl rfl rfl rfl rfl rfl (fun _ => register_ok dst) ?_
  refine OpC.callV rfl rfl rfl rfl rfl rfl rfl (fun _ => reads_ok ⟨1, dst, a, b, imm, loc, off, ix, sz, fn, acq, wk, rel, pr, su, to, ze⟩) ?_
  refine OpC.callV rfl rfl rfl rfl rfl rfl rfl (fun _ => writes_ok ⟨1, dst, a, b, imm, loc, off, ix, sz, fn, acq, wk, rel, pr, su, to, ze⟩) ?_
  refine ⟨fun h => no_ft h, fun _ => ?_⟩
  exact rfl
theorem formed_2 (dst a b imm loc off ix sz fn pr su to : Int) (acq wk rel ze : Bool)  : CtrV Tryz.prog 217 [.agg (ienc ⟨2, dst, a, b, imm, loc, off, ix, sz, fn, acq, wk, rel, pr, su, to, ze⟩)] (.b ((rgB dst && rgB a) && eqI ⟨2, dst, a, (-1), 0, 0, 0, (-1), 0, 0, false, false, false, 0, 0, 0, false⟩ ⟨2, dst, a, b, imm, loc, off, ix, sz, fn, acq, wk, rel, pr, su, to, ze⟩)) := by
  refine Ctr.enterV tabOkF (fn := Tryz.f217) rfl rfl rfl rfl rfl rfl ?_
  refine ⟨fun h => no_ft h, fun _ => ?_⟩
  refine ⟨fun _ => ?_, fun h => no_tf h⟩
  refine WpC.dr tabOkF mixed 0 ⟨by kernel_rfl, ?_⟩
  refine OpC.callV rfl rfl rfl rfl rfl rfl rfl (fun _ => register_ok dst) ?_
  refine OpC.callV rfl rfl rfl rfl rfl rfl rfl (fun _ => register_ok a) ?_
  refine OpC.callV rfl rfl rfl rfl rfl rfl rfl (fun _ => reads_ok ⟨2, dst, a, b, imm, loc, off, ix, sz, fn, acq, wk, rel, pr, su, to, ze⟩) ?_
  refine OpC.callV rfl rfl rfl rfl rfl rfl rfl (fun _ => writes_ok ⟨2, dst, a, b, imm, loc, off, ix, sz, fn, acq, wk, rel, pr, su, to, ze⟩) ?_
  refine ⟨fun h => no_ft h, fun _ => ?_⟩
  exact rfl
theorem formed_3i (dst a b imm loc off ix sz fn pr su to : Int) (acq wk rel ze : Bool) (hb : b = -1) : CtrV Tryz.prog 217 [.agg (ienc ⟨3, dst, a, b, imm, loc, off, ix, sz, fn, acq, wk, rel, pr, su, to, ze⟩)] (.b ((((rgB dst && rgB a) && decide (1 ≤ fn)) && decide (fn ≤ 5)) && eqI ⟨3, dst, a, b, imm, 0, 0, (-1), 0, fn, false, false, false, 0, 0, 0, false⟩ ⟨3, dst, a, b, imm, loc, off, ix, sz, fn, acq, wk, rel, pr, su, to, ze⟩)) := by
  refine Ctr.enterV tabOkF (fn := Tryz.f217) rfl rfl rfl rfl rfl rfl ?_
  refine ⟨fun h => no_ft h, fun _ => ?_⟩
  refine ⟨fun h => no_ft h, fun _ => ?_⟩
  refine ⟨fun _ => ?_, fun h => no_tf h⟩
  refine WpC.dr tabOkF mixed 0 ⟨by kernel_rfl, ?_⟩
  refine OpC.callV rfl rfl rfl rfl rfl rfl rfl (fun _ => register_ok dst) ?_
  refine OpC.callV rfl rfl rfl rfl rfl rfl rfl (fun _ => register_ok a) ?_
  refine ⟨fun _ => ?_, fun h => absurd hb (of_decide_eq_false h)⟩
  refine OpC.callV rfl rfl rfl rfl rfl rfl rfl (fun _ => reads_ok ⟨3, dst, a, b, imm, loc, off, ix, sz, fn, acq, wk, rel, pr, su, to, ze⟩) ?_
  refine OpC.callV rfl rfl rfl rfl rfl rfl rfl (fun _ => writes_ok ⟨3, dst, a, b, imm, loc, off, ix, sz, fn, acq, wk, rel, pr, su, to, ze⟩) ?_
  refine ⟨fun h => no_ft h, fun _ => ?_⟩
  exact rfl
theorem formed_3r (dst a b imm loc off ix sz fn pr su to : Int) (acq wk rel ze : Bool) (hb : ¬ b = -1) : CtrV Tryz.prog 217 [.agg (ienc ⟨3, dst, a, b, imm, loc, off, ix, sz, fn, acq, wk, rel, pr, su, to, ze⟩)] (.b (((((rgB dst && rgB a) && decide (1 ≤ fn)) && decide (fn ≤ 5)) && rgB b) && eqI ⟨3, dst, a, b, 0, 0, 0, (-1), 0, fn, false, false, false, 0, 0, 0, false⟩ ⟨3, dst, a, b, imm, loc, off, ix, sz, fn, acq, wk, rel, pr, su, to, ze⟩)) := by
  refine Ctr.enterV tabOkF (fn := Tryz.f217) rfl rfl rfl rfl rfl rfl ?_
  refine ⟨fun h => no_ft h, fun _ => ?_⟩
  refine ⟨fun h => no_ft h, fun _ => ?_⟩
  refine ⟨fun _ => ?_, fun h => no_tf h⟩
  refine WpC.dr tabOkF mixed 0 ⟨by kernel_rfl, ?_⟩
  refine OpC.callV rfl rfl rfl rfl rfl rfl rfl (fun _ => register_ok dst) ?_
  refine OpC.callV rfl rfl rfl rfl rfl rfl rfl (fun _ => register_ok a) ?_
  refine ⟨fun h => absurd (of_decide_eq_true h) hb, fun _ => ?_⟩
  refine OpC.callV rfl rfl rfl rfl rfl rfl rfl (fun _ => register_ok b) ?_
  refine OpC.callV rfl rfl rfl rfl rfl rfl rfl (fun _ => reads_ok ⟨3, dst, a, b, imm, loc, off, ix, sz, fn, acq, wk, rel, pr, su, to, ze⟩) ?_
  refine OpC.callV rfl rfl rfl rfl rfl rfl rfl (fun _ => writes_ok ⟨3, dst, a, b, imm, loc, off, ix, sz, fn, acq, wk, rel, pr, su, to, ze⟩) ?_
  refine ⟨fun h => no_ft h, fun _ => ?_⟩
  exact rfl
theorem formed_4 (dst a b imm loc off ix sz fn pr su to : Int) (acq wk rel ze : Bool)  : CtrV Tryz.prog 217 [.agg (ienc ⟨4, dst, a, b, imm, loc, off, ix, sz, fn, acq, wk, rel, pr, su, to, ze⟩)] (.b (((rgB dst && accB ⟨4, dst, a, b, imm, loc, off, ix, sz, fn, acq, wk, rel, pr, su, to, ze⟩) && !(acq && wk)) && eqI ⟨4, dst, (-1), (-1), 0, loc, off, ix, sz, 0, acq, wk, false, 0, 0, 0, false⟩ ⟨4, dst, a, b, imm, loc, off, ix, sz, fn, acq, wk, rel, pr, su, to, ze⟩)) := by
  refine Ctr.enterV tabOkF (fn := Tryz.f217) rfl rfl rfl rfl rfl rfl ?_
  refine ⟨fun h => no_ft h, fun _ => ?_⟩
  refine ⟨fun h => no_ft h, fun _ => ?_⟩
  refine ⟨fun h => no_ft h, fun _ => ?_⟩
  refine ⟨fun _ => ?_, fun h => no_tf h⟩
  refine WpC.dr tabOkF mixed 0 ⟨by kernel_rfl, ?_⟩
  refine OpC.callV rfl rfl rfl rfl rfl rfl rfl (fun _ => register_ok dst) ?_
  refine OpC.callV rfl rfl rfl rfl rfl rfl rfl (fun _ => access_ok ⟨4, dst, a, b, imm, loc, off, ix, sz, fn, acq, wk, rel, pr, su, to, ze⟩) ?_
  refine OpC.callV rfl rfl rfl rfl rfl rfl rfl (fun _ => reads_ok ⟨4, dst, a, b, imm, loc, off, ix, sz, fn, acq, wk, rel, pr, su, to, ze⟩) ?_
  refine OpC.callV rfl rfl rfl rfl rfl rfl rfl (fun _ => writes_ok ⟨4, dst, a, b, imm, loc, off, ix, sz, fn, acq, wk, rel, pr, su, to, ze⟩) ?_
  refine ⟨fun _ => ?_, fun h => no_tf h⟩
  refine WpC.dr tabOkF mixed 0 ⟨by kernel_rfl, ?_⟩
  exact rfl
theorem formed_5i (dst a b imm loc off ix sz fn pr su to : Int) (acq wk rel ze : Bool) (hb : a = -1) : CtrV Tryz.prog 217 [.agg (ienc ⟨5, dst, a, b, imm, loc, off, ix, sz, fn, acq, wk, rel, pr, su, to, ze⟩)] (.b (accB ⟨5, dst, a, b, imm, loc, off, ix, sz, fn, acq, wk, rel, pr, su, to, ze⟩ && eqI ⟨5, (-1), a, (-1), imm, loc, off, ix, sz, 0, false, false, rel, 0, 0, 0, false⟩ ⟨5, dst, a, b, imm, loc, off, ix, sz, fn, acq, wk, rel, pr, su, to, ze⟩)) := by
  refine Ctr.enterV tabOkF (fn := Tryz.f217) rfl rfl rfl rfl rfl rfl ?_
  refine ⟨fun h => no_ft h, fun _ => ?_⟩
  refine ⟨fun h => no_ft h, fun _ => ?_⟩
  refine ⟨fun h => no_ft h, fun _ => ?_⟩
  refine ⟨fun h => no_ft h, fun _ => ?_⟩
  refine ⟨fun _ => ?_, fun h => no_tf h⟩
  refine WpC.dr tabOkF mixed 0 ⟨by kernel_rfl, ?_⟩
  refine OpC.callV rfl rfl rfl rfl rfl rfl rfl (fun _ => access_ok ⟨5, dst, a, b, imm, loc, off, ix, sz, fn, acq, wk, rel, pr, su, to, ze⟩) ?_
  refine ⟨fun _ => ?_, fun h => absurd hb (of_decide_eq_false h)⟩
  refine OpC.callV rfl rfl rfl rfl rfl rfl rfl (fun _ => reads_ok ⟨5, dst, a, b, imm, loc, off, ix, sz, fn, acq, wk, rel, pr, su, to, ze⟩) ?_
  refine OpC.callV rfl rfl rfl rfl rfl rfl rfl (fun _ => writes_ok ⟨5, dst, a, b, imm, loc, off, ix, sz, fn, acq, wk, rel, pr, su, to, ze⟩) ?_
  refine ⟨fun _ => ?_, fun h => no_tf h⟩
  refine WpC.dr tabOkF mixed 0 ⟨by kernel_rfl, ?_⟩
  exact rfl
theorem formed_5r (dst a b imm loc off ix sz fn pr su to : Int) (acq wk rel ze : Bool) (hb : ¬ a = -1) : CtrV Tryz.prog 217 [.agg (ienc ⟨5, dst, a, b, imm, loc, off, ix, sz, fn, acq, wk, rel, pr, su, to, ze⟩)] (.b ((accB ⟨5, dst, a, b, imm, loc, off, ix, sz, fn, acq, wk, rel, pr, su, to, ze⟩ && rgB a) && eqI ⟨5, (-1), a, (-1), 0, loc, off, ix, sz, 0, false, false, rel, 0, 0, 0, false⟩ ⟨5, dst, a, b, imm, loc, off, ix, sz, fn, acq, wk, rel, pr, su, to, ze⟩)) := by
  refine Ctr.enterV tabOkF (fn := Tryz.f217) rfl rfl rfl rfl rfl rfl ?_
  refine ⟨fun h => no_ft h, fun _ => ?_⟩
  refine ⟨fun h => no_ft h, fun _ => ?_⟩
  refine ⟨fun h => no_ft h, fun _ => ?_⟩
  refine ⟨fun h => no_ft h, fun _ => ?_⟩
  refine ⟨fun _ => ?_, fun h => no_tf h⟩
  refine WpC.dr tabOkF mixed 0 ⟨by kernel_rfl, ?_⟩
  refine OpC.callV rfl rfl rfl rfl rfl rfl rfl (fun _ => access_ok ⟨5, dst, a, b, imm, loc, off, ix, sz, fn, acq, wk, rel, pr, su, to, ze⟩) ?_
  refine ⟨fun h => absurd (of_decide_eq_true h) hb, fun _ => ?_⟩
  refine OpC.callV rfl rfl rfl rfl rfl rfl rfl (fun _ => register_ok a) ?_
  refine OpC.callV rfl rfl rfl rfl rfl rfl rfl (fun _ => reads_ok ⟨5, dst, a, b, imm, loc, off, ix, sz, fn, acq, wk, rel, pr, su, to, ze⟩) ?_
  refine OpC.callV rfl rfl rfl rfl rfl rfl rfl (fun _ => writes_ok ⟨5, dst, a, b, imm, loc, off, ix, sz, fn, acq, wk, rel, pr, su, to, ze⟩) ?_
  refine ⟨fun _ => ?_, fun h => no_tf h⟩
  refine WpC.dr tabOkF mixed 0 ⟨by kernel_rfl, ?_⟩
  exact rfl
set_option maxHeartbeats 2000000 in
theorem formed_6 (dst a b imm loc off ix sz fn pr su to : Int) (acq wk rel ze : Bool)  : CtrV Tryz.prog 217 [.agg (ienc ⟨6, dst, a, b, imm, loc, off, ix, sz, fn, acq, wk, rel, pr, su, to, ze⟩)] (.b ((((rgB dst && rgB a) && accB ⟨6, dst, a, b, imm, loc, off, ix, sz, fn, acq, wk, rel, pr, su, to, ze⟩) && (decide (fn = 6) || decide (fn = 1))) && eqI ⟨6, dst, a, (-1), 0, loc, off, ix, sz, fn, acq, false, rel, 0, 0, 0, false⟩ ⟨6, dst, a, b, imm, loc, off, ix, sz, fn, acq, wk, rel, pr, su, to, ze⟩)) := by
  refine Ctr.enterV tabOkF (fn := Tryz.f217) rfl rfl rfl rfl rfl rfl ?_
  refine ⟨fun h => no_ft h, fun _ => ?_⟩
  refine ⟨fun h => no_ft h, fun _ => ?_⟩
  refine ⟨fun h => no_ft h, fun _ => ?_⟩
  refine ⟨fun h => no_ft h, fun _ => ?_⟩
  refine ⟨fun h => no_ft h, fun _ => ?_⟩
  refine ⟨fun _ => ?_, fun h => no_tf h⟩
  refine WpC.dr tabOkF mixed 0 ⟨by kernel_rfl, ?_⟩
  refine OpC.callV rfl rfl rfl rfl rfl rfl rfl (fun _ => register_ok dst) ?_
  refine OpC.callV rfl rfl rfl rfl rfl rfl rfl (fun _ => register_ok a) ?_
  refine OpC.callV rfl rfl rfl rfl rfl rfl rfl (fun _ => access_ok ⟨6, dst, a, b, imm, loc, off, ix, sz, fn, acq, wk, rel, pr, su, to, ze⟩) ?_
  refine OpC.callV rfl rfl rfl rfl rfl rfl rfl (fun _ => reads_ok ⟨6, dst, a, b, imm, loc, off, ix, sz, fn, acq, wk, rel, pr, su, to, ze⟩) ?_
  refine OpC.callV rfl rfl rfl rfl rfl rfl rfl (fun _ => writes_ok ⟨6, dst, a, b, imm, loc, off, ix, sz, fn, acq, wk, rel, pr, su, to, ze⟩) ?_
  refine ⟨fun _ => ?_, fun h => no_tf h⟩
  refine WpC.dr tabOkF mixed 0 ⟨by kernel_rfl, ?_⟩
  exact rfl
theorem formed_7 (dst a b imm loc off ix sz fn pr su to : Int) (acq wk rel ze : Bool)  : CtrV Tryz.prog 217 [.agg (ienc ⟨7, dst, a, b, imm, loc, off, ix, sz, fn, acq, wk, rel, pr, su, to, ze⟩)] (.b ((fnB pr && fnB su) && eqI ⟨7, (-1), (-1), (-1), 0, 0, 0, (-1), 0, 0, false, false, false, pr, su, 0, false⟩ ⟨7, dst, a, b, imm, loc, off, ix, sz, fn, acq, wk, rel, pr, su, to, ze⟩)) := by
  refine Ctr.enterV tabOkF (fn := Tryz.f217) rfl rfl rfl rfl rfl rfl ?_
  refine ⟨fun h => no_ft h, fun _ => ?_⟩
  refine ⟨fun h => no_ft h, fun _ => ?_⟩
  refine ⟨fun h => no_ft h, fun _ => ?_⟩
  refine ⟨fun h => no_ft h, fun _ => ?_⟩
  refine ⟨fun h => no_ft h, fun _ => ?_⟩
  refine ⟨fun h => no_ft h, fun _ => ?_⟩
  refine ⟨fun _ => ?_, fun h => no_tf h⟩
  refine WpC.dr tabOkF mixed 0 ⟨by kernel_rfl, ?_⟩
  refine OpC.callV rfl rfl rfl rfl rfl rfl rfl (fun _ => ufence_ok pr) ?_
  refine OpC.callV rfl rfl rfl rfl rfl rfl rfl (fun _ => ufence_ok su) ?_
  refine OpC.callV rfl rfl rfl rfl rfl rfl rfl (fun _ => reads_ok ⟨7, dst, a, b, imm, loc, off, ix, sz, fn, acq, wk, rel, pr, su, to, ze⟩) ?_
  refine OpC.callV rfl rfl rfl rfl rfl rfl rfl (fun _ => writes_ok ⟨7, dst, a, b, imm, loc, off, ix, sz, fn, acq, wk, rel, pr, su, to, ze⟩) ?_
  refine ⟨fun h => no_ft h, fun _ => ?_⟩
  exact rfl
theorem formed_8 (dst a b imm loc off ix sz fn pr su to : Int) (acq wk rel ze : Bool)  : CtrV Tryz.prog 217 [.agg (ienc ⟨8, dst, a, b, imm, loc, off, ix, sz, fn, acq, wk, rel, pr, su, to, ze⟩)] (.b (true && eqI ⟨8, (-1), (-1), (-1), 0, 0, 0, (-1), 0, 0, false, false, false, 0, 0, 0, false⟩ ⟨8, dst, a, b, imm, loc, off, ix, sz, fn, acq, wk, rel, pr, su, to, ze⟩)) := by
  refine Ctr.enterV tabOkF (fn := Tryz.f217) rfl rfl rfl rfl rfl rfl ?_
  refine ⟨fun h => no_ft h, fun _ => ?_⟩
  refine ⟨fun h => no_ft h, fun _ => ?_⟩
  refine ⟨fun h => no_ft h, fun _ => ?_⟩
  refine ⟨fun h => no_ft h, fun _ => ?_⟩
  refine ⟨fun h => no_ft h, fun _ => ?_⟩
  refine ⟨fun h => no_ft h, fun _ => ?_⟩
  refine ⟨fun h => no_ft h, fun _ => ?_⟩
  refine ⟨fun _ => ?_, fun h => no_tf h⟩
  refine OpC.callV rfl rfl rfl rfl rfl rfl rfl (fun _ => reads_ok ⟨8, dst, a, b, imm, loc, off, ix, sz, fn, acq, wk, rel, pr, su, to, ze⟩) ?_
  refine OpC.callV rfl rfl rfl rfl rfl rfl rfl (fun _ => writes_ok ⟨8, dst, a, b, imm, loc, off, ix, sz, fn, acq, wk, rel, pr, su, to, ze⟩) ?_
  refine ⟨fun h => no_ft h, fun _ => ?_⟩
  exact rfl
theorem formed_9 (dst a b imm loc off ix sz fn pr su to : Int) (acq wk rel ze : Bool)  : CtrV Tryz.prog 217 [.agg (ienc ⟨9, dst, a, b, imm, loc, off, ix, sz, fn, acq, wk, rel, pr, su, to, ze⟩)] (.b (rgB a && eqI ⟨9, (-1), a, (-1), 0, 0, 0, (-1), 0, 0, false, false, false, 0, 0, to, ze⟩ ⟨9, dst, a, b, imm, loc, off, ix, sz, fn, acq, wk, rel, pr, su, to, ze⟩)) := by
  refine Ctr.enterV tabOkF (fn := Tryz.f217) rfl rfl rfl rfl rfl rfl ?_
  refine ⟨fun h => no_ft h, fun _ => ?_⟩
  refine ⟨fun h => no_ft h, fun _ => ?_⟩
  refine ⟨fun h => no_ft h, fun _ => ?_⟩
  refine ⟨fun h => no_ft h, fun _ => ?_⟩
  refine ⟨fun h => no_ft h, fun _ => ?_⟩
  refine ⟨fun h => no_ft h, fun _ => ?_⟩
  refine ⟨fun h => no_ft h, fun _ => ?_⟩
  refine ⟨fun h => no_ft h, fun _ => ?_⟩
  refine ⟨fun _ => ?_, fun h => no_tf h⟩
  refine WpC.dr tabOkF mixed 0 ⟨by kernel_rfl, ?_⟩
  refine OpC.callV rfl rfl rfl rfl rfl rfl rfl (fun _ => register_ok a) ?_
  refine OpC.callV rfl rfl rfl rfl rfl rfl rfl (fun _ => reads_ok ⟨9, dst, a, b, imm, loc, off, ix, sz, fn, acq, wk, rel, pr, su, to, ze⟩) ?_
  refine OpC.callV rfl rfl rfl rfl rfl rfl rfl (fun _ => writes_ok ⟨9, dst, a, b, imm, loc, off, ix, sz, fn, acq, wk, rel, pr, su, to, ze⟩) ?_
  refine ⟨fun h => no_ft h, fun _ => ?_⟩
  exact rfl
end SX
end Go.Proofs.YtlgjjklikbpcoaaGreatDoor

/- Which instructions are well formed: the reference's answer, by op. Printed by uic.py. -/
set_option linter.unusedVariables false
set_option maxRecDepth 100000
namespace Go.Proofs.YtlgjjklikbpcoaaGreatDoor
namespace SX
open Go Go.Proofs
theorem formed_0 (op dst a b imm loc off ix sz fn pr su to : Int) (acq wk rel ze : Bool) (h1 : ¬ op = 1) (h2 : ¬ op = 2) (h3 : ¬ op = 3) (h4 : ¬ op = 4) (h5 : ¬ op = 5) (h6 : ¬ op = 6) (h7 : ¬ op = 7) (h8 : ¬ op = 8) (h9 : ¬ op = 9) : CtrV Tryz.prog 217 [.agg (ienc ⟨op, dst, a, b, imm, loc, off, ix, sz, fn, acq, wk, rel, pr, su, to, ze⟩)] (.b false) := by
  refine Ctr.enterV tabOkF (fn := Tryz.f217) rfl rfl rfl rfl rfl rfl ?_
  refine ⟨fun h => absurd (of_decide_eq_true h) h1, fun _ => ?_⟩
  refine ⟨fun h => absurd (of_decide_eq_true h) h2, fun _ => ?_⟩
  refine ⟨fun h => absurd (of_decide_eq_true h) h3, fun _ => ?_⟩
  refine ⟨fun h => absurd (of_decide_eq_true h) h4, fun _ => ?_⟩
  refine ⟨fun h => absurd (of_decide_eq_true h) h5, fun _ => ?_⟩
  refine ⟨fun h => absurd (of_decide_eq_true h) h6, fun _ => ?_⟩
  refine ⟨fun h => absurd (of_decide_eq_true h) h7, fun _ => ?_⟩
  refine ⟨fun h => absurd (of_decide_eq_true h) h8, fun _ => ?_⟩
  refine ⟨fun h => absurd (of_decide_eq_true h) h9, fun _ => ?_⟩
  refine OpC.callV rfl rfl rfl rfl rfl rfl rfl (fun _ => reads_ok ⟨op, dst, a, b, imm, loc, off, ix, sz, fn, acq, wk, rel, pr, su, to, ze⟩) ?_
  refine OpC.callV rfl rfl rfl rfl rfl rfl rfl (fun _ => writes_ok ⟨op, dst, a, b, imm, loc, off, ix, sz, fn, acq, wk, rel, pr, su, to, ze⟩) ?_
  refine ⟨fun h => ?_, fun _ => ?_⟩
  · have h : ((decide (op = 4) || decide (op = 6)) || (decide (op = 5) || decide (op = 6))) = true := h
    rw [decide_eq_false h4, decide_eq_false h5, decide_eq_false h6] at h
    cases h
  exact rfl
theorem bare_1 (dst a b imm loc off ix sz fn pr su to : Int) (acq wk rel ze : Bool) : CtrV Tryz.prog 147 [.agg (ienc ⟨1, dst, a, b, imm, loc, off, ix, sz, fn, acq, wk, rel, pr, su, to, ze⟩)] (.tup [.agg (ienc ⟨0, (-1), a, b, 0, loc, off, ix, sz, fn, acq, wk, rel, pr, su, to, ze⟩), .b (rgB dst)]) := by
  refine Ctr.enterV tabOkF (fn := Tryz.f147) rfl rfl rfl rfl rfl rfl ?_
  refine ⟨fun _ => ?_, fun h => no_tf h⟩
  refine OpC.callV rfl rfl rfl rfl rfl rfl rfl (fun _ => rrg_ok dst) ?_
  refine ⟨fun h => no_ft h, fun _ => ?_⟩
  exact rfl
theorem bare_2 (dst a b imm loc off ix sz fn pr su to : Int) (acq wk rel ze : Bool) : CtrV Tryz.prog 147 [.agg (ienc ⟨2, dst, a, b, imm, loc, off, ix, sz, fn, acq, wk, rel, pr, su, to, ze⟩)] (.tup [.agg (ienc ⟨0, (-1), (-1), b, imm, loc, off, ix, sz, fn, acq, wk, rel, pr, su, to, ze⟩), .b (rgB dst && rgB a)]) := by
  refine Ctr.enterV tabOkF (fn := Tryz.f147) rfl rfl rfl rfl rfl rfl ?_
  refine ⟨fun h => no_ft h, fun _ => ?_⟩
  refine ⟨fun _ => ?_, fun h => no_tf h⟩
  refine OpC.callV rfl rfl rfl rfl rfl rfl rfl (fun _ => rrg_ok dst) ?_
  refine OpC.callV rfl rfl rfl rfl rfl rfl rfl (fun _ => rrg_ok a) ?_
  refine ⟨fun h => no_ft h, fun _ => ?_⟩
  exact rfl
theorem bare_3 (dst a b imm loc off ix sz fn pr su to : Int) (acq wk rel ze : Bool) : CtrV Tryz.prog 147 [.agg (ienc ⟨3, dst, a, b, imm, loc, off, ix, sz, fn, acq, wk, rel, pr, su, to, ze⟩)] (.tup [.agg (ienc ⟨0, (-1), (-1), (-1), 0, loc, off, ix, sz, 0, acq, wk, rel, pr, su, to, ze⟩), .b ((((rgB dst && rgB a) && decide (1 ≤ fn)) && decide (fn ≤ 5)) && (decide (b = -1) || (rgB b && decide (imm = 0))))]) := by
  refine Ctr.enterV tabOkF (fn := Tryz.f147) rfl rfl rfl rfl rfl rfl ?_
  refine ⟨fun h => no_ft h, fun _ => ?_⟩
  refine ⟨fun h => no_ft h, fun _ => ?_⟩
  refine ⟨fun _ => ?_, fun h => no_tf h⟩
  refine OpC.callV rfl rfl rfl rfl rfl rfl rfl (fun _ => rrg_ok dst) ?_
  refine OpC.callV rfl rfl rfl rfl rfl rfl rfl (fun _ => rrg_ok a) ?_
  refine OpC.callV rfl rfl rfl rfl rfl rfl rfl (fun _ => rrg_ok b) ?_
  refine ⟨fun h => no_ft h, fun _ => ?_⟩
  exact rfl
theorem bare_4 (dst a b imm loc off ix sz fn pr su to : Int) (acq wk rel ze : Bool) : CtrV Tryz.prog 147 [.agg (ienc ⟨4, dst, a, b, imm, loc, off, ix, sz, fn, acq, wk, rel, pr, su, to, ze⟩)] (.tup [.agg (ienc ⟨0, (-1), a, b, imm, 0, 0, (-1), 0, fn, false, false, rel, pr, su, to, ze⟩), .b ((rgB dst && accB ⟨4, dst, a, b, imm, loc, off, ix, sz, fn, acq, wk, rel, pr, su, to, ze⟩) && !(acq && wk))]) := by
  refine Ctr.enterV tabOkF (fn := Tryz.f147) rfl rfl rfl rfl rfl rfl ?_
  refine ⟨fun h => no_ft h, fun _ => ?_⟩
  refine ⟨fun h => no_ft h, fun _ => ?_⟩
  refine ⟨fun h => no_ft h, fun _ => ?_⟩
  refine ⟨fun _ => ?_, fun h => no_tf h⟩
  refine OpC.callV rfl rfl rfl rfl rfl rfl rfl (fun _ => rrg_ok dst) ?_
  refine OpC.callV rfl rfl rfl rfl rfl rfl rfl (fun _ => rplace_ok ⟨4, dst, a, b, imm, loc, off, ix, sz, fn, acq, wk, rel, pr, su, to, ze⟩) ?_
  refine ⟨fun _ => ?_, fun h => no_tf h⟩
  exact rfl
theorem bare_5 (dst a b imm loc off ix sz fn pr su to : Int) (acq wk rel ze : Bool) : CtrV Tryz.prog 147 [.agg (ienc ⟨5, dst, a, b, imm, loc, off, ix, sz, fn, acq, wk, rel, pr, su, to, ze⟩)] (.tup [.agg (ienc ⟨0, dst, (-1), b, 0, 0, 0, (-1), 0, fn, acq, wk, false, pr, su, to, ze⟩), .b (accB ⟨5, dst, a, b, imm, loc, off, ix, sz, fn, acq, wk, rel, pr, su, to, ze⟩ && (decide (a = -1) || (rgB a && decide (imm = 0))))]) := by
  refine Ctr.enterV tabOkF (fn := Tryz.f147) rfl rfl rfl rfl rfl rfl ?_
  refine ⟨fun h => no_ft h, fun _ => ?_⟩
  refine ⟨fun h => no_ft h, fun _ => ?_⟩
  refine ⟨fun h => no_ft h, fun _ => ?_⟩
  refine ⟨fun h => no_ft h, fun _ => ?_⟩
  refine ⟨fun _ => ?_, fun h => no_tf h⟩
  refine OpC.callV rfl rfl rfl rfl rfl rfl rfl (fun _ => rplace_ok ⟨5, dst, a, b, imm, loc, off, ix, sz, fn, acq, wk, rel, pr, su, to, ze⟩) ?_
  refine OpC.callV rfl rfl rfl rfl rfl rfl rfl (fun _ => rrg_ok a) ?_
  refine ⟨fun _ => ?_, fun h => no_tf h⟩
  exact rfl
theorem bare_6 (dst a b imm loc off ix sz fn pr su to : Int) (acq wk rel ze : Bool) : CtrV Tryz.prog 147 [.agg (ienc ⟨6, dst, a, b, imm, loc, off, ix, sz, fn, acq, wk, rel, pr, su, to, ze⟩)] (.tup [.agg (ienc ⟨0, (-1), (-1), b, imm, 0, 0, (-1), 0, 0, false, wk, false, pr, su, to, ze⟩), .b (((rgB dst && rgB a) && accB ⟨6, dst, a, b, imm, loc, off, ix, sz, fn, acq, wk, rel, pr, su, to, ze⟩) && (decide (fn = 6) || decide (fn = 1)))]) := by
  refine Ctr.enterV tabOkF (fn := Tryz.f147) rfl rfl rfl rfl rfl rfl ?_
  refine ⟨fun h => no_ft h, fun _ => ?_⟩
  refine ⟨fun h => no_ft h, fun _ => ?_⟩
  refine ⟨fun h => no_ft h, fun _ => ?_⟩
  refine ⟨fun h => no_ft h, fun _ => ?_⟩
  refine ⟨fun h => no_ft h, fun _ => ?_⟩
  refine ⟨fun _ => ?_, fun h => no_tf h⟩
  refine OpC.callV rfl rfl rfl rfl rfl rfl rfl (fun _ => rrg_ok dst) ?_
  refine OpC.callV rfl rfl rfl rfl rfl rfl rfl (fun _ => rrg_ok a) ?_
  refine OpC.callV rfl rfl rfl rfl rfl rfl rfl (fun _ => rplace_ok ⟨6, dst, a, b, imm, loc, off, ix, sz, fn, acq, wk, rel, pr, su, to, ze⟩) ?_
  refine ⟨fun _ => ?_, fun h => no_tf h⟩
  exact rfl
theorem bare_7 (dst a b imm loc off ix sz fn pr su to : Int) (acq wk rel ze : Bool) : CtrV Tryz.prog 147 [.agg (ienc ⟨7, dst, a, b, imm, loc, off, ix, sz, fn, acq, wk, rel, pr, su, to, ze⟩)] (.tup [.agg (ienc ⟨0, dst, a, b, imm, loc, off, ix, sz, fn, acq, wk, rel, 0, 0, to, ze⟩), .b (((decide (1 ≤ pr) && decide (pr ≤ 3)) && decide (1 ≤ su)) && decide (su ≤ 3))]) := by
  refine Ctr.enterV tabOkF (fn := Tryz.f147) rfl rfl rfl rfl rfl rfl ?_
  refine ⟨fun h => no_ft h, fun _ => ?_⟩
  refine ⟨fun h => no_ft h, fun _ => ?_⟩
  refine ⟨fun h => no_ft h, fun _ => ?_⟩
  refine ⟨fun h => no_ft h, fun _ => ?_⟩
  refine ⟨fun h => no_ft h, fun _ => ?_⟩
  refine ⟨fun h => no_ft h, fun _ => ?_⟩
  refine ⟨fun _ => ?_, fun h => no_tf h⟩
  refine ⟨fun h => no_ft h, fun _ => ?_⟩
  exact rfl
theorem bare_8 (dst a b imm loc off ix sz fn pr su to : Int) (acq wk rel ze : Bool) : CtrV Tryz.prog 147 [.agg (ienc ⟨8, dst, a, b, imm, loc, off, ix, sz, fn, acq, wk, rel, pr, su, to, ze⟩)] (.tup [.agg (ienc ⟨0, dst, a, b, imm, loc, off, ix, sz, fn, acq, wk, rel, pr, su, to, ze⟩), .b (true)]) := by
  refine Ctr.enterV tabOkF (fn := Tryz.f147) rfl rfl rfl rfl rfl rfl ?_
  refine ⟨fun h => no_ft h, fun _ => ?_⟩
  refine ⟨fun h => no_ft h, fun _ => ?_⟩
  refine ⟨fun h => no_ft h, fun _ => ?_⟩
  refine ⟨fun h => no_ft h, fun _ => ?_⟩
  refine ⟨fun h => no_ft h, fun _ => ?_⟩
  refine ⟨fun h => no_ft h, fun _ => ?_⟩
  refine ⟨fun h => no_ft h, fun _ => ?_⟩
  refine ⟨fun _ => ?_, fun h => no_tf h⟩
  refine ⟨fun h => no_ft h, fun _ => ?_⟩
  exact rfl
theorem bare_9 (dst a b imm loc off ix sz fn pr su to : Int) (acq wk rel ze : Bool) : CtrV Tryz.prog 147 [.agg (ienc ⟨9, dst, a, b, imm, loc, off, ix, sz, fn, acq, wk, rel, pr, su, to, ze⟩)] (.tup [.agg (ienc ⟨0, dst, (-1), b, imm, loc, off, ix, sz, fn, acq, wk, rel, pr, su, 0, false⟩), .b (rgB a)]) := by
  refine Ctr.enterV tabOkF (fn := Tryz.f147) rfl rfl rfl rfl rfl rfl ?_
  refine ⟨fun h => no_ft h, fun _ => ?_⟩
  refine ⟨fun h => no_ft h, fun _ => ?_⟩
  refine ⟨fun h => no_ft h, fun _ => ?_⟩
  refine ⟨fun h => no_ft h, fun _ => ?_⟩
  refine ⟨fun h => no_ft h, fun _ => ?_⟩
  refine ⟨fun h => no_ft h, fun _ => ?_⟩
  refine ⟨fun h => no_ft h, fun _ => ?_⟩
  refine ⟨fun h => no_ft h, fun _ => ?_⟩
  refine ⟨fun _ => ?_, fun h => no_tf h⟩
  refine OpC.callV rfl rfl rfl rfl rfl rfl rfl (fun _ => rrg_ok a) ?_
  refine ⟨fun h => no_ft h, fun _ => ?_⟩
  exact rfl
theorem bare_0 (op dst a b imm loc off ix sz fn pr su to : Int) (acq wk rel ze : Bool) (h1 : ¬ op = 1) (h2 : ¬ op = 2) (h3 : ¬ op = 3) (h4 : ¬ op = 4) (h5 : ¬ op = 5) (h6 : ¬ op = 6) (h7 : ¬ op = 7) (h8 : ¬ op = 8) (h9 : ¬ op = 9) : CtrV Tryz.prog 147 [.agg (ienc ⟨op, dst, a, b, imm, loc, off, ix, sz, fn, acq, wk, rel, pr, su, to, ze⟩)] (.tup [.agg (ienc ⟨0, dst, a, b, imm, loc, off, ix, sz, fn, acq, wk, rel, pr, su, to, ze⟩), .b false]) := by
  refine Ctr.enterV tabOkF (fn := Tryz.f147) rfl rfl rfl rfl rfl rfl ?_
  refine ⟨fun h => absurd (of_decide_eq_true h) h1, fun _ => ?_⟩
  refine ⟨fun h => absurd (of_decide_eq_true h) h2, fun _ => ?_⟩
  refine ⟨fun h => absurd (of_decide_eq_true h) h3, fun _ => ?_⟩
  refine ⟨fun h => absurd (of_decide_eq_true h) h4, fun _ => ?_⟩
  refine ⟨fun h => absurd (of_decide_eq_true h) h5, fun _ => ?_⟩
  refine ⟨fun h => absurd (of_decide_eq_true h) h6, fun _ => ?_⟩
  refine ⟨fun h => absurd (of_decide_eq_true h) h7, fun _ => ?_⟩
  refine ⟨fun h => absurd (of_decide_eq_true h) h8, fun _ => ?_⟩
  refine ⟨fun h => absurd (of_decide_eq_true h) h9, fun _ => ?_⟩
  refine ⟨fun h => ?_, fun _ => ?_⟩
  · have h : ((decide (op = 4) || decide (op = 5)) || decide (op = 6)) = true := h
    rw [decide_eq_false h4, decide_eq_false h5, decide_eq_false h6] at h
    cases h
  exact rfl
end SX
end Go.Proofs.YtlgjjklikbpcoaaGreatDoor

/- Which instructions are well formed: one plain law for the program's and the reference's answer. Printed by uid.py. -/
set_option linter.unusedVariables false
set_option maxRecDepth 100000
namespace Go.Proofs.YtlgjjklikbpcoaaGreatDoor
namespace SX
open Go Go.Proofs
def form1 (i : In) : Bool := (rgB i.dst && eqI ⟨1, i.dst, (-1), (-1), i.imm, 0, 0, (-1), 0, 0, false, false, false, 0, 0, 0, false⟩ i)
def form2 (i : In) : Bool := ((rgB i.dst && rgB i.a) && eqI ⟨2, i.dst, i.a, (-1), 0, 0, 0, (-1), 0, 0, false, false, false, 0, 0, 0, false⟩ i)
def form3 (i : In) : Bool := (if i.b = -1 then ((((rgB i.dst && rgB i.a) && decide (1 ≤ i.fn)) && decide (i.fn ≤ 5)) && eqI ⟨3, i.dst, i.a, i.b, i.imm, 0, 0, (-1), 0, i.fn, false, false, false, 0, 0, 0, false⟩ i) else (((((rgB i.dst && rgB i.a) && decide (1 ≤ i.fn)) && decide (i.fn ≤ 5)) && rgB i.b) && eqI ⟨3, i.dst, i.a, i.b, 0, 0, 0, (-1), 0, i.fn, false, false, false, 0, 0, 0, false⟩ i))
def form4 (i : In) : Bool := (((rgB i.dst && accB i) && !(i.acq && i.wk)) && eqI ⟨4, i.dst, (-1), (-1), 0, i.loc, i.off, i.ix, i.sz, 0, i.acq, i.wk, false, 0, 0, 0, false⟩ i)
def form5 (i : In) : Bool := (if i.a = -1 then (accB i && eqI ⟨5, (-1), i.a, (-1), i.imm, i.loc, i.off, i.ix, i.sz, 0, false, false, i.rel, 0, 0, 0, false⟩ i) else ((accB i && rgB i.a) && eqI ⟨5, (-1), i.a, (-1), 0, i.loc, i.off, i.ix, i.sz, 0, false, false, i.rel, 0, 0, 0, false⟩ i))
def form6 (i : In) : Bool := ((((rgB i.dst && rgB i.a) && accB i) && (decide (i.fn = 6) || decide (i.fn = 1))) && eqI ⟨6, i.dst, i.a, (-1), 0, i.loc, i.off, i.ix, i.sz, i.fn, i.acq, false, i.rel, 0, 0, 0, false⟩ i)
def form7 (i : In) : Bool := ((fnB i.pr && fnB i.su) && eqI ⟨7, (-1), (-1), (-1), 0, 0, 0, (-1), 0, 0, false, false, false, i.pr, i.su, 0, false⟩ i)
def form8 (i : In) : Bool := (true && eqI ⟨8, (-1), (-1), (-1), 0, 0, 0, (-1), 0, 0, false, false, false, 0, 0, 0, false⟩ i)
def form9 (i : In) : Bool := (rgB i.a && eqI ⟨9, (-1), i.a, (-1), 0, 0, 0, (-1), 0, 0, false, false, false, 0, 0, i.to, i.ze⟩ i)
def formP (i : In) : Bool :=
  if i.op = 1 then form1 i else
  if i.op = 2 then form2 i else
  if i.op = 3 then form3 i else
  if i.op = 4 then form4 i else
  if i.op = 5 then form5 i else
  if i.op = 6 then form6 i else
  if i.op = 7 then form7 i else
  if i.op = 8 then form8 i else
  if i.op = 9 then form9 i else
  false
theorem formed_ok (i : In) : CtrV Tryz.prog 217 [.agg (ienc i)] (.b (formP i)) := by
  obtain ⟨op, dst, a, b, imm, loc, off, ix, sz, fn, acq, wk, rel, pr, su, to, ze⟩ := i
  by_cases h1 : op = 1
  · subst h1
    exact formed_1 dst a b imm loc off ix sz fn pr su to acq wk rel ze
  by_cases h2 : op = 2
  · subst h2
    exact formed_2 dst a b imm loc off ix sz fn pr su to acq wk rel ze
  by_cases h3 : op = 3
  · subst h3
    by_cases hb : b = -1
    · have := formed_3i dst a b imm loc off ix sz fn pr su to acq wk rel ze hb
      show CtrV _ _ _ (.b (form3 ⟨3, dst, a, b, imm, loc, off, ix, sz, fn, acq, wk, rel, pr, su, to, ze⟩))
      unfold form3
      rw [if_pos (show b = -1 from hb)]; exact this
    · have := formed_3r dst a b imm loc off ix sz fn pr su to acq wk rel ze hb
      show CtrV _ _ _ (.b (form3 ⟨3, dst, a, b, imm, loc, off, ix, sz, fn, acq, wk, rel, pr, su, to, ze⟩))
      unfold form3
      rw [if_neg (show ¬ b = -1 from hb)]; exact this
  by_cases h4 : op = 4
  · subst h4
    exact formed_4 dst a b imm loc off ix sz fn pr su to acq wk rel ze
  by_cases h5 : op = 5
  · subst h5
    by_cases hb : a = -1
    · have := formed_5i dst a b imm loc off ix sz fn pr su to acq wk rel ze hb
      show CtrV _ _ _ (.b (form5 ⟨5, dst, a, b, imm, loc, off, ix, sz, fn, acq, wk, rel, pr, su, to, ze⟩))
      unfold form5
      rw [if_pos (show a = -1 from hb)]; exact this
    · have := formed_5r dst a b imm loc off ix sz fn pr su to acq wk rel ze hb
      show CtrV _ _ _ (.b (form5 ⟨5, dst, a, b, imm, loc, off, ix, sz, fn, acq, wk, rel, pr, su, to, ze⟩))
      unfold form5
      rw [if_neg (show ¬ a = -1 from hb)]; exact this
  by_cases h6 : op = 6
  · subst h6
    exact formed_6 dst a b imm loc off ix sz fn pr su to acq wk rel ze
  by_cases h7 : op = 7
  · subst h7
    exact formed_7 dst a b imm loc off ix sz fn pr su to acq wk rel ze
  by_cases h8 : op = 8
  · subst h8
    exact formed_8 dst a b imm loc off ix sz fn pr su to acq wk rel ze
  by_cases h9 : op = 9
  · subst h9
    exact formed_9 dst a b imm loc off ix sz fn pr su to acq wk rel ze
  have := formed_0 op dst a b imm loc off ix sz fn pr su to acq wk rel ze h1 h2 h3 h4 h5 h6 h7 h8 h9
  unfold formP
  simp only [if_neg h1, if_neg h2, if_neg h3, if_neg h4, if_neg h5, if_neg h6, if_neg h7, if_neg h8, if_neg h9]
  exact this
def z0 : In := ⟨0, (-1), (-1), (-1), 0, 0, 0, (-1), 0, 0, false, false, false, 0, 0, 0, false⟩
theorem bf_1 (dst a b imm loc off ix sz fn pr su to : Int) (acq wk rel ze : Bool) : ((rgB dst) && eqI ⟨0, (-1), a, b, 0, loc, off, ix, sz, fn, acq, wk, rel, pr, su, to, ze⟩ z0) = formP ⟨1, dst, a, b, imm, loc, off, ix, sz, fn, acq, wk, rel, pr, su, to, ze⟩ := by
  show _ = form1 ⟨1, dst, a, b, imm, loc, off, ix, sz, fn, acq, wk, rel, pr, su, to, ze⟩
  unfold form1
  rw [Bool.eq_iff_iff]
  simp only [eqI, z0, fnB, Bool.and_eq_true, Bool.or_eq_true, decide_eq_true_eq, beq_iff_eq]
  grind
theorem bf_2 (dst a b imm loc off ix sz fn pr su to : Int) (acq wk rel ze : Bool) : ((rgB dst && rgB a) && eqI ⟨0, (-1), (-1), b, imm, loc, off, ix, sz, fn, acq, wk, rel, pr, su, to, ze⟩ z0) = formP ⟨2, dst, a, b, imm, loc, off, ix, sz, fn, acq, wk, rel, pr, su, to, ze⟩ := by
  show _ = form2 ⟨2, dst, a, b, imm, loc, off, ix, sz, fn, acq, wk, rel, pr, su, to, ze⟩
  unfold form2
  rw [Bool.eq_iff_iff]
  simp only [eqI, z0, fnB, Bool.and_eq_true, Bool.or_eq_true, decide_eq_true_eq, beq_iff_eq]
  grind
theorem bf_3 (dst a b imm loc off ix sz fn pr su to : Int) (acq wk rel ze : Bool) : ((((((rgB dst && rgB a) && decide (1 ≤ fn)) && decide (fn ≤ 5))) && (decide (b = -1) || (rgB b && decide (imm = 0)))) && eqI ⟨0, (-1), (-1), (-1), 0, loc, off, ix, sz, 0, acq, wk, rel, pr, su, to, ze⟩ z0) = formP ⟨3, dst, a, b, imm, loc, off, ix, sz, fn, acq, wk, rel, pr, su, to, ze⟩ := by
  show _ = form3 ⟨3, dst, a, b, imm, loc, off, ix, sz, fn, acq, wk, rel, pr, su, to, ze⟩
  unfold form3
  by_cases hb : b = -1
  · subst hb
    rw [if_pos (show (-1 : Int) = -1 from rfl)]
    rw [Bool.eq_iff_iff]
    simp only [eqI, z0, Bool.and_eq_true, Bool.or_eq_true, decide_eq_true_eq, beq_iff_eq]
    grind
  · rw [if_neg (show ¬ b = -1 from hb)]
    rw [Bool.eq_iff_iff]
    simp only [eqI, z0, Bool.and_eq_true, Bool.or_eq_true, decide_eq_true_eq, beq_iff_eq]
    grind
theorem bf_4 (dst a b imm loc off ix sz fn pr su to : Int) (acq wk rel ze : Bool) : (((rgB dst && accB ⟨4, dst, a, b, imm, loc, off, ix, sz, fn, acq, wk, rel, pr, su, to, ze⟩) && !(acq && wk)) && eqI ⟨0, (-1), a, b, imm, 0, 0, (-1), 0, fn, false, false, rel, pr, su, to, ze⟩ z0) = formP ⟨4, dst, a, b, imm, loc, off, ix, sz, fn, acq, wk, rel, pr, su, to, ze⟩ := by
  show _ = form4 ⟨4, dst, a, b, imm, loc, off, ix, sz, fn, acq, wk, rel, pr, su, to, ze⟩
  unfold form4
  generalize accB ⟨4, dst, a, b, imm, loc, off, ix, sz, fn, acq, wk, rel, pr, su, to, ze⟩ = ac
  rw [Bool.eq_iff_iff]
  simp only [eqI, z0, fnB, Bool.and_eq_true, Bool.or_eq_true, decide_eq_true_eq, beq_iff_eq]
  grind
theorem bf_5 (dst a b imm loc off ix sz fn pr su to : Int) (acq wk rel ze : Bool) : ((accB ⟨5, dst, a, b, imm, loc, off, ix, sz, fn, acq, wk, rel, pr, su, to, ze⟩ && (decide (a = -1) || (rgB a && decide (imm = 0)))) && eqI ⟨0, dst, (-1), b, 0, 0, 0, (-1), 0, fn, acq, wk, false, pr, su, to, ze⟩ z0) = formP ⟨5, dst, a, b, imm, loc, off, ix, sz, fn, acq, wk, rel, pr, su, to, ze⟩ := by
  show _ = form5 ⟨5, dst, a, b, imm, loc, off, ix, sz, fn, acq, wk, rel, pr, su, to, ze⟩
  unfold form5
  generalize accB ⟨5, dst, a, b, imm, loc, off, ix, sz, fn, acq, wk, rel, pr, su, to, ze⟩ = ac
  by_cases hb : a = -1
  · subst hb
    rw [if_pos (show (-1 : Int) = -1 from rfl)]
    rw [Bool.eq_iff_iff]
    simp only [eqI, z0, Bool.and_eq_true, Bool.or_eq_true, decide_eq_true_eq, beq_iff_eq]
    grind
  · rw [if_neg (show ¬ a = -1 from hb)]
    rw [Bool.eq_iff_iff]
    simp only [eqI, z0, Bool.and_eq_true, Bool.or_eq_true, decide_eq_true_eq, beq_iff_eq]
    grind
theorem bf_6 (dst a b imm loc off ix sz fn pr su to : Int) (acq wk rel ze : Bool) : ((((rgB dst && rgB a) && accB ⟨6, dst, a, b, imm, loc, off, ix, sz, fn, acq, wk, rel, pr, su, to, ze⟩) && (decide (fn = 6) || decide (fn = 1))) && eqI ⟨0, (-1), (-1), b, imm, 0, 0, (-1), 0, 0, false, wk, false, pr, su, to, ze⟩ z0) = formP ⟨6, dst, a, b, imm, loc, off, ix, sz, fn, acq, wk, rel, pr, su, to, ze⟩ := by
  show _ = form6 ⟨6, dst, a, b, imm, loc, off, ix, sz, fn, acq, wk, rel, pr, su, to, ze⟩
  unfold form6
  generalize accB ⟨6, dst, a, b, imm, loc, off, ix, sz, fn, acq, wk, rel, pr, su, to, ze⟩ = ac
  rw [Bool.eq_iff_iff]
  simp only [eqI, z0, fnB, Bool.and_eq_true, Bool.or_eq_true, decide_eq_true_eq, beq_iff_eq]
  grind
theorem bf_7 (dst a b imm loc off ix sz fn pr su to : Int) (acq wk rel ze : Bool) : ((((decide (1 ≤ pr) && decide (pr ≤ 3)) && decide (1 ≤ su)) && decide (su ≤ 3)) && eqI ⟨0, dst, a, b, imm, loc, off, ix, sz, fn, acq, wk, rel, 0, 0, to, ze⟩ z0) = formP ⟨7, dst, a, b, imm, loc, off, ix, sz, fn, acq, wk, rel, pr, su, to, ze⟩ := by
  show _ = form7 ⟨7, dst, a, b, imm, loc, off, ix, sz, fn, acq, wk, rel, pr, su, to, ze⟩
  unfold form7
  rw [Bool.eq_iff_iff]
  simp only [eqI, z0, fnB, Bool.and_eq_true, Bool.or_eq_true, decide_eq_true_eq, beq_iff_eq]
  grind
theorem bf_8 (dst a b imm loc off ix sz fn pr su to : Int) (acq wk rel ze : Bool) : ((true) && eqI ⟨0, dst, a, b, imm, loc, off, ix, sz, fn, acq, wk, rel, pr, su, to, ze⟩ z0) = formP ⟨8, dst, a, b, imm, loc, off, ix, sz, fn, acq, wk, rel, pr, su, to, ze⟩ := by
  show _ = form8 ⟨8, dst, a, b, imm, loc, off, ix, sz, fn, acq, wk, rel, pr, su, to, ze⟩
  unfold form8
  rw [Bool.eq_iff_iff]
  simp only [eqI, z0, fnB, Bool.and_eq_true, Bool.or_eq_true, decide_eq_true_eq, beq_iff_eq]
  grind
theorem bf_9 (dst a b imm loc off ix sz fn pr su to : Int) (acq wk rel ze : Bool) : ((rgB a) && eqI ⟨0, dst, (-1), b, imm, loc, off, ix, sz, fn, acq, wk, rel, pr, su, 0, false⟩ z0) = formP ⟨9, dst, a, b, imm, loc, off, ix, sz, fn, acq, wk, rel, pr, su, to, ze⟩ := by
  show _ = form9 ⟨9, dst, a, b, imm, loc, off, ix, sz, fn, acq, wk, rel, pr, su, to, ze⟩
  unfold form9
  rw [Bool.eq_iff_iff]
  simp only [eqI, z0, fnB, Bool.and_eq_true, Bool.or_eq_true, decide_eq_true_eq, beq_iff_eq]
  grind
end SX
end Go.Proofs.YtlgjjklikbpcoaaGreatDoor

/- Right: is an instruction good between two places? Printed by uie.py. -/
set_option linter.unusedVariables false
set_option maxRecDepth 100000
namespace Go.Proofs.YtlgjjklikbpcoaaGreatDoor
namespace SX
open Go Go.Proofs
theorem bare_ok (i : In) : ∃ c o, CtrV Tryz.prog 147 [.agg (ienc i)] (.tup [.agg (ienc c), .b o]) ∧ (o && eqI c z0) = formP i := by
  obtain ⟨op, dst, a, b, imm, loc, off, ix, sz, fn, acq, wk, rel, pr, su, to, ze⟩ := i
  by_cases h1 : op = 1
  · subst h1
    exact ⟨_, _, bare_1 dst a b imm loc off ix sz fn pr su to acq wk rel ze, bf_1 dst a b imm loc off ix sz fn pr su to acq wk rel ze⟩
  by_cases h2 : op = 2
  · subst h2
    exact ⟨_, _, bare_2 dst a b imm loc off ix sz fn pr su to acq wk rel ze, bf_2 dst a b imm loc off ix sz fn pr su to acq wk rel ze⟩
  by_cases h3 : op = 3
  · subst h3
    exact ⟨_, _, bare_3 dst a b imm loc off ix sz fn pr su to acq wk rel ze, bf_3 dst a b imm loc off ix sz fn pr su to acq wk rel ze⟩
  by_cases h4 : op = 4
  · subst h4
    exact ⟨_, _, bare_4 dst a b imm loc off ix sz fn pr su to acq wk rel ze, bf_4 dst a b imm loc off ix sz fn pr su to acq wk rel ze⟩
  by_cases h5 : op = 5
  · subst h5
    exact ⟨_, _, bare_5 dst a b imm loc off ix sz fn pr su to acq wk rel ze, bf_5 dst a b imm loc off ix sz fn pr su to acq wk rel ze⟩
  by_cases h6 : op = 6
  · subst h6
    exact ⟨_, _, bare_6 dst a b imm loc off ix sz fn pr su to acq wk rel ze, bf_6 dst a b imm loc off ix sz fn pr su to acq wk rel ze⟩
  by_cases h7 : op = 7
  · subst h7
    exact ⟨_, _, bare_7 dst a b imm loc off ix sz fn pr su to acq wk rel ze, bf_7 dst a b imm loc off ix sz fn pr su to acq wk rel ze⟩
  by_cases h8 : op = 8
  · subst h8
    exact ⟨_, _, bare_8 dst a b imm loc off ix sz fn pr su to acq wk rel ze, bf_8 dst a b imm loc off ix sz fn pr su to acq wk rel ze⟩
  by_cases h9 : op = 9
  · subst h9
    exact ⟨_, _, bare_9 dst a b imm loc off ix sz fn pr su to acq wk rel ze, bf_9 dst a b imm loc off ix sz fn pr su to acq wk rel ze⟩
  refine ⟨_, _, bare_0 op dst a b imm loc off ix sz fn pr su to acq wk rel ze h1 h2 h3 h4 h5 h6 h7 h8 h9, ?_⟩
  unfold formP
  simp only [if_neg h1, if_neg h2, if_neg h3, if_neg h4, if_neg h5, if_neg h6, if_neg h7, if_neg h8, if_neg h9, Bool.false_and]
def toX (i : In) (lo hi : Int) : Bool := decide (i.op = 9) && (decide (i.to ≤ lo) || decide (hi < i.to))
def rgtF (i : In) (lo hi : Int) : Int := if formP i = true then (if toX i lo hi = true then 35 else 0) else 34
theorem uright_ok (i : In) (lo hi : Int) : CtrV Tryz.prog 132 [.agg (ienc i), .i .i64 lo, .i .i64 hi] (.i .i64 (rgtF i lo hi)) := by
  refine Ctr.enterV tabOkF (fn := Tryz.f132) rfl rfl rfl rfl rfl rfl ?_
  refine OpC.callV rfl rfl rfl rfl rfl rfl rfl (fun _ => formed_ok i) ?_
  unfold rgtF
  cases formP i with
  | false =>
    refine ⟨fun _ => ?_, fun h => no_tf h⟩
    exact rfl
  | true =>
    refine ⟨fun h => no_ft h, fun _ => ?_⟩
    refine ⟨fun h => ?_, fun h => ?_⟩
    · have h : toX i lo hi = true := h
      rw [if_pos rfl, if_pos h]
      exact rfl
    · have h : toX i lo hi = false := h
      rw [if_pos rfl, if_neg (by rw [h]; decide)]
      exact rfl
theorem rright3_ok (i : In) (lo hi : Int) : CtrV Tryz.prog 74 [.agg (ienc i), .i .i64 lo, .i .i64 hi] (.i .i64 (rgtF i lo hi)) := by
  obtain ⟨c, o, hc, he⟩ := bare_ok i
  refine Ctr.enterV tabOkF (fn := Tryz.f74) rfl rfl rfl rfl rfl rfl ?_
  refine OpC.callV rfl rfl rfl rfl rfl rfl rfl (fun _ => hc) ?_
  unfold rgtF
  refine ⟨fun h => ?_, fun h => ?_⟩
  · have h : ((!o) || (!eqI c z0)) = true := h
    rw [if_neg (by rw [← he]; cases o <;> cases hq : eqI c z0 <;> simp_all)]
    exact rfl
  · have h : ((!o) || (!eqI c z0)) = false := h
    rw [if_pos (by rw [← he]; cases o <;> cases hq : eqI c z0 <;> simp_all)]
    refine ⟨fun h => ?_, fun h => ?_⟩
    · have h : toX i lo hi = true := h
      rw [if_pos h]
      exact rfl
    · have h : toX i lo hi = false := h
      rw [if_neg (by rw [h]; decide)]
      exact rfl
end SX
end Go.Proofs.YtlgjjklikbpcoaaGreatDoor

/- Texts of instructions: places of memory. Printed by asb.py. -/
set_option linter.unusedVariables false
set_option maxRecDepth 100000
namespace Go.Proofs.YtlgjjklikbpcoaaGreatDoor
namespace SX
open Go Go.Proofs
end SX
end Go.Proofs.YtlgjjklikbpcoaaGreatDoor

/- x86: texts of instructions, the program's. Printed by xpr.py. -/
set_option linter.unusedVariables false
set_option maxRecDepth 100000
namespace Go.Proofs.YtlgjjklikbpcoaaGreatDoor
namespace SX
open Go Go.Proofs
end SX
end Go.Proofs.YtlgjjklikbpcoaaGreatDoor

/- x86: texts of instructions, the program's. Printed by xpr.py. -/
set_option linter.unusedVariables false
set_option maxRecDepth 100000
namespace Go.Proofs.YtlgjjklikbpcoaaGreatDoor
namespace SX
open Go Go.Proofs
end SX
end Go.Proofs.YtlgjjklikbpcoaaGreatDoor

/- The reference's texts of instructions: pieces. Printed by rfa.py. -/
set_option linter.unusedVariables false
set_option maxRecDepth 100000
namespace Go.Proofs.YtlgjjklikbpcoaaGreatDoor
namespace SX
open Go Go.Proofs
theorem call_fin {f : Nat} {args : List SV} {r : SV} (h : (match runM treeF ftree [] 40 f args [] with | some (r1, H1) => sveq (fin true [] r1 H1).1 r && sbL (fin true [] r1 H1).2 [] | none => false) = true) : CtrV Tryz.prog f args r := by
  cases hq : runM treeF ftree [] 40 f args [] with
  | none => rw [hq] at h; cases h
  | some q =>
    obtain ⟨r1, H1⟩ := q
    rw [hq] at h
    simp only [Bool.and_eq_true] at h
    have := fin_ok callX_m true (runM_ok (tr := treeF) (ft := ftree) (ms := []) tabOkF ftOk mixed (by intro m hm; cases hm) 40 _ _ _ _ _ hq)
    rw [sveq_ok _ _ h.1, sbL_ok _ _ h.2] at this
    exact this
def szT (a z : Int) : List UInt8 := if a = 1 then endF z [66] [87] [76] [81] else if a = 2 then endF z [98] [104] [119] [100] else endF z [66] [72] [87] []
theorem tail5_ok (a z : Int) (ha : a = 1 ∨ a = 2 ∨ a = 3) (hz : z = 1 ∨ z = 2 ∨ z = 4 ∨ z = 8) : CtrV Tryz.prog 221 [.i .i64 a, .i .i64 z] (.s (szT a z)) := by
  rcases ha with rfl | rfl | rfl <;> rcases hz with rfl | rfl | rfl | rfl
  all_goals exact call_fin (by decide +kernel)
end SX
end Go.Proofs.YtlgjjklikbpcoaaGreatDoor

/- The reference's texts of instructions, x86: accesses. Printed by rfb.py. -/
set_option linter.unusedVariables false
set_option maxRecDepth 100000
namespace Go.Proofs.YtlgjjklikbpcoaaGreatDoor
namespace SX
open Go Go.Proofs
end SX
end Go.Proofs.YtlgjjklikbpcoaaGreatDoor

/- The reference's texts of instructions, x86. Printed by rfc.py. -/
set_option linter.unusedVariables false
set_option maxRecDepth 100000
namespace Go.Proofs.YtlgjjklikbpcoaaGreatDoor
namespace SX
open Go Go.Proofs
end SX
end Go.Proofs.YtlgjjklikbpcoaaGreatDoor

/- x86: the program's and the reference's text are one. Printed by xtx.py. -/
set_option linter.unusedVariables false
set_option maxRecDepth 100000
namespace Go.Proofs.YtlgjjklikbpcoaaGreatDoor
namespace SX
open Go Go.Proofs
def xH : List SB := [rowS [82, 65, 88] [82, 66, 88] [82, 67, 88] [82, 68, 88] [82, 83, 73] [82, 68, 73] [82, 56] [82, 57], langB [36] 129 130]
def XBoth (i : In) (lb t : List UInt8) : Prop :=
  Ctr Tryz.prog 130 [.ptr 1 1 0 [], .agg (ienc i), .s lb] xH (fun r h' => r = .tup [.s t, .b (!decide (t = []))] ∧ h' = xH) ∧ CtrV Tryz.prog 76 [.i .i64 1, .agg (ienc i), .s lb] (.s t) ∧ t.length ≤ 100000
end SX
end Go.Proofs.YtlgjjklikbpcoaaGreatDoor
