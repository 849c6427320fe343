/- A part of SX: symbolic and concrete runs of the program, with contracts of functions; lemmas without further conditions. -/
import Derived.Test.YtlgjjklikbpcoaaGreatDoorChecked
import Derived.Test.YtlgjjklikbpcoaaGreatDoorYX
set_option linter.unusedVariables false
set_option linter.unusedSimpArgs false
set_option linter.unusedSectionVars false
/- SX: the table of this seat's types, arrays cell by cell. Made by tab.py. -/
namespace Go.Proofs.YtlgjjklikbpcoaaGreatDoor
namespace SX
open Go Go.Proofs
set_option maxRecDepth 100000
def tiM1 : TI := ⟨.func, 1, 8, [.raw .nilFunc], none, false⟩
def tiM2 : TI := ⟨.int .i64, 1, 8, [.i .i64 0], none, false⟩
def tiM3 : TI := ⟨.int .i64, 1, 8, [.i .i64 0], none, false⟩
def tiM4 : TI := ⟨.bool, 1, 1, [.b false], none, false⟩
def tiM5 : TI := ⟨.int .u8, 1, 1, [.i .u8 0], none, false⟩
def tiM6 : TI := ⟨.int .u8, 1, 1, [.i .u8 0], none, false⟩
def tiM7 : TI := ⟨.struct [(0, 2), (1, 3), (2, 4), (3, 6)], 4, 24, [.i .i64 0, .i .i64 0, .b false, .i .u8 0], none, false⟩
def tiM8 : TI := ⟨.struct [(0, 2), (1, 3), (2, 4), (3, 6)], 4, 24, [.i .i64 0, .i .i64 0, .b false, .i .u8 0], none, false⟩
def tiM9 : TI := ⟨.str, 1, 16, [.s []], none, false⟩
def tiM10 : TI := ⟨.str, 1, 16, [.s []], none, false⟩
def tiM11 : TI := ⟨.str, 1, 16, [.s []], none, false⟩
def tiM12 : TI := ⟨.int .u64, 1, 8, [.i .u64 0], none, false⟩
def tiM13 : TI := ⟨.struct [(0, 9), (1, 12)], 2, 24, [.s [], .i .u64 0], none, false⟩
def tiM14 : TI := ⟨.struct [(0, 9), (1, 12)], 2, 24, [.s [], .i .u64 0], none, false⟩
def tiM20 : TI := ⟨.iface false, 1, 16, [.raw .nilIface], none, false⟩
def tiM22 : TI := ⟨.func, 1, 8, [.raw .nilFunc], none, false⟩
def tiM23 : TI := ⟨.slice 28, 1, 24, [.nils], none, false⟩
def tiM24 : TI := ⟨.int .i64, 1, 8, [.i .i64 0], none, false⟩
def tiM27 : TI := ⟨.struct [(0, 3), (1, 9), (2, 3), (3, 3)], 4, 40, [.i .i64 0, .s [], .i .i64 0, .i .i64 0], some [.i .i64, .s, .i .i64, .i .i64], false⟩
def tiM28 : TI := ⟨.struct [(0, 3), (1, 9), (2, 3), (3, 3)], 4, 40, [.i .i64 0, .s [], .i .i64 0, .i .i64 0], some [.i .i64, .s, .i .i64, .i .i64], false⟩
def tiM29 : TI := ⟨.struct [(0, 3), (1, 3), (2, 3), (3, 3), (4, 3), (5, 3), (6, 3), (7, 3), (8, 3), (9, 3), (10, 4), (11, 4), (12, 4), (13, 3), (14, 3), (15, 3), (16, 4)], 17, 120, [.i .i64 0, .i .i64 0, .i .i64 0, .i .i64 0, .i .i64 0, .i .i64 0, .i .i64 0, .i .i64 0, .i .i64 0, .i .i64 0, .b false, .b false, .b false, .i .i64 0, .i .i64 0, .i .i64 0, .b false], some [.i .i64, .i .i64, .i .i64, .i .i64, .i .i64, .i .i64, .i .i64, .i .i64, .i .i64, .i .i64, .b, .b, .b, .i .i64, .i .i64, .i .i64, .b], false⟩
def tiM30 : TI := ⟨.struct [(0, 3), (1, 3), (2, 3), (3, 3), (4, 3), (5, 3), (6, 3), (7, 3), (8, 3), (9, 3), (10, 4), (11, 4), (12, 4), (13, 3), (14, 3), (15, 3), (16, 4)], 17, 120, [.i .i64 0, .i .i64 0, .i .i64 0, .i .i64 0, .i .i64 0, .i .i64 0, .i .i64 0, .i .i64 0, .i .i64 0, .i .i64 0, .b false, .b false, .b false, .i .i64 0, .i .i64 0, .i .i64 0, .b false], some [.i .i64, .i .i64, .i .i64, .i .i64, .i .i64, .i .i64, .i .i64, .i .i64, .i .i64, .i .i64, .b, .b, .b, .i .i64, .i .i64, .i .i64, .b], false⟩
def tiM40 : TI := ⟨.func, 1, 8, [.raw .nilFunc], none, false⟩
def treeM : Tr := (.node 12 tiM12 (.node 6 tiM6 (.node 3 tiM3 (.node 2 tiM2 (.node 1 tiM1 .leaf .leaf) .leaf) (.node 5 tiM5 (.node 4 tiM4 .leaf .leaf) .leaf)) (.node 9 tiM9 (.node 8 tiM8 (.node 7 tiM7 .leaf .leaf) .leaf) (.node 11 tiM11 (.node 10 tiM10 .leaf .leaf) .leaf))) (.node 24 tiM24 (.node 20 tiM20 (.node 14 tiM14 (.node 13 tiM13 .leaf .leaf) .leaf) (.node 23 tiM23 (.node 22 tiM22 .leaf .leaf) .leaf)) (.node 29 tiM29 (.node 28 tiM28 (.node 27 tiM27 .leaf .leaf) .leaf) (.node 40 tiM40 (.node 30 tiM30 .leaf .leaf) .leaf))))
def TM : Tb := treeM.get
theorem entM1 : EntOk Tryz.prog TM 1 tiM1 := entX
theorem entM2 : EntOk Tryz.prog TM 2 tiM2 := entX
theorem entM3 : EntOk Tryz.prog TM 3 tiM3 := entX
theorem entM4 : EntOk Tryz.prog TM 4 tiM4 := entX
theorem entM5 : EntOk Tryz.prog TM 5 tiM5 := entX
theorem entM6 : EntOk Tryz.prog TM 6 tiM6 := entX
theorem entM7 : EntOk Tryz.prog TM 7 tiM7 := entX
theorem entM8 : EntOk Tryz.prog TM 8 tiM8 := entX
theorem entM9 : EntOk Tryz.prog TM 9 tiM9 := entX
theorem entM10 : EntOk Tryz.prog TM 10 tiM10 := entX
theorem entM11 : EntOk Tryz.prog TM 11 tiM11 := entX
theorem entM12 : EntOk Tryz.prog TM 12 tiM12 := entX
theorem entM13 : EntOk Tryz.prog TM 13 tiM13 := entX
theorem entM14 : EntOk Tryz.prog TM 14 tiM14 := entX
theorem entM20 : EntOk Tryz.prog TM 20 tiM20 := entX
theorem entM22 : EntOk Tryz.prog TM 22 tiM22 := entX
theorem entM23 : EntOk Tryz.prog TM 23 tiM23 := entX
theorem entM24 : EntOk Tryz.prog TM 24 tiM24 := entX
theorem entM27 : EntOk Tryz.prog TM 27 tiM27 := entX
theorem entM28 : EntOk Tryz.prog TM 28 tiM28 := entX
theorem entM29 : EntOk Tryz.prog TM 29 tiM29 := entX
theorem entM30 : EntOk Tryz.prog TM 30 tiM30 := entX
theorem entM40 : EntOk Tryz.prog TM 40 tiM40 := entX
theorem tabOkM : TabOk Tryz.prog TM := by
  refine TabOk.of_tree ?_
  exact ⟨entM12, ⟨entM6, ⟨entM3, ⟨entM2, ⟨entM1, trivial, trivial⟩, trivial⟩, ⟨entM5, ⟨entM4, trivial, trivial⟩, trivial⟩⟩, ⟨entM9, ⟨entM8, ⟨entM7, trivial, trivial⟩, trivial⟩, ⟨entM11, ⟨entM10, trivial, trivial⟩, trivial⟩⟩⟩, ⟨entM24, ⟨entM20, ⟨entM14, ⟨entM13, trivial, trivial⟩, trivial⟩, ⟨entM23, ⟨entM22, trivial, trivial⟩, trivial⟩⟩, ⟨entM29, ⟨entM28, ⟨entM27, trivial, trivial⟩, trivial⟩, ⟨entM40, ⟨entM30, trivial, trivial⟩, trivial⟩⟩⟩⟩
end SX
end Go.Proofs.YtlgjjklikbpcoaaGreatDoor
