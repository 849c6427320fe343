/- A part of SX: symbolic and concrete runs of the program, with contracts of functions; lemmas without further conditions. -/
import Derived.Test.YthggmiiipochiaaDoorXE
set_option linter.unusedVariables false
set_option linter.unusedSimpArgs false
set_option linter.unusedSectionVars false
/- A run of the program, as a memo. Made by memo.py. -/
set_option maxRecDepth 100000
namespace Go.Proofs.YthggmiiipochiaaDoor
namespace SX
open Go Go.Proofs
def MmFind : Memo := ⟨7,
  [(.agg [(.i .i64 1), (.s [83, 66]), (.i .i64 0), (.i .i64 0), (.i .i64 0), (.i .i64 0), (.i .i64 0), (.i .i64 0), (.i .i64 0), (.i .i64 0), (.i .i64 0), (.i .i64 0), (.i .i64 1),
  (.i .i64 0), (.i .i64 0), (.i .i64 0), (.i .i64 0), (.i .i64 0), (.i .i64 0), (.i .i64 0), (.i .i64 1), (.i .i64 0), (.i .i64 0), (.i .i64 0), (.i .i64 0), (.i .i64 0), (.i .i64
  0), (.i .i64 0), (.i .i64 0), (.sl 7 1 0 2 (.some 2) 0), (.i .i64 1), (.sl 8 1 0 1 (.some 1)
  0)])],
  [(.mem 36 [(.i .i64 1), (.s [83, 66]), (.i .i64 0), (.i .i64 0), (.i .i64 0), (.i .i64 0), (.i .i64 0), (.i .i64 0), (.i .i64 0), (.i .i64 0), (.i .i64 0), (.i .i64 0), (.i .i64
  1), (.i .i64 0), (.i .i64 0), (.i .i64 0), (.i .i64 0), (.i .i64 0), (.i .i64 0), (.i .i64 0), (.i .i64 1), (.i .i64 0), (.i .i64 0), (.i .i64 0), (.i .i64 0), (.i .i64 0), (.i
  .i64 0), (.i .i64 0), (.i .i64 0), (.sl 7 1 0 2 (.some 2) 0), (.i .i64 1), (.sl 8 1 0 1 (.some 1) 0)] 1 0), (.mem 23 [(.i .i64 5), (.i .i64 (-1)), (.i .i64 7), (.i .i64 (-1)), (.i
  .i64 0), (.i .i64 0), (.i .i64 0), (.i .i64 (-1)), (.i .i64 8), (.i .i64 0), (.b .false), (.b .false), (.b .false), (.i .i64 0), (.i .i64 0), (.i .i64 0), (.b .false)] 1 0), (.mem
  23 [(.i .i64 4), (.i .i64 0), (.i .i64 (-1)), (.i .i64 (-1)), (.i .i64 0), (.i .i64 0), (.i .i64 0), (.i .i64 (-1)), (.i .i64 8), (.i .i64 0), (.b .false), (.b .false), (.b
  .false), (.i .i64 0), (.i .i64 0), (.i .i64 0), (.b .false)] 1 0), (.mem 23 [(.i .i64 5), (.i .i64 (-1)), (.i .i64 7), (.i .i64 (-1)), (.i .i64 0), (.i .i64 1), (.i .i64 0), (.i
  .i64 (-1)), (.i .i64 8), (.i .i64 0), (.b .false), (.b .false), (.b .false), (.i .i64 0), (.i .i64 0), (.i .i64 0), (.b .false)] 1 0), (.mem 23 [(.i .i64 4), (.i .i64 0), (.i .i64
  (-1)), (.i .i64 (-1)), (.i .i64 0), (.i .i64 1), (.i .i64 0), (.i .i64 (-1)), (.i .i64 8), (.i .i64 0), (.b .false), (.b .false), (.b .false), (.i .i64 0), (.i .i64 0), (.i .i64
  0), (.b .false)] 1 0), (.mem 23 [(.i .i64 5), (.i .i64 (-1)), (.i .i64 7), (.i .i64 (-1)), (.i .i64 0), (.i .i64 0), (.i .i64 0), (.i .i64 (-1)), (.i .i64 8), (.i .i64 0), (.b
  .false), (.b .false), (.b .false), (.i .i64 0), (.i .i64 0), (.i .i64 0), (.b .false), (.i .i64 4), (.i .i64 0), (.i .i64 (-1)), (.i .i64 (-1)), (.i .i64 0), (.i .i64 1), (.i .i64
  0), (.i .i64 (-1)), (.i .i64 8), (.i .i64 0), (.b .false), (.b .false), (.b .false), (.i .i64 0), (.i .i64 0), (.i .i64 0), (.b .false)] 1 0), (.mem 23 [(.i .i64 5), (.i .i64
  (-1)), (.i .i64 7), (.i .i64 (-1)), (.i .i64 0), (.i .i64 1), (.i .i64 0), (.i .i64 (-1)), (.i .i64 8), (.i .i64 0), (.b .false), (.b .false), (.b .false), (.i .i64 0), (.i .i64
  0), (.i .i64 0), (.b .false), (.i .i64 4), (.i .i64 0), (.i .i64 (-1)), (.i .i64 (-1)), (.i .i64 0), (.i .i64 0), (.i .i64 0), (.i .i64 (-1)), (.i .i64 8), (.i .i64 0), (.b
  .false), (.b .false), (.b .false), (.i .i64 0), (.i .i64 0), (.i .i64 0), (.b .false)] 1 0), (.mem 59 [(.sl 5 1 0 2 (.some 2) 0), (.sl 6 1 0 2 (.some 2) 0)] 1 0), (.mem 61 [(.i
  .i64 2), (.i .i64 0), (.i .i64 0), (.i .i64 0), (.i .i64 0)] 1 0), (.mem 36 [(.i .i64 1), (.s [83, 66]), (.i .i64 0), (.i .i64 0), (.i .i64 0), (.i .i64 0), (.i .i64 0), (.i .i64
  0), (.i .i64 0), (.i .i64 0), (.i .i64 0), (.i .i64 0), (.i .i64 1), (.i .i64 0), (.i .i64 0), (.i .i64 0), (.i .i64 0), (.i .i64 0), (.i .i64 0), (.i .i64 0), (.i .i64 1), (.i
  .i64 0), (.i .i64 0), (.i .i64 0), (.i .i64 0), (.i .i64 0), (.i .i64 0), (.i .i64 0), (.i .i64 0), (.sl 7 1 0 2 (.some 2) 0), (.i .i64 1), (.sl 8 1 0 1 (.some 1) 0)] 1
  0)],
  (.agg [(.b .false), (.sl 93 2 0 3 .none
  0)]),
  [(.mem 36 [(.i .i64 1), (.s [83, 66]), (.i .i64 0), (.i .i64 0), (.i .i64 0), (.i .i64 0), (.i .i64 0), (.i .i64 0), (.i .i64 0), (.i .i64 0), (.i .i64 0), (.i .i64 0), (.i .i64
  1), (.i .i64 0), (.i .i64 0), (.i .i64 0), (.i .i64 0), (.i .i64 0), (.i .i64 0), (.i .i64 0), (.i .i64 1), (.i .i64 0), (.i .i64 0), (.i .i64 0), (.i .i64 0), (.i .i64 0), (.i
  .i64 0), (.i .i64 0), (.i .i64 0), (.sl 7 1 0 2 (.some 2) 0), (.i .i64 1), (.sl 8 1 0 1 (.some 1) 0)] 1 0), (.mem 23 [(.i .i64 5), (.i .i64 (-1)), (.i .i64 7), (.i .i64 (-1)), (.i
  .i64 0), (.i .i64 0), (.i .i64 0), (.i .i64 (-1)), (.i .i64 8), (.i .i64 0), (.b .false), (.b .false), (.b .false), (.i .i64 0), (.i .i64 0), (.i .i64 0), (.b .false)] 1 0), (.mem
  23 [(.i .i64 4), (.i .i64 0), (.i .i64 (-1)), (.i .i64 (-1)), (.i .i64 0), (.i .i64 0), (.i .i64 0), (.i .i64 (-1)), (.i .i64 8), (.i .i64 0), (.b .false), (.b .false), (.b
  .false), (.i .i64 0), (.i .i64 0), (.i .i64 0), (.b .false)] 1 0), (.mem 23 [(.i .i64 5), (.i .i64 (-1)), (.i .i64 7), (.i .i64 (-1)), (.i .i64 0), (.i .i64 1), (.i .i64 0), (.i
  .i64 (-1)), (.i .i64 8), (.i .i64 0), (.b .false), (.b .false), (.b .false), (.i .i64 0), (.i .i64 0), (.i .i64 0), (.b .false)] 1 0), (.mem 23 [(.i .i64 4), (.i .i64 0), (.i .i64
  (-1)), (.i .i64 (-1)), (.i .i64 0), (.i .i64 1), (.i .i64 0), (.i .i64 (-1)), (.i .i64 8), (.i .i64 0), (.b .false), (.b .false), (.b .false), (.i .i64 0), (.i .i64 0), (.i .i64
  0), (.b .false)] 1 0), (.mem 23 [(.i .i64 5), (.i .i64 (-1)), (.i .i64 7), (.i .i64 (-1)), (.i .i64 0), (.i .i64 0), (.i .i64 0), (.i .i64 (-1)), (.i .i64 8), (.i .i64 0), (.b
  .false), (.b .false), (.b .false), (.i .i64 0), (.i .i64 0), (.i .i64 0), (.b .false), (.i .i64 4), (.i .i64 0), (.i .i64 (-1)), (.i .i64 (-1)), (.i .i64 0), (.i .i64 1), (.i .i64
  0), (.i .i64 (-1)), (.i .i64 8), (.i .i64 0), (.b .false), (.b .false), (.b .false), (.i .i64 0), (.i .i64 0), (.i .i64 0), (.b .false)] 1 0), (.mem 23 [(.i .i64 5), (.i .i64
  (-1)), (.i .i64 7), (.i .i64 (-1)), (.i .i64 0), (.i .i64 1), (.i .i64 0), (.i .i64 (-1)), (.i .i64 8), (.i .i64 0), (.b .false), (.b .false), (.b .false), (.i .i64 0), (.i .i64
  0), (.i .i64 0), (.b .false), (.i .i64 4), (.i .i64 0), (.i .i64 (-1)), (.i .i64 (-1)), (.i .i64 0), (.i .i64 0), (.i .i64 0), (.i .i64 (-1)), (.i .i64 8), (.i .i64 0), (.b
  .false), (.b .false), (.b .false), (.i .i64 0), (.i .i64 0), (.i .i64 0), (.b .false)] 1 0), (.mem 59 [(.sl 5 1 0 2 (.some 2) 0), (.sl 6 1 0 2 (.some 2) 0)] 1 0), (.mem 61 [(.i
  .i64 2), (.i .i64 0), (.i .i64 0), (.i .i64 0), (.i .i64 0)] 1 0), (.mem 36 [(.i .i64 1), (.s [83, 66]), (.i .i64 0), (.i .i64 0), (.i .i64 0), (.i .i64 0), (.i .i64 0), (.i .i64
  0), (.i .i64 0), (.i .i64 0), (.i .i64 0), (.i .i64 0), (.i .i64 1), (.i .i64 0), (.i .i64 0), (.i .i64 0), (.i .i64 0), (.i .i64 0), (.i .i64 0), (.i .i64 0), (.i .i64 1), (.i
  .i64 0), (.i .i64 0), (.i .i64 0), (.i .i64 0), (.i .i64 0), (.i .i64 0), (.i .i64 0), (.i .i64 0), (.sl 7 1 0 2 (.some 2) 0), (.i .i64 1), (.sl 8 1 0 1 (.some 1) 0)] 1 0), (.mem
  36 [(.i .i64 1), (.s [83, 66]), (.i .i64 0), (.i .i64 0), (.i .i64 0), (.i .i64 0), (.i .i64 0), (.i .i64 0), (.i .i64 0), (.i .i64 0), (.i .i64 0), (.i .i64 0), (.i .i64 1), (.i
  .i64 0), (.i .i64 0), (.i .i64 0), (.i .i64 0), (.i .i64 0), (.i .i64 0), (.i .i64 0), (.i .i64 1), (.i .i64 0), (.i .i64 0), (.i .i64 0), (.i .i64 0), (.i .i64 0), (.i .i64 0),
  (.i .i64 0), (.i .i64 0), (.sl 7 1 0 2 (.some 2) 0), (.i .i64 1), (.sl 8 1 0 1 (.some 1) 0)] 1 0), (.mem 28 [(.b .false), (.sl 93 2 0 3 .none 0)] 1 0), (.mp [((.s [48, 32, 48, 32,
  48, 32, 48, 32, 48, 32, 48, 32, 48, 32, 48, 32, 49, 32, 59, 48, 32, 48, 32, 48, 32, 48, 32, 48, 32, 48, 32, 48, 32, 48, 32, 49, 32, 59, 48, 32, 48, 32, 48, 32]), (.b .true)), ((.s
  [49, 32, 48, 32, 48, 32, 48, 32, 48, 32, 48, 32, 48, 32, 48, 32, 49, 32, 59, 48, 32, 48, 32, 48, 32, 48, 32, 48, 32, 48, 32, 48, 32, 48, 32, 49, 32, 59, 49, 32, 48, 32, 48, 32]),
  (.b .true))] 1), (.mem 39 [(.map 12)] 1 0), (.mem 40 [(.fn 10 [(.ptr 13 1 0 []), (.ptr 10 1 0 []), (.ptr 14 1 0 [])])] 1 0), .fresh, .fresh, (.mem 85 [(.sl 26 2 0 2 .none 0)] 1 0),
  .fresh, (.mem 23 [(.i .i64 5), (.i .i64 (-1)), (.i .i64 7), (.i .i64 (-1)), (.i .i64 0), (.i .i64 0), (.i .i64 0), (.i .i64 (-1)), (.i .i64 8), (.i .i64 0), (.b .false), (.b
  .false), (.b .false), (.i .i64 0), (.i .i64 0), (.i .i64 0), (.b .false), (.i .i64 4), (.i .i64 0), (.i .i64 (-1)), (.i .i64 (-1)), (.i .i64 0), (.i .i64 1), (.i .i64 0), (.i .i64
  (-1)), (.i .i64 8), (.i .i64 0), (.b .false), (.b .false), (.b .false), (.i .i64 0), (.i .i64 0), (.i .i64 0), (.b .false)] 1 17), .fresh, .fresh, .fresh, .fresh, .fresh, .fresh,
  (.mem 87 [(.sl 19 1 0 2 .none 0), (.i .i64 0), (.i .i64 0), (.i .i64 0), (.i .i64 0), (.i .i64 0), (.i .i64 0), (.i .i64 0), (.i .i64 0), (.i .i64 1), (.sl 28 1 0 2 .none 0), (.i
  .i64 0), (.i .i64 0), (.i .i64 0), (.i .i64 0), (.i .i64 0), (.i .i64 0), (.i .i64 0), (.i .i64 0), (.i .i64 1)] 2 10), .fresh, (.mem 23 [(.i .i64 5), (.i .i64 (-1)), (.i .i64 7),
  (.i .i64 (-1)), (.i .i64 0), (.i .i64 1), (.i .i64 0), (.i .i64 (-1)), (.i .i64 8), (.i .i64 0), (.b .false), (.b .false), (.b .false), (.i .i64 0), (.i .i64 0), (.i .i64 0), (.b
  .false), (.i .i64 4), (.i .i64 0), (.i .i64 (-1)), (.i .i64 (-1)), (.i .i64 0), (.i .i64 0), (.i .i64 0), (.i .i64 (-1)), (.i .i64 8), (.i .i64 0), (.b .false), (.b .false), (.b
  .false), (.i .i64 0), (.i .i64 0), (.i .i64 0), (.b .false)] 1 17), (.mem 66 [(.ptr 17 1 0 []), (.i .i64 0), (.i .i64 0), (.i .i64 0)] 1 0), .fresh, .fresh, .fresh, .fresh, .fresh,
  .fresh, .fresh, .fresh, .fresh, .fresh, .fresh, .fresh, .fresh, .fresh, .fresh, .fresh, .fresh, .fresh, .fresh, .fresh, .fresh, .fresh, .fresh, .fresh, .fresh, .fresh, .fresh,
  .fresh, .fresh, .fresh, .fresh, .fresh, .fresh, .fresh, .fresh, .fresh, .fresh, .fresh, .fresh, .fresh, .fresh, .fresh, .fresh, .fresh, .fresh, .fresh, .fresh, .fresh, .fresh,
  .fresh, .fresh, .fresh, .fresh, .fresh, .fresh, .fresh, .fresh, .fresh, .fresh, .fresh, .fresh, .fresh, .fresh, (.mem 45 [(.i .i64 2), (.i .i64 0), (.i .i64 0), (.i .i64 0), (.i
  .i64 2), (.i .i64 0), (.i .i64 1), (.i .i64 0), (.i .i64 2), (.i .i64 1), (.i .i64 0), (.i .i64 0)] 2
  4)]⟩
theorem MmFind_ok : MemoOk Tryd.prog MmFind := memo_of (tr := treeF) (ft := ftree) (ms := []) (n := 40) tabOkF ftOk mixed (by intro m hm; cases hm) (by decide +kernel)
end SX
end Go.Proofs.YthggmiiipochiaaDoor

/- A run of the program, as a memo. Made by memo.py. -/
set_option maxRecDepth 100000
namespace Go.Proofs.YthggmiiipochiaaDoor
namespace SX
open Go Go.Proofs
def MmShow : Memo := ⟨9,
  [(.agg [(.i .i64 1), (.s [83, 66]), (.i .i64 0), (.i .i64 0), (.i .i64 0), (.i .i64 0), (.i .i64 0), (.i .i64 0), (.i .i64 0), (.i .i64 0), (.i .i64 0), (.i .i64 0), (.i .i64 1),
  (.i .i64 0), (.i .i64 0), (.i .i64 0), (.i .i64 0), (.i .i64 0), (.i .i64 0), (.i .i64 0), (.i .i64 1), (.i .i64 0), (.i .i64 0), (.i .i64 0), (.i .i64 0), (.i .i64 0), (.i .i64
  0), (.i .i64 0), (.i .i64 0), (.sl 2 1 0 2 (.some 2) 0), (.i .i64 1), (.sl 3 1 0 1 (.some 1) 0)]), (.sl 4 2 0 3 .none
  0)],
  [(.mem 23 [(.i .i64 5), (.i .i64 (-1)), (.i .i64 7), (.i .i64 (-1)), (.i .i64 0), (.i .i64 0), (.i .i64 0), (.i .i64 (-1)), (.i .i64 8), (.i .i64 0), (.b .false), (.b .false), (.b
  .false), (.i .i64 0), (.i .i64 0), (.i .i64 0), (.b .false), (.i .i64 4), (.i .i64 0), (.i .i64 (-1)), (.i .i64 (-1)), (.i .i64 0), (.i .i64 1), (.i .i64 0), (.i .i64 (-1)), (.i
  .i64 8), (.i .i64 0), (.b .false), (.b .false), (.b .false), (.i .i64 0), (.i .i64 0), (.i .i64 0), (.b .false)] 1 0), (.mem 23 [(.i .i64 5), (.i .i64 (-1)), (.i .i64 7), (.i .i64
  (-1)), (.i .i64 0), (.i .i64 1), (.i .i64 0), (.i .i64 (-1)), (.i .i64 8), (.i .i64 0), (.b .false), (.b .false), (.b .false), (.i .i64 0), (.i .i64 0), (.i .i64 0), (.b .false),
  (.i .i64 4), (.i .i64 0), (.i .i64 (-1)), (.i .i64 (-1)), (.i .i64 0), (.i .i64 0), (.i .i64 0), (.i .i64 (-1)), (.i .i64 8), (.i .i64 0), (.b .false), (.b .false), (.b .false),
  (.i .i64 0), (.i .i64 0), (.i .i64 0), (.b .false)] 1 0), (.mem 59 [(.sl 0 1 0 2 (.some 2) 0), (.sl 1 1 0 2 (.some 2) 0)] 1 0), (.mem 61 [(.i .i64 2), (.i .i64 0), (.i .i64 0), (.i
  .i64 0), (.i .i64 0)] 1 0), (.mem 45 [(.i .i64 2), (.i .i64 0), (.i .i64 0), (.i .i64 0), (.i .i64 2), (.i .i64 0), (.i .i64 1), (.i .i64 0), (.i .i64 2), (.i .i64 1), (.i .i64 0),
  (.i .i64 0)] 2
  4)],
  (.b
  .true),
  [(.mem 23 [(.i .i64 5), (.i .i64 (-1)), (.i .i64 7), (.i .i64 (-1)), (.i .i64 0), (.i .i64 0), (.i .i64 0), (.i .i64 (-1)), (.i .i64 8), (.i .i64 0), (.b .false), (.b .false), (.b
  .false), (.i .i64 0), (.i .i64 0), (.i .i64 0), (.b .false), (.i .i64 4), (.i .i64 0), (.i .i64 (-1)), (.i .i64 (-1)), (.i .i64 0), (.i .i64 1), (.i .i64 0), (.i .i64 (-1)), (.i
  .i64 8), (.i .i64 0), (.b .false), (.b .false), (.b .false), (.i .i64 0), (.i .i64 0), (.i .i64 0), (.b .false)] 1 0), (.mem 23 [(.i .i64 5), (.i .i64 (-1)), (.i .i64 7), (.i .i64
  (-1)), (.i .i64 0), (.i .i64 1), (.i .i64 0), (.i .i64 (-1)), (.i .i64 8), (.i .i64 0), (.b .false), (.b .false), (.b .false), (.i .i64 0), (.i .i64 0), (.i .i64 0), (.b .false),
  (.i .i64 4), (.i .i64 0), (.i .i64 (-1)), (.i .i64 (-1)), (.i .i64 0), (.i .i64 0), (.i .i64 0), (.i .i64 (-1)), (.i .i64 8), (.i .i64 0), (.b .false), (.b .false), (.b .false),
  (.i .i64 0), (.i .i64 0), (.i .i64 0), (.b .false)] 1 0), (.mem 59 [(.sl 0 1 0 2 (.some 2) 0), (.sl 1 1 0 2 (.some 2) 0)] 1 0), (.mem 61 [(.i .i64 2), (.i .i64 0), (.i .i64 0), (.i
  .i64 0), (.i .i64 0)] 1 0), (.mem 45 [(.i .i64 2), (.i .i64 0), (.i .i64 0), (.i .i64 0), (.i .i64 2), (.i .i64 0), (.i .i64 1), (.i .i64 0), (.i .i64 2), (.i .i64 1), (.i .i64 0),
  (.i .i64 0)] 2
  4)]⟩
theorem MmShow_ok : MemoOk Tryd.prog MmShow := memo_of (tr := treeF) (ft := ftree) (ms := [MmFind]) (n := 40) tabOkF ftOk mixed (by intro m hm; simp only [List.mem_cons, List.not_mem_nil, or_false] at hm; subst hm; exact MmFind_ok) (by decide +kernel)
end SX
end Go.Proofs.YthggmiiipochiaaDoor

/- A run of the program, as a memo. Made by memo.py. -/
set_option maxRecDepth 100000
namespace Go.Proofs.YthggmiiipochiaaDoor
namespace SX
open Go Go.Proofs
def MmAble : Memo := ⟨4,
  [],
  [],
  (.b
  .true),
  [(.mem 36 [(.i .i64 1), (.s [83, 66]), (.i .i64 0), (.i .i64 0), (.i .i64 0), (.i .i64 0), (.i .i64 0), (.i .i64 0), (.i .i64 0), (.i .i64 0), (.i .i64 0), (.i .i64 0), (.i .i64
  1), (.i .i64 0), (.i .i64 0), (.i .i64 0), (.i .i64 0), (.i .i64 0), (.i .i64 0), (.i .i64 0), (.i .i64 1), (.i .i64 0), (.i .i64 0), (.i .i64 0), (.i .i64 0), (.i .i64 0), (.i
  .i64 0), (.i .i64 0), (.i .i64 0), (.sl 7 1 0 2 (.some 2) 0), (.i .i64 1), (.sl 8 1 0 1 (.some 1) 0)] 1 0), (.mem 23 [(.i .i64 5), (.i .i64 (-1)), (.i .i64 7), (.i .i64 (-1)), (.i
  .i64 0), (.i .i64 0), (.i .i64 0), (.i .i64 (-1)), (.i .i64 8), (.i .i64 0), (.b .false), (.b .false), (.b .false), (.i .i64 0), (.i .i64 0), (.i .i64 0), (.b .false)] 1 0), (.mem
  23 [(.i .i64 4), (.i .i64 0), (.i .i64 (-1)), (.i .i64 (-1)), (.i .i64 0), (.i .i64 0), (.i .i64 0), (.i .i64 (-1)), (.i .i64 8), (.i .i64 0), (.b .false), (.b .false), (.b
  .false), (.i .i64 0), (.i .i64 0), (.i .i64 0), (.b .false)] 1 0), (.mem 23 [(.i .i64 5), (.i .i64 (-1)), (.i .i64 7), (.i .i64 (-1)), (.i .i64 0), (.i .i64 1), (.i .i64 0), (.i
  .i64 (-1)), (.i .i64 8), (.i .i64 0), (.b .false), (.b .false), (.b .false), (.i .i64 0), (.i .i64 0), (.i .i64 0), (.b .false)] 1 0), (.mem 23 [(.i .i64 4), (.i .i64 0), (.i .i64
  (-1)), (.i .i64 (-1)), (.i .i64 0), (.i .i64 1), (.i .i64 0), (.i .i64 (-1)), (.i .i64 8), (.i .i64 0), (.b .false), (.b .false), (.b .false), (.i .i64 0), (.i .i64 0), (.i .i64
  0), (.b .false)] 1 0), (.mem 23 [(.i .i64 5), (.i .i64 (-1)), (.i .i64 7), (.i .i64 (-1)), (.i .i64 0), (.i .i64 0), (.i .i64 0), (.i .i64 (-1)), (.i .i64 8), (.i .i64 0), (.b
  .false), (.b .false), (.b .false), (.i .i64 0), (.i .i64 0), (.i .i64 0), (.b .false), (.i .i64 4), (.i .i64 0), (.i .i64 (-1)), (.i .i64 (-1)), (.i .i64 0), (.i .i64 1), (.i .i64
  0), (.i .i64 (-1)), (.i .i64 8), (.i .i64 0), (.b .false), (.b .false), (.b .false), (.i .i64 0), (.i .i64 0), (.i .i64 0), (.b .false)] 1 0), (.mem 23 [(.i .i64 5), (.i .i64
  (-1)), (.i .i64 7), (.i .i64 (-1)), (.i .i64 0), (.i .i64 1), (.i .i64 0), (.i .i64 (-1)), (.i .i64 8), (.i .i64 0), (.b .false), (.b .false), (.b .false), (.i .i64 0), (.i .i64
  0), (.i .i64 0), (.b .false), (.i .i64 4), (.i .i64 0), (.i .i64 (-1)), (.i .i64 (-1)), (.i .i64 0), (.i .i64 0), (.i .i64 0), (.i .i64 (-1)), (.i .i64 8), (.i .i64 0), (.b
  .false), (.b .false), (.b .false), (.i .i64 0), (.i .i64 0), (.i .i64 0), (.b .false)] 1 0), (.mem 59 [(.sl 5 1 0 2 (.some 2) 0), (.sl 6 1 0 2 (.some 2) 0)] 1 0), (.mem 61 [(.i
  .i64 2), (.i .i64 0), (.i .i64 0), (.i .i64 0), (.i .i64 0)] 1 0), (.mem 36 [(.i .i64 1), (.s [83, 66]), (.i .i64 0), (.i .i64 0), (.i .i64 0), (.i .i64 0), (.i .i64 0), (.i .i64
  0), (.i .i64 0), (.i .i64 0), (.i .i64 0), (.i .i64 0), (.i .i64 1), (.i .i64 0), (.i .i64 0), (.i .i64 0), (.i .i64 0), (.i .i64 0), (.i .i64 0), (.i .i64 0), (.i .i64 1), (.i
  .i64 0), (.i .i64 0), (.i .i64 0), (.i .i64 0), (.i .i64 0), (.i .i64 0), (.i .i64 0), (.i .i64 0), (.sl 7 1 0 2 (.some 2) 0), (.i .i64 1), (.sl 8 1 0 1 (.some 1) 0)] 1 0), (.mem
  36 [(.i .i64 1), (.s [83, 66]), (.i .i64 0), (.i .i64 0), (.i .i64 0), (.i .i64 0), (.i .i64 0), (.i .i64 0), (.i .i64 0), (.i .i64 0), (.i .i64 0), (.i .i64 0), (.i .i64 1), (.i
  .i64 0), (.i .i64 0), (.i .i64 0), (.i .i64 0), (.i .i64 0), (.i .i64 0), (.i .i64 0), (.i .i64 1), (.i .i64 0), (.i .i64 0), (.i .i64 0), (.i .i64 0), (.i .i64 0), (.i .i64 0),
  (.i .i64 0), (.i .i64 0), (.sl 7 1 0 2 (.some 2) 0), (.i .i64 1), (.sl 8 1 0 1 (.some 1) 0)] 1 0), (.mem 28 [(.b .false), (.sl 93 2 0 3 .none 0)] 1 0), (.mp [((.s [48, 32, 48, 32,
  48, 32, 48, 32, 48, 32, 48, 32, 48, 32, 48, 32, 49, 32, 59, 48, 32, 48, 32, 48, 32, 48, 32, 48, 32, 48, 32, 48, 32, 48, 32, 49, 32, 59, 48, 32, 48, 32, 48, 32]), (.b .true)), ((.s
  [49, 32, 48, 32, 48, 32, 48, 32, 48, 32, 48, 32, 48, 32, 48, 32, 49, 32, 59, 48, 32, 48, 32, 48, 32, 48, 32, 48, 32, 48, 32, 48, 32, 48, 32, 49, 32, 59, 49, 32, 48, 32, 48, 32]),
  (.b .true))] 1), (.mem 39 [(.map 12)] 1 0), (.mem 40 [(.fn 10 [(.ptr 13 1 0 []), (.ptr 10 1 0 []), (.ptr 14 1 0 [])])] 1 0), (.mem 28 [(.b .false), (.sl 93 2 0 3 .none 0)] 1 0),
  .fresh, (.mem 85 [(.sl 26 2 0 2 .none 0)] 1 0), .fresh, (.mem 23 [(.i .i64 5), (.i .i64 (-1)), (.i .i64 7), (.i .i64 (-1)), (.i .i64 0), (.i .i64 0), (.i .i64 0), (.i .i64 (-1)),
  (.i .i64 8), (.i .i64 0), (.b .false), (.b .false), (.b .false), (.i .i64 0), (.i .i64 0), (.i .i64 0), (.b .false), (.i .i64 4), (.i .i64 0), (.i .i64 (-1)), (.i .i64 (-1)), (.i
  .i64 0), (.i .i64 1), (.i .i64 0), (.i .i64 (-1)), (.i .i64 8), (.i .i64 0), (.b .false), (.b .false), (.b .false), (.i .i64 0), (.i .i64 0), (.i .i64 0), (.b .false)] 1 17),
  .fresh, .fresh, .fresh, (.mem 23 [(.i .i64 5), (.i .i64 (-1)), (.i .i64 7), (.i .i64 (-1)), (.i .i64 0), (.i .i64 0), (.i .i64 0), (.i .i64 (-1)), (.i .i64 8), (.i .i64 0), (.b
  .false), (.b .false), (.b .false), (.i .i64 0), (.i .i64 0), (.i .i64 0), (.b .false), (.i .i64 4), (.i .i64 0), (.i .i64 (-1)), (.i .i64 (-1)), (.i .i64 0), (.i .i64 1), (.i .i64
  0), (.i .i64 (-1)), (.i .i64 8), (.i .i64 0), (.b .false), (.b .false), (.b .false), (.i .i64 0), (.i .i64 0), (.i .i64 0), (.b .false)] 1 0), (.mem 23 [(.i .i64 5), (.i .i64
  (-1)), (.i .i64 7), (.i .i64 (-1)), (.i .i64 0), (.i .i64 1), (.i .i64 0), (.i .i64 (-1)), (.i .i64 8), (.i .i64 0), (.b .false), (.b .false), (.b .false), (.i .i64 0), (.i .i64
  0), (.i .i64 0), (.b .false), (.i .i64 4), (.i .i64 0), (.i .i64 (-1)), (.i .i64 (-1)), (.i .i64 0), (.i .i64 0), (.i .i64 0), (.i .i64 (-1)), (.i .i64 8), (.i .i64 0), (.b
  .false), (.b .false), (.b .false), (.i .i64 0), (.i .i64 0), (.i .i64 0), (.b .false)] 1 0), (.mem 59 [(.sl 23 1 0 2 (.some 2) 0), (.sl 24 1 0 2 (.some 2) 0)] 1 0), (.mem 87 [(.sl
  19 1 0 2 .none 0), (.i .i64 0), (.i .i64 0), (.i .i64 0), (.i .i64 0), (.i .i64 0), (.i .i64 0), (.i .i64 0), (.i .i64 0), (.i .i64 1), (.sl 28 1 0 2 .none 0), (.i .i64 0), (.i
  .i64 0), (.i .i64 0), (.i .i64 0), (.i .i64 0), (.i .i64 0), (.i .i64 0), (.i .i64 0), (.i .i64 1)] 2 10), (.mem 61 [(.i .i64 2), (.i .i64 0), (.i .i64 0), (.i .i64 0), (.i .i64
  0)] 1 0), (.mem 23 [(.i .i64 5), (.i .i64 (-1)), (.i .i64 7), (.i .i64 (-1)), (.i .i64 0), (.i .i64 1), (.i .i64 0), (.i .i64 (-1)), (.i .i64 8), (.i .i64 0), (.b .false), (.b
  .false), (.b .false), (.i .i64 0), (.i .i64 0), (.i .i64 0), (.b .false), (.i .i64 4), (.i .i64 0), (.i .i64 (-1)), (.i .i64 (-1)), (.i .i64 0), (.i .i64 0), (.i .i64 0), (.i .i64
  (-1)), (.i .i64 8), (.i .i64 0), (.b .false), (.b .false), (.b .false), (.i .i64 0), (.i .i64 0), (.i .i64 0), (.b .false)] 1 17), (.mem 66 [(.ptr 17 1 0 []), (.i .i64 0), (.i .i64
  0), (.i .i64 0)] 1 0), .fresh, .fresh, .fresh, .fresh, .fresh, .fresh, .fresh, .fresh, .fresh, .fresh, .fresh, .fresh, .fresh, .fresh, .fresh, .fresh, .fresh, .fresh, .fresh,
  .fresh, .fresh, .fresh, .fresh, .fresh, .fresh, .fresh, .fresh, .fresh, .fresh, .fresh, .fresh, .fresh, .fresh, .fresh, .fresh, .fresh, .fresh, .fresh, .fresh, .fresh, .fresh,
  .fresh, .fresh, .fresh, .fresh, .fresh, .fresh, .fresh, .fresh, .fresh, .fresh, .fresh, .fresh, .fresh, .fresh, .fresh, .fresh, .fresh, .fresh, .fresh, .fresh, .fresh, .fresh,
  (.mem 45 [(.i .i64 2), (.i .i64 0), (.i .i64 0), (.i .i64 0), (.i .i64 2), (.i .i64 0), (.i .i64 1), (.i .i64 0), (.i .i64 2), (.i .i64 1), (.i .i64 0), (.i .i64 0)] 2 4), .fresh,
  .fresh, .fresh, .fresh, .fresh, (.mem 23 [(.i .i64 5), (.i .i64 (-1)), (.i .i64 7), (.i .i64 (-1)), (.i .i64 0), (.i .i64 0), (.i .i64 0), (.i .i64 (-1)), (.i .i64 8), (.i .i64 0),
  (.b .false), (.b .false), (.b .false), (.i .i64 0), (.i .i64 0), (.i .i64 0), (.b .false), (.i .i64 4), (.i .i64 0), (.i .i64 (-1)), (.i .i64 (-1)), (.i .i64 0), (.i .i64 1), (.i
  .i64 0), (.i .i64 (-1)), (.i .i64 8), (.i .i64 0), (.b .false), (.b .false), (.b .false), (.i .i64 0), (.i .i64 0), (.i .i64 0), (.b .false)] 1 0), (.mem 23 [(.i .i64 5), (.i .i64
  (-1)), (.i .i64 7), (.i .i64 (-1)), (.i .i64 0), (.i .i64 1), (.i .i64 0), (.i .i64 (-1)), (.i .i64 8), (.i .i64 0), (.b .false), (.b .false), (.b .false), (.i .i64 0), (.i .i64
  0), (.i .i64 0), (.b .false), (.i .i64 4), (.i .i64 0), (.i .i64 (-1)), (.i .i64 (-1)), (.i .i64 0), (.i .i64 0), (.i .i64 0), (.i .i64 (-1)), (.i .i64 8), (.i .i64 0), (.b
  .false), (.b .false), (.b .false), (.i .i64 0), (.i .i64 0), (.i .i64 0), (.b .false)] 1 0), (.mem 59 [(.sl 99 1 0 2 (.some 2) 0), (.sl 100 1 0 2 (.some 2) 0)] 1 0), (.mem 61 [(.i
  .i64 2), (.i .i64 0), (.i .i64 0), (.i .i64 0), (.i .i64 0)] 1
  0)]⟩
theorem MmAble_ok : MemoOk Tryd.prog MmAble := memo_of (tr := treeF) (ft := ftree) (ms := [MmFind, MmShow]) (n := 40) tabOkF ftOk mixed (by intro m hm; simp only [List.mem_cons, List.not_mem_nil, or_false] at hm; rcases hm with rfl | rfl; all_goals first | exact MmFind_ok | exact MmShow_ok) (by decide +kernel)
end SX
end Go.Proofs.YthggmiiipochiaaDoor
