/- A part of SX: symbolic and concrete runs of the program, with contracts of functions; lemmas without further conditions. -/
import Derived.Shelf.Strconv.Itoa3
import Derived.Lib.ItoaLen
import Derived.Test.YtlgjjklikbpcoaaGreatDoorYQ
set_option linter.unusedVariables false
set_option linter.unusedSimpArgs false
set_option linter.unusedSectionVars false
/- strconv.Itoa: its contract, and the reference's Digits. -/
set_option linter.unusedVariables false
set_option maxRecDepth 100000
namespace Go.Proofs.YtlgjjklikbpcoaaGreatDoor
namespace SX
open Go Go.Proofs
end SX
end Go.Proofs.YtlgjjklikbpcoaaGreatDoor
