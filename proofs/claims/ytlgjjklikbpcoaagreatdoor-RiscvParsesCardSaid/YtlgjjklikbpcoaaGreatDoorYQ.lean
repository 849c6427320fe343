/- A part of SX: symbolic and concrete runs of the program, with contracts of functions; lemmas without further conditions. -/
import Derived.Lib.ItoaNum
import Derived.Test.YtlgjjklikbpcoaaGreatDoorYP
set_option linter.unusedVariables false
set_option linter.unusedSimpArgs false
set_option linter.unusedSectionVars false
/- Digits, plain. -/
set_option linter.unusedVariables false
namespace Go.Proofs.YtlgjjklikbpcoaaGreatDoor
namespace SX
open Go Go.Proofs
def DI (n k : Nat) (s : List UInt8) : Prop := (s = [] ∧ k = n) ∨ (s ≠ [] ∧ Lib.decDigits n = (if k = 0 then [] else Lib.decDigits k) ++ s)
end SX
end Go.Proofs.YtlgjjklikbpcoaaGreatDoor
