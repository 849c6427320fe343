/- A part of SX: symbolic and concrete runs of the program, with contracts of functions; lemmas without further conditions. -/
import Derived.Test.YtlgjjklikbpcoaaGreatDoorYC
set_option linter.unusedVariables false
set_option linter.unusedSimpArgs false
set_option linter.unusedSectionVars false
/- SX: clear of a row's end; what is known of slices that stay. -/
set_option linter.unusedVariables false
set_option linter.unusedSimpArgs false
namespace Go.Proofs.YtlgjjklikbpcoaaGreatDoor
namespace SX
open Go

section
variable {P : Program} {T : Tb} {ops : Array Oper} {o : Oper}
end
end SX
end Go.Proofs.YtlgjjklikbpcoaaGreatDoor

/- SX: more of guarded operations in a drawn order; rows joined. -/
set_option linter.unusedVariables false
set_option linter.unusedSimpArgs false
namespace Go.Proofs.YtlgjjklikbpcoaaGreatDoor
namespace SX
open Go
theorem Joins.trans {a b c b' c' : List SV} (h1 : Joins a b c) (h2 : Joins c b' c') : Joins a (b ++ b') c' :=
  ⟨fun E => by rw [h2.cells, h1.cells, cellsL_append, List.append_assoc], fun m V ha hb => h2.ok m V (h1.ok m V ha (OkL_append.1 hb).1) (OkL_append.1 hb).2⟩
section
variable {P : Program} {T : Tb} {ops : Array Oper} {o : Oper}
end
end SX
end Go.Proofs.YtlgjjklikbpcoaaGreatDoor
