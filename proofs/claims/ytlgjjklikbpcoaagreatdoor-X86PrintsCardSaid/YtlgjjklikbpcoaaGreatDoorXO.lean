/- A part of SX: symbolic and concrete runs of the program, with contracts of functions; lemmas without further conditions. -/
import Derived.Test.YtlgjjklikbpcoaaGreatDoorXN
set_option linter.unusedVariables false
set_option linter.unusedSimpArgs false
set_option linter.unusedSectionVars false
/- SX: string(bytes), symbolic. -/
set_option linter.unusedVariables false
set_option linter.unusedSimpArgs false
namespace Go.Proofs.YtlgjjklikbpcoaaGreatDoor
namespace SX
open Go
section
variable {P : Program} {T : Tb} {ops : Array Oper} {o : Oper}
theorem OpC.str (hT : TabOk P T) {K : St → Prop} {t : List SV} {h : List SB} {src dst : TypeId} {x : Operand} (hop : o.op = .convert src dst x) (hg : guardOf ops t o = some []) (hl : live (evG [] t x) = true) {r : SV} {rb : List Nat} (hs : strR T h src dst (evG [] t x) = some (r, rb)) (hK : putK t h o.dst r K) : OpC P T ops o K ⟨t, h⟩ := by
  rw [putK_eq] at hK
  refine OpC.value (S := ⟨t, h⟩) (p := []) hg (x := r) (fun C E m a w hr hgv => ?_) hK
  obtain ⟨gx, rx⟩ := (hr.evs hgv).live (o := x) hl
  obtain ⟨r1, r2⟩ := strR_ok hT hr.rel gx hs
  exact ⟨_, by simp only [execOp, hop, rx, Sem.run_bind, r1, Result.andThen_ok, Sem.run_pure], .inr ⟨r2, rfl⟩⟩
end
end SX
end Go.Proofs.YtlgjjklikbpcoaaGreatDoor
