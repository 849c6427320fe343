/- A part of SX: symbolic and concrete runs of the program, with contracts of functions; lemmas without further conditions. Shortened by a tool (mini.py). -/
import Derived.Test.YtdddpbmcoimgdaaGreatDoorWAC
import Derived.Test.YtdddpbmcoimgdaaGreatDoorWAA
set_option linter.unusedVariables false
set_option linter.unusedSimpArgs false
set_option linter.unusedSectionVars false
set_option maxRecDepth 100000
namespace Go.Proofs.YtdddpbmcoimgdaaGreatDoor
namespace SX
open Go Go.Proofs
theorem ZhA {f:Nat} {args:List SV} {r:SV} (h:(match runM treeF ftree [] 40 f args [] with | some (r1,H1)=>sveq (fin true [] r1 H1).1 r&&sbL (fin true [] r1 H1).2 [] | none=>false)=true):CtrV Tryz.prog f args r:=by
 cases hq:runM treeF ftree [] 40 f args [] with
 | none=>rw [hq] at h;cases h
 | some q=>
   obtain ⟨r1,H1⟩:=q
   rw [hq] at h
   simp only [Bool.and_eq_true] at h
   have:=Zbr Z11 true (ZcV (tr:=treeF) (ft:=ftree) (ms:=[]) Z5 ftOk mixed (by intro m hm;cases hm) 40 _ _ _ _ _ hq)
   rw [sveq_ok _ _ h.1,Z8W _ _ h.2] at this
   exact this
theorem Z52:CtrV Tryz.prog 9 [] (.b true):=ZhA (by decide +kernel)
end SX
end Go.Proofs.YtdddpbmcoimgdaaGreatDoor
