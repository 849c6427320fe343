/- A part of SX: symbolic and concrete runs of the program, with contracts of functions; lemmas without further conditions. Shortened by a tool (mini.py). -/
import Derived.Test.YtdddpbmcoimgdaaGreatDoorJAC
import Derived.Test.YtdddpbmcoimgdaaGreatDoorJAF
import Derived.Test.YtdddpbmcoimgdaaGreatDoorJAH
import Derived.Test.YtdddpbmcoimgdaaGreatDoorJAA
set_option linter.unusedVariables false
set_option linter.unusedSimpArgs false
set_option linter.unusedSectionVars false
set_option maxRecDepth 100000
namespace Go.Proofs.YtdddpbmcoimgdaaGreatDoor
namespace SX
open Go Go.Proofs
theorem Zh6 {f:Nat} {args:List SV} {r:SV} (h:(match runM treeF ftree [] 40 f args [] with | some (r1,H1)=>sveq (fin true [] r1 H1).1 r&&sbL (fin true [] r1 H1).2 [] | none=>false)=true):CtrV Tryz.prog f args r:=by
 cases hq:runM treeF ftree [] 40 f args [] with
 | none=>rw [hq] at h;cases h
 | some q=>
   obtain ⟨r1,H1⟩:=q
   rw [hq] at h
   simp only [Bool.and_eq_true] at h
   have:=ZaO ZK true (Zh1 (tr:=treeF) (ft:=ftree) (ms:=[]) Z5 ftOk mixed (by intro m hm;cases hm) 40 _ _ _ _ _ hq)
   rw [sveq_ok _ _ h.1,Zb7 _ _ h.2] at this
   exact this
theorem Zez:CtrV Tryz.prog 9 [] (.b true):=Zh6 (by decide +kernel)
end SX
end Go.Proofs.YtdddpbmcoimgdaaGreatDoor
