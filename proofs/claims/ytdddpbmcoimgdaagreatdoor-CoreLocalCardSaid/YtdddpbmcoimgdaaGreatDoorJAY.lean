/- A part of SX: symbolic and concrete runs of the program, with contracts of functions; lemmas without further conditions. Shortened by a tool (mini.py). -/
import Derived.Test.YtdddpbmcoimgdaaGreatDoorJAU
import Derived.Test.YtdddpbmcoimgdaaGreatDoorJAA
set_option linter.unusedVariables false
set_option linter.unusedSimpArgs false
set_option linter.unusedSectionVars false
set_option maxRecDepth 100000
namespace Go.Proofs.YtdddpbmcoimgdaaGreatDoor
namespace SX
open Go Go.Proofs
theorem Z9A {v n:Nat} {ts:List Thr} {k:Nat} (hk:k < n) (hv:v≠0) (h:stdB (ts.getD k thr0)=true):Ctr Tryz.prog 18 [.ptr 0 1 0 [],.i .i64 k] (Z1w v n ts) (fun r H=>r=.tup [.agg (ienc ((ts.getD k thr0).r.xs.getD (ts.getD k thr0).k inZ)),.b true]∧H=Z1w v n ts):=by
 have:=Zbv v n ts k hk hv
 unfold rdyV at this
 rw [if_pos h,h] at this;exact this
theorem ZeU {v n:Nat} {ts:List Thr} {k:Nat} (hk:k < n) (hv:v≠0) (h:stdB (ts.getD k thr0)=false):Ctr Tryz.prog 18 [.ptr 0 1 0 [],.i .i64 k] (Z1w v n ts) (fun r H=>r=.tup [.agg (ienc inZ),.b false]∧H=Z1w v n ts):=by
 have:=Zbv v n ts k hk hv
 unfold rdyV at this
 rw [if_neg (by rw [h];decide),h] at this;exact this
end SX
end Go.Proofs.YtdddpbmcoimgdaaGreatDoor
