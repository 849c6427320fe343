/- A part of SX: symbolic and concrete runs of the program, with contracts of functions; lemmas without further conditions. Shortened by a tool (mini.py). -/
import Derived.Test.YtdddpbmcoimgdaaGreatDoorJAL
import Derived.Test.YtdddpbmcoimgdaaGreatDoorJAN
import Derived.Test.YtdddpbmcoimgdaaGreatDoorJAO
import Derived.Test.YtdddpbmcoimgdaaGreatDoorJAP
import Derived.Test.YtdddpbmcoimgdaaGreatDoorJAR
import Derived.Test.YtdddpbmcoimgdaaGreatDoorJAA
set_option linter.unusedVariables false
set_option linter.unusedSimpArgs false
set_option linter.unusedSectionVars false
set_option maxRecDepth 100000
namespace Go.Proofs.YtdddpbmcoimgdaaGreatDoor
namespace SX
open Go Go.Proofs
def Zy (s:List UInt8):Bool:=match tokF s with
 | ([t],e,_)=>decide (e=0)&&(decide (t.k=1)&&decide (t.s=s))
 | _=>false
set_option maxHeartbeats 1000000 in
theorem Z2X (s:List UInt8):CtrV Tryz.prog 43 [.s s] (.b (Zy s)):=by
 refine Z8 Z5 (fn:=Tryz.f43) Z Z Z Z Z Z ?_
 refine Z1k Z Z Z Z [] 1 Z Z Z (Zdm s) Z Z Z Z trivial rfl (fun r H' hk=>?_) ?_
 ·rcases hk with ⟨ts,ad,cap,B,h1,rfl,rfl⟩ | ⟨e,p,h1,he,rfl,rfl⟩
  ·exact ⟨Nat.zero_le _,Nat.le_refl _⟩
  ·exact ⟨Nat.zero_le _,Nat.zero_le _⟩
 rintro r H' (⟨ts,ad,cap,B,h1,rfl,rfl⟩ | ⟨e,p,h1,he,rfl,rfl⟩)
 ·have hob:((decide ((0:Int)=0)&&decide ((ts.length:Int)=1)) == true)=true→(0:Int)≤0∧(0:Int) < (ts.length:Int):=by
   intro hg
   simp at hg
   omega
  refine ⟨hob,?_⟩
  refine ⟨fun hg=>?_,?_⟩
  ·have hg:((((decide ((0:Int)=0)&&decide ((ts.length:Int)=1))&&decide ((ts.getD 0 tk0).k=1)) == true))=true:=hg
   simp at hg
   show (0:Int)≤0∧(0:Int) < (ts.length:Int)
   omega
  refine b_cg ?_
  show (((decide ((0:Int)=0)&&decide ((ts.length:Int)=1))&&decide ((ts.getD 0 tk0).k=1))&&decide ((ts.getD 0 tk0).s=s))=Zy s
  unfold Zy
  rw [h1]
  rcases ts with _ | ⟨t,_ | ⟨u,ts⟩⟩
  ·simp
  ·simp
  ·simp
   omega
 ·have hb:((decide (e=0)&&decide ((0:Int)=1)) == true)=false:=by rw [decide_eq_false he];rfl
  have hb2:(((decide (e=0)&&decide ((0:Int)=1))&&decide ((0:Int)=1)) == true)=false:=by rw [decide_eq_false he];rfl
  iterate 2 refine Z33 rfl hb (.raw (.pointer none)) ?_
  refine Z33 rfl hb (.i .i64 0) ?_
  iterate 2 refine Z33 rfl hb2 (.raw (.pointer none)) ?_
  refine Z33 rfl hb2 (.s []) ?_
  refine b_cg ?_
  show (((decide (e=0)&&decide ((0:Int)=1))&&decide ((0:Int)=1))&&decide ([]=s))=Zy s
  unfold Zy
  rw [h1,decide_eq_false he]
  rfl
theorem ZbB {i:In} {lo hi:Int} (h:Zr i=false):rgtF i lo hi=34:=by unfold rgtF;rw [h];rfl
theorem Z8Y {i:In} {lo hi:Int} (h:Zr i=true):rgtF i lo hi=if toX i lo hi=true then 35 else 0:=by unfold rgtF;rw [h];rfl
def ansF (i:In) (lb t:List UInt8):SV:=
 if Zr i=false then .tup [.s [],.i .i64 34] else if t=[] then .tup [.s [],.i .i64 36] else if i.op=9∧Zy lb=false then .tup [.s [],.i .i64 37] else .tup [.s t,.i .i64 0]
theorem Z3s {p:SV→Prop} {i:In} {lb t:List UInt8} (h:∀ (x:List UInt8) (n:Int),p (.tup [.s x,.i .i64 n])):p (ansF i lb t):=by
 unfold ansF
 split
 ·exact h _ _
 ·split
  ·exact h _ _
  ·split <;> exact h _ _
end SX
end Go.Proofs.YtdddpbmcoimgdaaGreatDoor
