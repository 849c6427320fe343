/- A part of SX: symbolic and concrete runs of the program, with contracts of functions; lemmas without further conditions. Shortened by a tool (mini.py). -/
import Derived.Test.YtdddpbmcoimgdaaGreatDoorJAZ
import Derived.Test.YtdddpbmcoimgdaaGreatDoorJAA
set_option linter.unusedVariables false
set_option linter.unusedSimpArgs false
set_option linter.unusedSectionVars false
set_option maxRecDepth 100000
namespace Go.Proofs.YtdddpbmcoimgdaaGreatDoor
namespace SX
open Go Go.Proofs
set_option maxHeartbeats 1600000 in
theorem xp_31 (s0 s1 s2 s3 s4 s5 s6 s7 h:List UInt8) (rd pw:Nat) (hs:∀ n,(nmF [s0,s1,s2,s3,s4,s5,s6,s7] n).length≤3) (hh:h.length≤10) (dst a b imm loc off ix sz pr su to:Int) (acq wk rel ze:Bool) (lb:List UInt8) (hd:dst=a) (hi:in64 imm):Ctr Tryz.prog 152 [.ptr 1 1 0 [],.agg (ienc ⟨3,dst,a,b,imm,loc,off,ix,sz,1,acq,wk,rel,pr,su,to,ze⟩),.s lb] [rowS s0 s1 s2 s3 s4 s5 s6 s7,Zg h rd pw]
 (fun r h'=>r=.tup [.s (Z7 [65,68,68] [nmF [s0,s1,s2,s3,s4,s5,s6,s7] dst,orF [s0,s1,s2,s3,s4,s5,s6,s7] h b imm]),.b true]∧h'=[rowS s0 s1 s2 s3 s4 s5 s6 s7,Zg h rd pw]):=by
 refine Ze Z5 (fn:=Tryz.f152) Z Z Z Z Z Z Zm ?_
 refine Z9 Z Z Z Z Z Z (fun _=>Z2 (ZB sz [66] [87] [76] [81]) (fun ρ=>rfl) _ [3] Z Z ⟨rfl,trivial⟩ rfl) ?_
 iterate 2 refine ⟨fun h=>Z3 h,fun _=>?_⟩
 refine ⟨fun _=>?_,fun h=>?_⟩
 rotate_left
 ·have h:decide (dst=a)=false:=h
  rw [decide_eq_true hd] at h;exact Zv h
 refine WpC.dr Z5 mixed 2 ?_
 refine Zq Z Z Z Z [] 1 Z Z Z2p Z Z Z Z trivial Z Z ?_
 refine ⟨fun _=>by show (0:Int)≤1∧(1:Int) < ((6:Nat):Int);decide,?_⟩
 refine Z0 [0,1] Z Z Z Z Z Z (r:=.s (nmF [s0,s1,s2,s3,s4,s5,s6,s7] dst)) (fun _ H1 hH=>Z2 (Z1Y s0 s1 s2 s3 s4 s5 s6 s7 h rd pw dst) (fun ρ=>rfl) H1 [0,1] Z Z ⟨hH 0 (by simp),hH 1 (by simp),trivial⟩ rfl) ?_
 refine Z0 [0,1] Z Z Z Z Z Z (r:=.s (orF [s0,s1,s2,s3,s4,s5,s6,s7] h b imm)) (fun _ H1 hH=>Z2 (Z3k s0 s1 s2 s3 s4 s5 s6 s7 h rd pw b imm hi hh) (fun ρ=>rfl) H1 [0,1] Z Z ⟨hH 0 (by simp),hH 1 (by simp),trivial⟩ rfl) ?_
 refine Z0 [5] Z Z Z Z Z Z (r:=.s (Z7 [65,68,68] [nmF [s0,s1,s2,s3,s4,s5,s6,s7] dst,orF [s0,s1,s2,s3,s4,s5,s6,s7] h b imm])) (fun _ H1 hH=>Z2 (Zb [65,68,68] [nmF [s0,s1,s2,s3,s4,s5,s6,s7] dst,orF [s0,s1,s2,s3,s4,s5,s6,s7] h b imm] 2 rfl (by decide) (by decide) (by rw [Z1b];have:=hs dst;have:=Z35 (r:=b) hs hi hh;omega) (by decide)) (fun ρ=>rfl) H1 [5] Z Z ⟨hH 5 (by simp),trivial⟩ rfl) ?_
 refine ⟨by kernel_rfl,?_⟩
 exact ⟨rfl,_,rfl⟩
set_option maxHeartbeats 1600000 in
theorem xp_32 (s0 s1 s2 s3 s4 s5 s6 s7 h:List UInt8) (rd pw:Nat) (hs:∀ n,(nmF [s0,s1,s2,s3,s4,s5,s6,s7] n).length≤3) (hh:h.length≤10) (dst a b imm loc off ix sz pr su to:Int) (acq wk rel ze:Bool) (lb:List UInt8) (hd:dst=a) (hi:in64 imm):Ctr Tryz.prog 152 [.ptr 1 1 0 [],.agg (ienc ⟨3,dst,a,b,imm,loc,off,ix,sz,2,acq,wk,rel,pr,su,to,ze⟩),.s lb] [rowS s0 s1 s2 s3 s4 s5 s6 s7,Zg h rd pw]
 (fun r h'=>r=.tup [.s (Z7 [83,85,66] [nmF [s0,s1,s2,s3,s4,s5,s6,s7] dst,orF [s0,s1,s2,s3,s4,s5,s6,s7] h b imm]),.b true]∧h'=[rowS s0 s1 s2 s3 s4 s5 s6 s7,Zg h rd pw]):=by
 refine Ze Z5 (fn:=Tryz.f152) Z Z Z Z Z Z Zm ?_
 refine Z9 Z Z Z Z Z Z (fun _=>Z2 (ZB sz [66] [87] [76] [81]) (fun ρ=>rfl) _ [3] Z Z ⟨rfl,trivial⟩ rfl) ?_
 iterate 2 refine ⟨fun h=>Z3 h,fun _=>?_⟩
 refine ⟨fun _=>?_,fun h=>?_⟩
 rotate_left
 ·have h:decide (dst=a)=false:=h
  rw [decide_eq_true hd] at h;exact Zv h
 refine WpC.dr Z5 mixed 2 ?_
 refine Zq Z Z Z Z [] 1 Z Z Z2p Z Z Z Z trivial Z Z ?_
 refine ⟨fun _=>by show (0:Int)≤2∧(2:Int) < ((6:Nat):Int);decide,?_⟩
 refine Z0 [0,1] Z Z Z Z Z Z (r:=.s (nmF [s0,s1,s2,s3,s4,s5,s6,s7] dst)) (fun _ H1 hH=>Z2 (Z1Y s0 s1 s2 s3 s4 s5 s6 s7 h rd pw dst) (fun ρ=>rfl) H1 [0,1] Z Z ⟨hH 0 (by simp),hH 1 (by simp),trivial⟩ rfl) ?_
 refine Z0 [0,1] Z Z Z Z Z Z (r:=.s (orF [s0,s1,s2,s3,s4,s5,s6,s7] h b imm)) (fun _ H1 hH=>Z2 (Z3k s0 s1 s2 s3 s4 s5 s6 s7 h rd pw b imm hi hh) (fun ρ=>rfl) H1 [0,1] Z Z ⟨hH 0 (by simp),hH 1 (by simp),trivial⟩ rfl) ?_
 refine Z0 [5] Z Z Z Z Z Z (r:=.s (Z7 [83,85,66] [nmF [s0,s1,s2,s3,s4,s5,s6,s7] dst,orF [s0,s1,s2,s3,s4,s5,s6,s7] h b imm])) (fun _ H1 hH=>Z2 (Zb [83,85,66] [nmF [s0,s1,s2,s3,s4,s5,s6,s7] dst,orF [s0,s1,s2,s3,s4,s5,s6,s7] h b imm] 2 rfl (by decide) (by decide) (by rw [Z1b];have:=hs dst;have:=Z35 (r:=b) hs hi hh;omega) (by decide)) (fun ρ=>rfl) H1 [5] Z Z ⟨hH 5 (by simp),trivial⟩ rfl) ?_
 refine ⟨by kernel_rfl,?_⟩
 exact ⟨rfl,_,rfl⟩
set_option maxHeartbeats 1600000 in
theorem xp_33 (s0 s1 s2 s3 s4 s5 s6 s7 h:List UInt8) (rd pw:Nat) (hs:∀ n,(nmF [s0,s1,s2,s3,s4,s5,s6,s7] n).length≤3) (hh:h.length≤10) (dst a b imm loc off ix sz pr su to:Int) (acq wk rel ze:Bool) (lb:List UInt8) (hd:dst=a) (hi:in64 imm):Ctr Tryz.prog 152 [.ptr 1 1 0 [],.agg (ienc ⟨3,dst,a,b,imm,loc,off,ix,sz,3,acq,wk,rel,pr,su,to,ze⟩),.s lb] [rowS s0 s1 s2 s3 s4 s5 s6 s7,Zg h rd pw]
 (fun r h'=>r=.tup [.s (Z7 [88,79,82] [nmF [s0,s1,s2,s3,s4,s5,s6,s7] dst,orF [s0,s1,s2,s3,s4,s5,s6,s7] h b imm]),.b true]∧h'=[rowS s0 s1 s2 s3 s4 s5 s6 s7,Zg h rd pw]):=by
 refine Ze Z5 (fn:=Tryz.f152) Z Z Z Z Z Z Zm ?_
 refine Z9 Z Z Z Z Z Z (fun _=>Z2 (ZB sz [66] [87] [76] [81]) (fun ρ=>rfl) _ [3] Z Z ⟨rfl,trivial⟩ rfl) ?_
 iterate 2 refine ⟨fun h=>Z3 h,fun _=>?_⟩
 refine ⟨fun _=>?_,fun h=>?_⟩
 rotate_left
 ·have h:decide (dst=a)=false:=h
  rw [decide_eq_true hd] at h;exact Zv h
 refine WpC.dr Z5 mixed 2 ?_
 refine Zq Z Z Z Z [] 1 Z Z Z2p Z Z Z Z trivial Z Z ?_
 refine ⟨fun _=>by show (0:Int)≤3∧(3:Int) < ((6:Nat):Int);decide,?_⟩
 refine Z0 [0,1] Z Z Z Z Z Z (r:=.s (nmF [s0,s1,s2,s3,s4,s5,s6,s7] dst)) (fun _ H1 hH=>Z2 (Z1Y s0 s1 s2 s3 s4 s5 s6 s7 h rd pw dst) (fun ρ=>rfl) H1 [0,1] Z Z ⟨hH 0 (by simp),hH 1 (by simp),trivial⟩ rfl) ?_
 refine Z0 [0,1] Z Z Z Z Z Z (r:=.s (orF [s0,s1,s2,s3,s4,s5,s6,s7] h b imm)) (fun _ H1 hH=>Z2 (Z3k s0 s1 s2 s3 s4 s5 s6 s7 h rd pw b imm hi hh) (fun ρ=>rfl) H1 [0,1] Z Z ⟨hH 0 (by simp),hH 1 (by simp),trivial⟩ rfl) ?_
 refine Z0 [5] Z Z Z Z Z Z (r:=.s (Z7 [88,79,82] [nmF [s0,s1,s2,s3,s4,s5,s6,s7] dst,orF [s0,s1,s2,s3,s4,s5,s6,s7] h b imm])) (fun _ H1 hH=>Z2 (Zb [88,79,82] [nmF [s0,s1,s2,s3,s4,s5,s6,s7] dst,orF [s0,s1,s2,s3,s4,s5,s6,s7] h b imm] 2 rfl (by decide) (by decide) (by rw [Z1b];have:=hs dst;have:=Z35 (r:=b) hs hi hh;omega) (by decide)) (fun ρ=>rfl) H1 [5] Z Z ⟨hH 5 (by simp),trivial⟩ rfl) ?_
 refine ⟨by kernel_rfl,?_⟩
 exact ⟨rfl,_,rfl⟩
set_option maxHeartbeats 1600000 in
theorem xp_34 (s0 s1 s2 s3 s4 s5 s6 s7 h:List UInt8) (rd pw:Nat) (hs:∀ n,(nmF [s0,s1,s2,s3,s4,s5,s6,s7] n).length≤3) (hh:h.length≤10) (dst a b imm loc off ix sz pr su to:Int) (acq wk rel ze:Bool) (lb:List UInt8) (hd:dst=a) (hi:in64 imm):Ctr Tryz.prog 152 [.ptr 1 1 0 [],.agg (ienc ⟨3,dst,a,b,imm,loc,off,ix,sz,4,acq,wk,rel,pr,su,to,ze⟩),.s lb] [rowS s0 s1 s2 s3 s4 s5 s6 s7,Zg h rd pw]
 (fun r h'=>r=.tup [.s (Z7 [65,78,68] [nmF [s0,s1,s2,s3,s4,s5,s6,s7] dst,orF [s0,s1,s2,s3,s4,s5,s6,s7] h b imm]),.b true]∧h'=[rowS s0 s1 s2 s3 s4 s5 s6 s7,Zg h rd pw]):=by
 refine Ze Z5 (fn:=Tryz.f152) Z Z Z Z Z Z Zm ?_
 refine Z9 Z Z Z Z Z Z (fun _=>Z2 (ZB sz [66] [87] [76] [81]) (fun ρ=>rfl) _ [3] Z Z ⟨rfl,trivial⟩ rfl) ?_
 iterate 2 refine ⟨fun h=>Z3 h,fun _=>?_⟩
 refine ⟨fun _=>?_,fun h=>?_⟩
 rotate_left
 ·have h:decide (dst=a)=false:=h
  rw [decide_eq_true hd] at h;exact Zv h
 refine WpC.dr Z5 mixed 2 ?_
 refine Zq Z Z Z Z [] 1 Z Z Z2p Z Z Z Z trivial Z Z ?_
 refine ⟨fun _=>by show (0:Int)≤4∧(4:Int) < ((6:Nat):Int);decide,?_⟩
 refine Z0 [0,1] Z Z Z Z Z Z (r:=.s (nmF [s0,s1,s2,s3,s4,s5,s6,s7] dst)) (fun _ H1 hH=>Z2 (Z1Y s0 s1 s2 s3 s4 s5 s6 s7 h rd pw dst) (fun ρ=>rfl) H1 [0,1] Z Z ⟨hH 0 (by simp),hH 1 (by simp),trivial⟩ rfl) ?_
 refine Z0 [0,1] Z Z Z Z Z Z (r:=.s (orF [s0,s1,s2,s3,s4,s5,s6,s7] h b imm)) (fun _ H1 hH=>Z2 (Z3k s0 s1 s2 s3 s4 s5 s6 s7 h rd pw b imm hi hh) (fun ρ=>rfl) H1 [0,1] Z Z ⟨hH 0 (by simp),hH 1 (by simp),trivial⟩ rfl) ?_
 refine Z0 [5] Z Z Z Z Z Z (r:=.s (Z7 [65,78,68] [nmF [s0,s1,s2,s3,s4,s5,s6,s7] dst,orF [s0,s1,s2,s3,s4,s5,s6,s7] h b imm])) (fun _ H1 hH=>Z2 (Zb [65,78,68] [nmF [s0,s1,s2,s3,s4,s5,s6,s7] dst,orF [s0,s1,s2,s3,s4,s5,s6,s7] h b imm] 2 rfl (by decide) (by decide) (by rw [Z1b];have:=hs dst;have:=Z35 (r:=b) hs hi hh;omega) (by decide)) (fun ρ=>rfl) H1 [5] Z Z ⟨hH 5 (by simp),trivial⟩ rfl) ?_
 refine ⟨by kernel_rfl,?_⟩
 exact ⟨rfl,_,rfl⟩
set_option maxHeartbeats 1600000 in
theorem xp_35 (s0 s1 s2 s3 s4 s5 s6 s7 h:List UInt8) (rd pw:Nat) (hs:∀ n,(nmF [s0,s1,s2,s3,s4,s5,s6,s7] n).length≤3) (hh:h.length≤10) (dst a b imm loc off ix sz pr su to:Int) (acq wk rel ze:Bool) (lb:List UInt8) (hd:dst=a) (hi:in64 imm):Ctr Tryz.prog 152 [.ptr 1 1 0 [],.agg (ienc ⟨3,dst,a,b,imm,loc,off,ix,sz,5,acq,wk,rel,pr,su,to,ze⟩),.s lb] [rowS s0 s1 s2 s3 s4 s5 s6 s7,Zg h rd pw]
 (fun r h'=>r=.tup [.s (Z7 [79,82] [nmF [s0,s1,s2,s3,s4,s5,s6,s7] dst,orF [s0,s1,s2,s3,s4,s5,s6,s7] h b imm]),.b true]∧h'=[rowS s0 s1 s2 s3 s4 s5 s6 s7,Zg h rd pw]):=by
 refine Ze Z5 (fn:=Tryz.f152) Z Z Z Z Z Z Zm ?_
 refine Z9 Z Z Z Z Z Z (fun _=>Z2 (ZB sz [66] [87] [76] [81]) (fun ρ=>rfl) _ [3] Z Z ⟨rfl,trivial⟩ rfl) ?_
 iterate 2 refine ⟨fun h=>Z3 h,fun _=>?_⟩
 refine ⟨fun _=>?_,fun h=>?_⟩
 rotate_left
 ·have h:decide (dst=a)=false:=h
  rw [decide_eq_true hd] at h;exact Zv h
 refine WpC.dr Z5 mixed 2 ?_
 refine Zq Z Z Z Z [] 1 Z Z Z2p Z Z Z Z trivial Z Z ?_
 refine ⟨fun _=>by show (0:Int)≤5∧(5:Int) < ((6:Nat):Int);decide,?_⟩
 refine Z0 [0,1] Z Z Z Z Z Z (r:=.s (nmF [s0,s1,s2,s3,s4,s5,s6,s7] dst)) (fun _ H1 hH=>Z2 (Z1Y s0 s1 s2 s3 s4 s5 s6 s7 h rd pw dst) (fun ρ=>rfl) H1 [0,1] Z Z ⟨hH 0 (by simp),hH 1 (by simp),trivial⟩ rfl) ?_
 refine Z0 [0,1] Z Z Z Z Z Z (r:=.s (orF [s0,s1,s2,s3,s4,s5,s6,s7] h b imm)) (fun _ H1 hH=>Z2 (Z3k s0 s1 s2 s3 s4 s5 s6 s7 h rd pw b imm hi hh) (fun ρ=>rfl) H1 [0,1] Z Z ⟨hH 0 (by simp),hH 1 (by simp),trivial⟩ rfl) ?_
 refine Z0 [5] Z Z Z Z Z Z (r:=.s (Z7 [79,82] [nmF [s0,s1,s2,s3,s4,s5,s6,s7] dst,orF [s0,s1,s2,s3,s4,s5,s6,s7] h b imm])) (fun _ H1 hH=>Z2 (Zb [79,82] [nmF [s0,s1,s2,s3,s4,s5,s6,s7] dst,orF [s0,s1,s2,s3,s4,s5,s6,s7] h b imm] 2 rfl (by decide) (by decide) (by rw [Z1b];have:=hs dst;have:=Z35 (r:=b) hs hi hh;omega) (by decide)) (fun ρ=>rfl) H1 [5] Z Z ⟨hH 5 (by simp),trivial⟩ rfl) ?_
 refine ⟨by kernel_rfl,?_⟩
 exact ⟨rfl,_,rfl⟩
set_option maxHeartbeats 1600000 in
theorem xp_3n (s0 s1 s2 s3 s4 s5 s6 s7 h:List UInt8) (rd pw:Nat) (hs:∀ n,(nmF [s0,s1,s2,s3,s4,s5,s6,s7] n).length≤3) (hh:h.length≤10) (dst a b imm loc off ix sz fn pr su to:Int) (acq wk rel ze:Bool) (lb:List UInt8) (hd:¬ dst=a):Ctr Tryz.prog 152 [.ptr 1 1 0 [],.agg (ienc ⟨3,dst,a,b,imm,loc,off,ix,sz,fn,acq,wk,rel,pr,su,to,ze⟩),.s lb] [rowS s0 s1 s2 s3 s4 s5 s6 s7,Zg h rd pw]
 (fun r h'=>r=.tup [.s [],.b false]∧h'=[rowS s0 s1 s2 s3 s4 s5 s6 s7,Zg h rd pw]):=by
 refine Ze Z5 (fn:=Tryz.f152) Z Z Z Z Z Z Zm ?_
 refine Z9 Z Z Z Z Z Z (fun _=>Z2 (ZB sz [66] [87] [76] [81]) (fun ρ=>rfl) _ [3] Z Z ⟨rfl,trivial⟩ rfl) ?_
 iterate 2 refine ⟨fun h=>Z3 h,fun _=>?_⟩
 refine ⟨fun h=>?_,fun _=>?_⟩
 ·have h:decide (dst=a)=true:=h
  rw [decide_eq_false hd] at h;exact Z3 h
 iterate 7 refine ⟨fun h=>Z3 h,fun _=>?_⟩
 exact ⟨rfl,_,rfl⟩
set_option maxHeartbeats 1600000 in
theorem xp_6d (s0 s1 s2 s3 s4 s5 s6 s7 h:List UInt8) (rd pw:Nat) (hs:∀ n,(nmF [s0,s1,s2,s3,s4,s5,s6,s7] n).length≤3) (hh:h.length≤10) (dst a b imm loc off ix sz fn pr su to:Int) (acq wk rel ze:Bool) (lb:List UInt8) (hd:¬ dst=a):Ctr Tryz.prog 152 [.ptr 1 1 0 [],.agg (ienc ⟨6,dst,a,b,imm,loc,off,ix,sz,fn,acq,wk,rel,pr,su,to,ze⟩),.s lb] [rowS s0 s1 s2 s3 s4 s5 s6 s7,Zg h rd pw]
 (fun r h'=>r=.tup [.s [],.b false]∧h'=[rowS s0 s1 s2 s3 s4 s5 s6 s7,Zg h rd pw]):=by
 refine Ze Z5 (fn:=Tryz.f152) Z Z Z Z Z Z Zm ?_
 refine Z9 Z Z Z Z Z Z (fun _=>Z2 (ZB sz [66] [87] [76] [81]) (fun ρ=>rfl) _ [3] Z Z ⟨rfl,trivial⟩ rfl) ?_
 iterate 5 refine ⟨fun h=>Z3 h,fun _=>?_⟩
 refine ⟨fun h=>?_,fun _=>?_⟩
 ·have h:(((decide (dst=a)&&acq)&&rel)&&decide (fn=6))=true:=h
  rw [decide_eq_false hd] at h;exact Z3 h
 refine ⟨fun h=>?_,fun _=>?_⟩
 ·have h:((decide (dst=a)&&acq)&&rel)=true:=h
  rw [decide_eq_false hd] at h;exact Z3 h
 iterate 3 refine ⟨fun h=>Z3 h,fun _=>?_⟩
 exact ⟨rfl,_,rfl⟩
set_option maxHeartbeats 1600000 in
theorem xp_6a (s0 s1 s2 s3 s4 s5 s6 s7 h:List UInt8) (rd pw:Nat) (hs:∀ n,(nmF [s0,s1,s2,s3,s4,s5,s6,s7] n).length≤3) (hh:h.length≤10) (dst a b imm loc off ix sz fn pr su to:Int) (wk rel ze:Bool) (lb:List UInt8)  : Ctr Tryz.prog 152 [.ptr 1 1 0 [],.agg (ienc ⟨6,dst,a,b,imm,loc,off,ix,sz,fn,false,wk,rel,pr,su,to,ze⟩),.s lb] [rowS s0 s1 s2 s3 s4 s5 s6 s7,Zg h rd pw]
 (fun r h'=>r=.tup [.s [],.b false]∧h'=[rowS s0 s1 s2 s3 s4 s5 s6 s7,Zg h rd pw]):=by
 refine Ze Z5 (fn:=Tryz.f152) Z Z Z Z Z Z Zm ?_
 refine Z9 Z Z Z Z Z Z (fun _=>Z2 (ZB sz [66] [87] [76] [81]) (fun ρ=>rfl) _ [3] Z Z ⟨rfl,trivial⟩ rfl) ?_
 iterate 5 refine ⟨fun h=>Z3 h,fun _=>?_⟩
 refine ⟨fun h=>?_,fun _=>?_⟩
 ·have h:(((decide (dst=a)&&false)&&rel)&&decide (fn=6))=true:=h
  exact Z3 (by rw [← h];simp)
 refine ⟨fun h=>?_,fun _=>?_⟩
 ·have h:((decide (dst=a)&&false)&&rel)=true:=h
  exact Z3 (by rw [← h];simp)
 iterate 3 refine ⟨fun h=>Z3 h,fun _=>?_⟩
 exact ⟨rfl,_,rfl⟩
set_option maxHeartbeats 1600000 in
theorem xp_6r (s0 s1 s2 s3 s4 s5 s6 s7 h:List UInt8) (rd pw:Nat) (hs:∀ n,(nmF [s0,s1,s2,s3,s4,s5,s6,s7] n).length≤3) (hh:h.length≤10) (dst a b imm loc off ix sz fn pr su to:Int) (wk ze:Bool) (lb:List UInt8)  : Ctr Tryz.prog 152 [.ptr 1 1 0 [],.agg (ienc ⟨6,dst,a,b,imm,loc,off,ix,sz,fn,true,wk,false,pr,su,to,ze⟩),.s lb] [rowS s0 s1 s2 s3 s4 s5 s6 s7,Zg h rd pw]
 (fun r h'=>r=.tup [.s [],.b false]∧h'=[rowS s0 s1 s2 s3 s4 s5 s6 s7,Zg h rd pw]):=by
 refine Ze Z5 (fn:=Tryz.f152) Z Z Z Z Z Z Zm ?_
 refine Z9 Z Z Z Z Z Z (fun _=>Z2 (ZB sz [66] [87] [76] [81]) (fun ρ=>rfl) _ [3] Z Z ⟨rfl,trivial⟩ rfl) ?_
 iterate 5 refine ⟨fun h=>Z3 h,fun _=>?_⟩
 refine ⟨fun h=>?_,fun _=>?_⟩
 ·have h:(((decide (dst=a)&&true)&&false)&&decide (fn=6))=true:=h
  exact Z3 (by rw [← h];simp)
 refine ⟨fun h=>?_,fun _=>?_⟩
 ·have h:((decide (dst=a)&&true)&&false)=true:=h
  exact Z3 (by rw [← h];simp)
 iterate 3 refine ⟨fun h=>Z3 h,fun _=>?_⟩
 exact ⟨rfl,_,rfl⟩
set_option maxHeartbeats 1600000 in
theorem xp_6x (s0 s1 s2 s3 s4 s5 s6 s7 h:List UInt8) (rd pw:Nat) (hs:∀ n,(nmF [s0,s1,s2,s3,s4,s5,s6,s7] n).length≤3) (hh:h.length≤10) (dst a b imm loc off ix sz pr su to:Int) (wk ze:Bool) (lb:List UInt8) (hd:dst=a) (ha:accB ⟨6,dst,a,b,imm,loc,off,ix,sz,6,true,wk,true,pr,su,to,ze⟩=true):Ctr Tryz.prog 152 [.ptr 1 1 0 [],.agg (ienc ⟨6,dst,a,b,imm,loc,off,ix,sz,6,true,wk,true,pr,su,to,ze⟩),.s lb] [rowS s0 s1 s2 s3 s4 s5 s6 s7,Zg h rd pw]
 (fun r h'=>r=.tup [.s (Z7 ([88,67,72,71]++xEnd sz) [nmF [s0,s1,s2,s3,s4,s5,s6,s7] a,atF [s0,s1,s2,s3,s4,s5,s6,s7] ⟨6,dst,a,b,imm,loc,off,ix,sz,6,true,wk,true,pr,su,to,ze⟩]),.b true]∧h'=[rowS s0 s1 s2 s3 s4 s5 s6 s7,Zg h rd pw]):=by
 refine Ze Z5 (fn:=Tryz.f152) Z Z Z Z Z Z Zm ?_
 refine Z9 Z Z Z Z Z Z (fun _=>Z2 (ZB sz [66] [87] [76] [81]) (fun ρ=>rfl) _ [3] Z Z ⟨rfl,trivial⟩ rfl) ?_
 iterate 5 refine ⟨fun h=>Z3 h,fun _=>?_⟩
 refine ⟨fun _=>?_,fun h=>?_⟩
 rotate_left
 ·have h:(((decide (dst=a)&&true)&&true)&&decide ((6:Int)=6))=false:=h
  rw [decide_eq_true hd] at h;exact Zv h
 refine WpC.dr Z5 mixed 1 ?_
 have he:=Z2q sz
 refine ⟨fun _=>?_,?_⟩
 ·show 4+(xEnd sz).length≤9223372036854775807
  omega
 refine Z0 [0,1] Z Z Z Z Z Z (r:=.s (nmF [s0,s1,s2,s3,s4,s5,s6,s7] a)) (fun _ H1 hH=>Z2 (Z1Y s0 s1 s2 s3 s4 s5 s6 s7 h rd pw a) (fun ρ=>rfl) H1 [0,1] Z Z ⟨hH 0 (by simp),hH 1 (by simp),trivial⟩ rfl) ?_
 refine Z0 [0,1] Z Z Z Z Z Z (r:=.s (atF [s0,s1,s2,s3,s4,s5,s6,s7] ⟨6,dst,a,b,imm,loc,off,ix,sz,6,true,wk,true,pr,su,to,ze⟩)) (fun _ H1 hH=>Z2 (Z5o s0 s1 s2 s3 s4 s5 s6 s7 h rd pw hs ⟨6,dst,a,b,imm,loc,off,ix,sz,6,true,wk,true,pr,su,to,ze⟩ ha) (fun ρ=>rfl) H1 [0,1] Z Z ⟨hH 0 (by simp),hH 1 (by simp),trivial⟩ rfl) ?_
 refine Z0 [4] Z Z Z Z Z Z (r:=.s (Z7 ([88,67,72,71]++xEnd sz) [nmF [s0,s1,s2,s3,s4,s5,s6,s7] a,atF [s0,s1,s2,s3,s4,s5,s6,s7] ⟨6,dst,a,b,imm,loc,off,ix,sz,6,true,wk,true,pr,su,to,ze⟩])) (fun _ H1 hH=>Z2 (Zb ([88,67,72,71]++xEnd sz) [nmF [s0,s1,s2,s3,s4,s5,s6,s7] a,atF [s0,s1,s2,s3,s4,s5,s6,s7] ⟨6,dst,a,b,imm,loc,off,ix,sz,6,true,wk,true,pr,su,to,ze⟩] 2 rfl (by decide) (by decide) (by rw [Z1b];have:=hs a;have:=Z6V hs ha;omega) (by simp;omega)) (fun ρ=>rfl) H1 [4] Z Z ⟨hH 4 (by simp),trivial⟩ rfl) ?_
 refine ⟨by kernel_rfl,?_⟩
 exact ⟨rfl,_,rfl⟩
set_option maxHeartbeats 1600000 in
theorem xp_6y (s0 s1 s2 s3 s4 s5 s6 s7 h:List UInt8) (rd pw:Nat) (hs:∀ n,(nmF [s0,s1,s2,s3,s4,s5,s6,s7] n).length≤3) (hh:h.length≤10) (dst a b imm loc off ix sz pr su to:Int) (wk ze:Bool) (lb:List UInt8) (hd:dst=a) (ha:accB ⟨6,dst,a,b,imm,loc,off,ix,sz,1,true,wk,true,pr,su,to,ze⟩=true):Ctr Tryz.prog 152 [.ptr 1 1 0 [],.agg (ienc ⟨6,dst,a,b,imm,loc,off,ix,sz,1,true,wk,true,pr,su,to,ze⟩),.s lb] [rowS s0 s1 s2 s3 s4 s5 s6 s7,Zg h rd pw]
 (fun r h'=>r=.tup [.s (Z7 ([88,65,68,68]++xEnd sz) [atF [s0,s1,s2,s3,s4,s5,s6,s7] ⟨6,dst,a,b,imm,loc,off,ix,sz,1,true,wk,true,pr,su,to,ze⟩,nmF [s0,s1,s2,s3,s4,s5,s6,s7] a]),.b true]∧h'=[rowS s0 s1 s2 s3 s4 s5 s6 s7,Zg h rd pw]):=by
 refine Ze Z5 (fn:=Tryz.f152) Z Z Z Z Z Z Zm ?_
 refine Z9 Z Z Z Z Z Z (fun _=>Z2 (ZB sz [66] [87] [76] [81]) (fun ρ=>rfl) _ [3] Z Z ⟨rfl,trivial⟩ rfl) ?_
 iterate 5 refine ⟨fun h=>Z3 h,fun _=>?_⟩
 refine ⟨fun h=>?_,fun _=>?_⟩
 ·have h:(((decide (dst=a)&&true)&&true)&&decide ((1:Int)=6))=true:=h
  rw [decide_eq_true hd] at h;exact Z3 h
 refine ⟨fun _=>?_,fun h=>?_⟩
 rotate_left
 ·have h:((decide (dst=a)&&true)&&true)=false:=h
  rw [decide_eq_true hd] at h;exact Zv h
 refine WpC.dr Z5 mixed 1 ?_
 have he:=Z2q sz
 refine ⟨fun _=>?_,?_⟩
 ·show 4+(xEnd sz).length≤9223372036854775807
  omega
 refine Z0 [0,1] Z Z Z Z Z Z (r:=.s (atF [s0,s1,s2,s3,s4,s5,s6,s7] ⟨6,dst,a,b,imm,loc,off,ix,sz,1,true,wk,true,pr,su,to,ze⟩)) (fun _ H1 hH=>Z2 (Z5o s0 s1 s2 s3 s4 s5 s6 s7 h rd pw hs ⟨6,dst,a,b,imm,loc,off,ix,sz,1,true,wk,true,pr,su,to,ze⟩ ha) (fun ρ=>rfl) H1 [0,1] Z Z ⟨hH 0 (by simp),hH 1 (by simp),trivial⟩ rfl) ?_
 refine Z0 [0,1] Z Z Z Z Z Z (r:=.s (nmF [s0,s1,s2,s3,s4,s5,s6,s7] a)) (fun _ H1 hH=>Z2 (Z1Y s0 s1 s2 s3 s4 s5 s6 s7 h rd pw a) (fun ρ=>rfl) H1 [0,1] Z Z ⟨hH 0 (by simp),hH 1 (by simp),trivial⟩ rfl) ?_
 refine Z0 [4] Z Z Z Z Z Z (r:=.s (Z7 ([88,65,68,68]++xEnd sz) [atF [s0,s1,s2,s3,s4,s5,s6,s7] ⟨6,dst,a,b,imm,loc,off,ix,sz,1,true,wk,true,pr,su,to,ze⟩,nmF [s0,s1,s2,s3,s4,s5,s6,s7] a])) (fun _ H1 hH=>Z2 (Zb ([88,65,68,68]++xEnd sz) [atF [s0,s1,s2,s3,s4,s5,s6,s7] ⟨6,dst,a,b,imm,loc,off,ix,sz,1,true,wk,true,pr,su,to,ze⟩,nmF [s0,s1,s2,s3,s4,s5,s6,s7] a] 2 rfl (by decide) (by decide) (by rw [Z1b];have:=Z6V hs ha;have:=hs a;omega) (by simp;omega)) (fun ρ=>rfl) H1 [4] Z Z ⟨hH 4 (by simp),trivial⟩ rfl) ?_
 refine ⟨by kernel_rfl,?_⟩
 exact ⟨rfl,_,rfl⟩
set_option maxHeartbeats 1600000 in
theorem xp_711 (s0 s1 s2 s3 s4 s5 s6 s7 h:List UInt8) (rd pw:Nat) (hs:∀ n,(nmF [s0,s1,s2,s3,s4,s5,s6,s7] n).length≤3) (hh:h.length≤10) (dst a b imm loc off ix sz fn to:Int) (acq wk rel ze:Bool) (lb:List UInt8)  : Ctr Tryz.prog 152 [.ptr 1 1 0 [],.agg (ienc ⟨7,dst,a,b,imm,loc,off,ix,sz,fn,acq,wk,rel,1,1,to,ze⟩),.s lb] [rowS s0 s1 s2 s3 s4 s5 s6 s7,Zg h rd pw]
 (fun r h'=>r=.tup [.s [],.b false]∧h'=[rowS s0 s1 s2 s3 s4 s5 s6 s7,Zg h rd pw]):=by
 refine Ze Z5 (fn:=Tryz.f152) Z Z Z Z Z Z Zm ?_
 refine Z9 Z Z Z Z Z Z (fun _=>Z2 (ZB sz [66] [87] [76] [81]) (fun ρ=>rfl) _ [3] Z Z ⟨rfl,trivial⟩ rfl) ?_
 iterate 7 refine ⟨fun h=>Z3 h,fun _=>?_⟩
 refine ⟨fun h=>?_,fun _=>?_⟩
 ·have h:(decide ((7:Int)=7)&&decide (bits BinOp.and IntKind.i64 1 1=3))=true:=h
  exact absurd h (by decide +kernel)
 iterate 2 refine ⟨fun h=>Z3 h,fun _=>?_⟩
 exact ⟨rfl,_,rfl⟩
set_option maxHeartbeats 1600000 in
theorem xp_712 (s0 s1 s2 s3 s4 s5 s6 s7 h:List UInt8) (rd pw:Nat) (hs:∀ n,(nmF [s0,s1,s2,s3,s4,s5,s6,s7] n).length≤3) (hh:h.length≤10) (dst a b imm loc off ix sz fn to:Int) (acq wk rel ze:Bool) (lb:List UInt8)  : Ctr Tryz.prog 152 [.ptr 1 1 0 [],.agg (ienc ⟨7,dst,a,b,imm,loc,off,ix,sz,fn,acq,wk,rel,1,2,to,ze⟩),.s lb] [rowS s0 s1 s2 s3 s4 s5 s6 s7,Zg h rd pw]
 (fun r h'=>r=.tup [.s [],.b false]∧h'=[rowS s0 s1 s2 s3 s4 s5 s6 s7,Zg h rd pw]):=by
 refine Ze Z5 (fn:=Tryz.f152) Z Z Z Z Z Z Zm ?_
 refine Z9 Z Z Z Z Z Z (fun _=>Z2 (ZB sz [66] [87] [76] [81]) (fun ρ=>rfl) _ [3] Z Z ⟨rfl,trivial⟩ rfl) ?_
 iterate 7 refine ⟨fun h=>Z3 h,fun _=>?_⟩
 refine ⟨fun h=>?_,fun _=>?_⟩
 ·have h:(decide ((7:Int)=7)&&decide (bits BinOp.and IntKind.i64 1 2=3))=true:=h
  exact absurd h (by decide +kernel)
 iterate 2 refine ⟨fun h=>Z3 h,fun _=>?_⟩
 exact ⟨rfl,_,rfl⟩
set_option maxHeartbeats 1600000 in
theorem xp_713 (s0 s1 s2 s3 s4 s5 s6 s7 h:List UInt8) (rd pw:Nat) (hs:∀ n,(nmF [s0,s1,s2,s3,s4,s5,s6,s7] n).length≤3) (hh:h.length≤10) (dst a b imm loc off ix sz fn to:Int) (acq wk rel ze:Bool) (lb:List UInt8)  : Ctr Tryz.prog 152 [.ptr 1 1 0 [],.agg (ienc ⟨7,dst,a,b,imm,loc,off,ix,sz,fn,acq,wk,rel,1,3,to,ze⟩),.s lb] [rowS s0 s1 s2 s3 s4 s5 s6 s7,Zg h rd pw]
 (fun r h'=>r=.tup [.s [],.b false]∧h'=[rowS s0 s1 s2 s3 s4 s5 s6 s7,Zg h rd pw]):=by
 refine Ze Z5 (fn:=Tryz.f152) Z Z Z Z Z Z Zm ?_
 refine Z9 Z Z Z Z Z Z (fun _=>Z2 (ZB sz [66] [87] [76] [81]) (fun ρ=>rfl) _ [3] Z Z ⟨rfl,trivial⟩ rfl) ?_
 iterate 7 refine ⟨fun h=>Z3 h,fun _=>?_⟩
 refine ⟨fun h=>?_,fun _=>?_⟩
 ·have h:(decide ((7:Int)=7)&&decide (bits BinOp.and IntKind.i64 1 3=3))=true:=h
  exact absurd h (by decide +kernel)
 iterate 2 refine ⟨fun h=>Z3 h,fun _=>?_⟩
 exact ⟨rfl,_,rfl⟩
set_option maxHeartbeats 1600000 in
theorem xp_721 (s0 s1 s2 s3 s4 s5 s6 s7 h:List UInt8) (rd pw:Nat) (hs:∀ n,(nmF [s0,s1,s2,s3,s4,s5,s6,s7] n).length≤3) (hh:h.length≤10) (dst a b imm loc off ix sz fn to:Int) (acq wk rel ze:Bool) (lb:List UInt8)  : Ctr Tryz.prog 152 [.ptr 1 1 0 [],.agg (ienc ⟨7,dst,a,b,imm,loc,off,ix,sz,fn,acq,wk,rel,2,1,to,ze⟩),.s lb] [rowS s0 s1 s2 s3 s4 s5 s6 s7,Zg h rd pw]
 (fun r h'=>r=.tup [.s [],.b false]∧h'=[rowS s0 s1 s2 s3 s4 s5 s6 s7,Zg h rd pw]):=by
 refine Ze Z5 (fn:=Tryz.f152) Z Z Z Z Z Z Zm ?_
 refine Z9 Z Z Z Z Z Z (fun _=>Z2 (ZB sz [66] [87] [76] [81]) (fun ρ=>rfl) _ [3] Z Z ⟨rfl,trivial⟩ rfl) ?_
 iterate 7 refine ⟨fun h=>Z3 h,fun _=>?_⟩
 refine ⟨fun h=>?_,fun _=>?_⟩
 ·have h:(decide ((7:Int)=7)&&decide (bits BinOp.and IntKind.i64 2 1=3))=true:=h
  exact absurd h (by decide +kernel)
 iterate 2 refine ⟨fun h=>Z3 h,fun _=>?_⟩
 exact ⟨rfl,_,rfl⟩
set_option maxHeartbeats 1600000 in
theorem xp_722 (s0 s1 s2 s3 s4 s5 s6 s7 h:List UInt8) (rd pw:Nat) (hs:∀ n,(nmF [s0,s1,s2,s3,s4,s5,s6,s7] n).length≤3) (hh:h.length≤10) (dst a b imm loc off ix sz fn to:Int) (acq wk rel ze:Bool) (lb:List UInt8)  : Ctr Tryz.prog 152 [.ptr 1 1 0 [],.agg (ienc ⟨7,dst,a,b,imm,loc,off,ix,sz,fn,acq,wk,rel,2,2,to,ze⟩),.s lb] [rowS s0 s1 s2 s3 s4 s5 s6 s7,Zg h rd pw]
 (fun r h'=>r=.tup [.s [],.b false]∧h'=[rowS s0 s1 s2 s3 s4 s5 s6 s7,Zg h rd pw]):=by
 refine Ze Z5 (fn:=Tryz.f152) Z Z Z Z Z Z Zm ?_
 refine Z9 Z Z Z Z Z Z (fun _=>Z2 (ZB sz [66] [87] [76] [81]) (fun ρ=>rfl) _ [3] Z Z ⟨rfl,trivial⟩ rfl) ?_
 iterate 7 refine ⟨fun h=>Z3 h,fun _=>?_⟩
 refine ⟨fun h=>?_,fun _=>?_⟩
 ·have h:(decide ((7:Int)=7)&&decide (bits BinOp.and IntKind.i64 2 2=3))=true:=h
  exact absurd h (by decide +kernel)
 iterate 2 refine ⟨fun h=>Z3 h,fun _=>?_⟩
 exact ⟨rfl,_,rfl⟩
set_option maxHeartbeats 1600000 in
theorem xp_723 (s0 s1 s2 s3 s4 s5 s6 s7 h:List UInt8) (rd pw:Nat) (hs:∀ n,(nmF [s0,s1,s2,s3,s4,s5,s6,s7] n).length≤3) (hh:h.length≤10) (dst a b imm loc off ix sz fn to:Int) (acq wk rel ze:Bool) (lb:List UInt8)  : Ctr Tryz.prog 152 [.ptr 1 1 0 [],.agg (ienc ⟨7,dst,a,b,imm,loc,off,ix,sz,fn,acq,wk,rel,2,3,to,ze⟩),.s lb] [rowS s0 s1 s2 s3 s4 s5 s6 s7,Zg h rd pw]
 (fun r h'=>r=.tup [.s [],.b false]∧h'=[rowS s0 s1 s2 s3 s4 s5 s6 s7,Zg h rd pw]):=by
 refine Ze Z5 (fn:=Tryz.f152) Z Z Z Z Z Z Zm ?_
 refine Z9 Z Z Z Z Z Z (fun _=>Z2 (ZB sz [66] [87] [76] [81]) (fun ρ=>rfl) _ [3] Z Z ⟨rfl,trivial⟩ rfl) ?_
 iterate 7 refine ⟨fun h=>Z3 h,fun _=>?_⟩
 refine ⟨fun h=>?_,fun _=>?_⟩
 ·have h:(decide ((7:Int)=7)&&decide (bits BinOp.and IntKind.i64 2 3=3))=true:=h
  exact absurd h (by decide +kernel)
 iterate 2 refine ⟨fun h=>Z3 h,fun _=>?_⟩
 exact ⟨rfl,_,rfl⟩
set_option maxHeartbeats 1600000 in
theorem xp_731 (s0 s1 s2 s3 s4 s5 s6 s7 h:List UInt8) (rd pw:Nat) (hs:∀ n,(nmF [s0,s1,s2,s3,s4,s5,s6,s7] n).length≤3) (hh:h.length≤10) (dst a b imm loc off ix sz fn to:Int) (acq wk rel ze:Bool) (lb:List UInt8)  : Ctr Tryz.prog 152 [.ptr 1 1 0 [],.agg (ienc ⟨7,dst,a,b,imm,loc,off,ix,sz,fn,acq,wk,rel,3,1,to,ze⟩),.s lb] [rowS s0 s1 s2 s3 s4 s5 s6 s7,Zg h rd pw]
 (fun r h'=>r=.tup [.s [],.b false]∧h'=[rowS s0 s1 s2 s3 s4 s5 s6 s7,Zg h rd pw]):=by
 refine Ze Z5 (fn:=Tryz.f152) Z Z Z Z Z Z Zm ?_
 refine Z9 Z Z Z Z Z Z (fun _=>Z2 (ZB sz [66] [87] [76] [81]) (fun ρ=>rfl) _ [3] Z Z ⟨rfl,trivial⟩ rfl) ?_
 iterate 7 refine ⟨fun h=>Z3 h,fun _=>?_⟩
 refine ⟨fun h=>?_,fun _=>?_⟩
 ·have h:(decide ((7:Int)=7)&&decide (bits BinOp.and IntKind.i64 3 1=3))=true:=h
  exact absurd h (by decide +kernel)
 iterate 2 refine ⟨fun h=>Z3 h,fun _=>?_⟩
 exact ⟨rfl,_,rfl⟩
set_option maxHeartbeats 1600000 in
theorem xp_732 (s0 s1 s2 s3 s4 s5 s6 s7 h:List UInt8) (rd pw:Nat) (hs:∀ n,(nmF [s0,s1,s2,s3,s4,s5,s6,s7] n).length≤3) (hh:h.length≤10) (dst a b imm loc off ix sz fn to:Int) (acq wk rel ze:Bool) (lb:List UInt8)  : Ctr Tryz.prog 152 [.ptr 1 1 0 [],.agg (ienc ⟨7,dst,a,b,imm,loc,off,ix,sz,fn,acq,wk,rel,3,2,to,ze⟩),.s lb] [rowS s0 s1 s2 s3 s4 s5 s6 s7,Zg h rd pw]
 (fun r h'=>r=.tup [.s [],.b false]∧h'=[rowS s0 s1 s2 s3 s4 s5 s6 s7,Zg h rd pw]):=by
 refine Ze Z5 (fn:=Tryz.f152) Z Z Z Z Z Z Zm ?_
 refine Z9 Z Z Z Z Z Z (fun _=>Z2 (ZB sz [66] [87] [76] [81]) (fun ρ=>rfl) _ [3] Z Z ⟨rfl,trivial⟩ rfl) ?_
 iterate 7 refine ⟨fun h=>Z3 h,fun _=>?_⟩
 refine ⟨fun h=>?_,fun _=>?_⟩
 ·have h:(decide ((7:Int)=7)&&decide (bits BinOp.and IntKind.i64 3 2=3))=true:=h
  exact absurd h (by decide +kernel)
 iterate 2 refine ⟨fun h=>Z3 h,fun _=>?_⟩
 exact ⟨rfl,_,rfl⟩
set_option maxHeartbeats 1600000 in
theorem xp_733 (s0 s1 s2 s3 s4 s5 s6 s7 h:List UInt8) (rd pw:Nat) (hs:∀ n,(nmF [s0,s1,s2,s3,s4,s5,s6,s7] n).length≤3) (hh:h.length≤10) (dst a b imm loc off ix sz fn to:Int) (acq wk rel ze:Bool) (lb:List UInt8)  : Ctr Tryz.prog 152 [.ptr 1 1 0 [],.agg (ienc ⟨7,dst,a,b,imm,loc,off,ix,sz,fn,acq,wk,rel,3,3,to,ze⟩),.s lb] [rowS s0 s1 s2 s3 s4 s5 s6 s7,Zg h rd pw]
 (fun r h'=>r=.tup [.s [77,70,69,78,67,69],.b true]∧h'=[rowS s0 s1 s2 s3 s4 s5 s6 s7,Zg h rd pw]):=by
 refine Ze Z5 (fn:=Tryz.f152) Z Z Z Z Z Z Zm ?_
 refine Z9 Z Z Z Z Z Z (fun _=>Z2 (ZB sz [66] [87] [76] [81]) (fun ρ=>rfl) _ [3] Z Z ⟨rfl,trivial⟩ rfl) ?_
 iterate 7 refine ⟨fun h=>Z3 h,fun _=>?_⟩
 refine ⟨fun _=>?_,fun h=>?_⟩
 rotate_left
 ·have h:(decide ((7:Int)=7)&&decide (bits BinOp.and IntKind.i64 3 3=3))=false:=h
  exact absurd h (by decide +kernel)
 exact ⟨rfl,_,rfl⟩
set_option maxHeartbeats 1600000 in
theorem xp_8 (s0 s1 s2 s3 s4 s5 s6 s7 h:List UInt8) (rd pw:Nat) (hs:∀ n,(nmF [s0,s1,s2,s3,s4,s5,s6,s7] n).length≤3) (hh:h.length≤10) (dst a b imm loc off ix sz fn pr su to:Int) (acq wk rel ze:Bool) (lb:List UInt8)  : Ctr Tryz.prog 152 [.ptr 1 1 0 [],.agg (ienc ⟨8,dst,a,b,imm,loc,off,ix,sz,fn,acq,wk,rel,pr,su,to,ze⟩),.s lb] [rowS s0 s1 s2 s3 s4 s5 s6 s7,Zg h rd pw]
 (fun r h'=>r=.tup [.s [],.b false]∧h'=[rowS s0 s1 s2 s3 s4 s5 s6 s7,Zg h rd pw]):=by
 refine Ze Z5 (fn:=Tryz.f152) Z Z Z Z Z Z Zm ?_
 refine Z9 Z Z Z Z Z Z (fun _=>Z2 (ZB sz [66] [87] [76] [81]) (fun ρ=>rfl) _ [3] Z Z ⟨rfl,trivial⟩ rfl) ?_
 iterate 10 refine ⟨fun h=>Z3 h,fun _=>?_⟩
 exact ⟨rfl,_,rfl⟩
set_option maxHeartbeats 1600000 in
theorem xp_9z (s0 s1 s2 s3 s4 s5 s6 s7 h:List UInt8) (rd pw:Nat) (hs:∀ n,(nmF [s0,s1,s2,s3,s4,s5,s6,s7] n).length≤3) (hh:h.length≤10) (dst a b imm loc off ix sz fn pr su to:Int) (acq wk rel:Bool) (lb:List UInt8) (hl:lb.length≤90000):Ctr Tryz.prog 152 [.ptr 1 1 0 [],.agg (ienc ⟨9,dst,a,b,imm,loc,off,ix,sz,fn,acq,wk,rel,pr,su,to,true⟩),.s lb] [rowS s0 s1 s2 s3 s4 s5 s6 s7,Zg h rd pw]
 (fun r h'=>r=.tup [.s (Z7 [74,90] [nmF [s0,s1,s2,s3,s4,s5,s6,s7] a,lb]),.b true]∧h'=[rowS s0 s1 s2 s3 s4 s5 s6 s7,Zg h rd pw]):=by
 refine Ze Z5 (fn:=Tryz.f152) Z Z Z Z Z Z Zm ?_
 refine Z9 Z Z Z Z Z Z (fun _=>Z2 (ZB sz [66] [87] [76] [81]) (fun ρ=>rfl) _ [3] Z Z ⟨rfl,trivial⟩ rfl) ?_
 iterate 8 refine ⟨fun h=>Z3 h,fun _=>?_⟩
 refine ⟨fun _=>?_,fun h=>Zv h⟩
 refine Z9 Z Z Z Z Z Z (fun _=>Z2 (Z1Y s0 s1 s2 s3 s4 s5 s6 s7 h rd pw a) (fun ρ=>rfl) _ [0,1] Z Z ⟨rfl,rfl,trivial⟩ rfl) ?_
 refine Z9 Z Z Z Z Z Z (fun _=>Z2 (Zb [74,90] [nmF [s0,s1,s2,s3,s4,s5,s6,s7] a,lb] 2 rfl (by decide) (by decide) (by rw [Z1b];have:=hs a;omega) (by decide)) (fun ρ=>rfl) _ [4] Z Z ⟨rfl,trivial⟩ rfl) ?_
 exact ⟨rfl,_,rfl⟩
set_option maxHeartbeats 1600000 in
theorem xp_9n (s0 s1 s2 s3 s4 s5 s6 s7 h:List UInt8) (rd pw:Nat) (hs:∀ n,(nmF [s0,s1,s2,s3,s4,s5,s6,s7] n).length≤3) (hh:h.length≤10) (dst a b imm loc off ix sz fn pr su to:Int) (acq wk rel:Bool) (lb:List UInt8) (hl:lb.length≤90000):Ctr Tryz.prog 152 [.ptr 1 1 0 [],.agg (ienc ⟨9,dst,a,b,imm,loc,off,ix,sz,fn,acq,wk,rel,pr,su,to,false⟩),.s lb] [rowS s0 s1 s2 s3 s4 s5 s6 s7,Zg h rd pw]
 (fun r h'=>r=.tup [.s (Z7 [74,78,90] [nmF [s0,s1,s2,s3,s4,s5,s6,s7] a,lb]),.b true]∧h'=[rowS s0 s1 s2 s3 s4 s5 s6 s7,Zg h rd pw]):=by
 refine Ze Z5 (fn:=Tryz.f152) Z Z Z Z Z Z Zm ?_
 refine Z9 Z Z Z Z Z Z (fun _=>Z2 (ZB sz [66] [87] [76] [81]) (fun ρ=>rfl) _ [3] Z Z ⟨rfl,trivial⟩ rfl) ?_
 iterate 9 refine ⟨fun h=>Z3 h,fun _=>?_⟩
 refine ⟨fun _=>?_,fun h=>Zv h⟩
 refine Z9 Z Z Z Z Z Z (fun _=>Z2 (Z1Y s0 s1 s2 s3 s4 s5 s6 s7 h rd pw a) (fun ρ=>rfl) _ [0,1] Z Z ⟨rfl,rfl,trivial⟩ rfl) ?_
 refine Z9 Z Z Z Z Z Z (fun _=>Z2 (Zb [74,78,90] [nmF [s0,s1,s2,s3,s4,s5,s6,s7] a,lb] 2 rfl (by decide) (by decide) (by rw [Z1b];have:=hs a;omega) (by decide)) (fun ρ=>rfl) _ [4] Z Z ⟨rfl,trivial⟩ rfl) ?_
 exact ⟨rfl,_,rfl⟩
end SX
end Go.Proofs.YtdddpbmcoimgdaaGreatDoor
