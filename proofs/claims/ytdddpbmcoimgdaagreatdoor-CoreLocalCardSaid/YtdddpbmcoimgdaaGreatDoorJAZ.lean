/- A part of SX: symbolic and concrete runs of the program, with contracts of functions; lemmas without further conditions. Shortened by a tool (mini.py). -/
import Derived.Test.YtdddpbmcoimgdaaGreatDoorJAT
import Derived.Test.YtdddpbmcoimgdaaGreatDoorJAW
import Derived.Test.YtdddpbmcoimgdaaGreatDoorJAA
set_option linter.unusedVariables false
set_option linter.unusedSimpArgs false
set_option linter.unusedSectionVars false
set_option maxRecDepth 100000
namespace Go.Proofs.YtdddpbmcoimgdaaGreatDoor
namespace SX
open Go Go.Proofs
theorem Z1Y (s0 s1 s2 s3 s4 s5 s6 s7 h:List UInt8) (rd pr:Nat) (n:Int):Ctr Tryz.prog 133 [.ptr 1 1 0 [],.i .i64 n] [rowS s0 s1 s2 s3 s4 s5 s6 s7,Zg h rd pr] (fun r h'=>r=.s (nmF [s0,s1,s2,s3,s4,s5,s6,s7] n)∧h'=[rowS s0 s1 s2 s3 s4 s5 s6 s7,Zg h rd pr]):=Z1h s0 s1 s2 s3 s4 s5 s6 s7 h rd pr n
theorem Z1b {x y:List UInt8}:(Lib.join [x,y] [44]).length=x.length+1+y.length:=by
 simp [Lib.join,List.intercalate];omega
theorem Z35 {ns:List (List UInt8)} {h:List UInt8} {r n:Int} (hs:∀ n,(nmF ns n).length≤3) (hn:in64 n) (hh:h.length≤10):(orF ns h r n).length≤40:=by
 have:=Z7q hn
 unfold orF
 split
 ·have:=hs r;omega
 ·simp;omega
def xEnd (z:Int):List UInt8:=endF z [66] [87] [76] [81]
theorem Z2q (z:Int):(xEnd z).length≤1:=by
 unfold xEnd endF
 split
 ·decide
 ·split
  ·decide
  ·split
   ·decide
   ·split <;> decide
theorem Z6V {ns:List (List UInt8)} {i:In} (hs:∀ n,(nmF ns n).length≤3) (ha:accB i=true):(atF ns i).length≤40:=by
 obtain ⟨h1,h2,h3,h4⟩:=Z6U ha
 have hi:=Z45 h2.1 h2.2
 have hn:=hs i.ix
 unfold atF offF ixF locF
 simp only [List.length_append,List.length_cons,List.length_nil]
 split <;> split <;> simp <;> omega
set_option maxHeartbeats 1600000 in
theorem xp_1 (s0 s1 s2 s3 s4 s5 s6 s7 h:List UInt8) (rd pw:Nat) (hs:∀ n,(nmF [s0,s1,s2,s3,s4,s5,s6,s7] n).length≤3) (hh:h.length≤10) (dst a b imm loc off ix sz fn pr su to:Int) (acq wk rel ze:Bool) (lb:List UInt8) (hi:in64 imm):Ctr Tryz.prog 152 [.ptr 1 1 0 [],.agg (ienc ⟨1,dst,a,b,imm,loc,off,ix,sz,fn,acq,wk,rel,pr,su,to,ze⟩),.s lb] [rowS s0 s1 s2 s3 s4 s5 s6 s7,Zg h rd pw]
 (fun r h'=>r=.tup [.s (Z7 [77,79,86] [nmF [s0,s1,s2,s3,s4,s5,s6,s7] dst,orF [s0,s1,s2,s3,s4,s5,s6,s7] h (-1) imm]),.b true]∧h'=[rowS s0 s1 s2 s3 s4 s5 s6 s7,Zg h rd pw]):=by
 refine Ze Z5 (fn:=Tryz.f152) Z Z Z Z Z Z Zm ?_
 refine Z9 Z Z Z Z Z Z (fun _=>Z2 (ZB sz [66] [87] [76] [81]) (fun ρ=>rfl) _ [3] Z Z ⟨rfl,trivial⟩ rfl) ?_
 refine ⟨fun _=>?_,fun h=>Zv h⟩
 refine WpC.dr Z5 mixed 1 ?_
 refine Z0 [0,1] Z Z Z Z Z Z (r:=.s (nmF [s0,s1,s2,s3,s4,s5,s6,s7] dst)) (fun _ H1 hH=>Z2 (Z1Y s0 s1 s2 s3 s4 s5 s6 s7 h rd pw dst) (fun ρ=>rfl) H1 [0,1] Z Z ⟨hH 0 (by simp),hH 1 (by simp),trivial⟩ rfl) ?_
 refine Z0 [0,1] Z Z Z Z Z Z (r:=.s (orF [s0,s1,s2,s3,s4,s5,s6,s7] h (-1) imm)) (fun _ H1 hH=>Z2 (Z3k s0 s1 s2 s3 s4 s5 s6 s7 h rd pw (-1) imm hi hh) (fun ρ=>rfl) H1 [0,1] Z Z ⟨hH 0 (by simp),hH 1 (by simp),trivial⟩ rfl) ?_
 refine Z0 [4] Z Z Z Z Z Z (r:=.s (Z7 [77,79,86] [nmF [s0,s1,s2,s3,s4,s5,s6,s7] dst,orF [s0,s1,s2,s3,s4,s5,s6,s7] h (-1) imm])) (fun _ H1 hH=>Z2 (Zb [77,79,86] [nmF [s0,s1,s2,s3,s4,s5,s6,s7] dst,orF [s0,s1,s2,s3,s4,s5,s6,s7] h (-1) imm] 2 rfl (by decide) (by decide) (by rw [Z1b];have:=hs dst;have:=Z35 (r:=-1) hs hi hh;omega) (by decide)) (fun ρ=>rfl) H1 [4] Z Z ⟨hH 4 (by simp),trivial⟩ rfl) ?_
 refine ⟨by kernel_rfl,?_⟩
 exact ⟨rfl,_,rfl⟩
set_option maxHeartbeats 1600000 in
theorem xp_2 (s0 s1 s2 s3 s4 s5 s6 s7 h:List UInt8) (rd pw:Nat) (hs:∀ n,(nmF [s0,s1,s2,s3,s4,s5,s6,s7] n).length≤3) (hh:h.length≤10) (dst a b imm loc off ix sz fn pr su to:Int) (acq wk rel ze:Bool) (lb:List UInt8)  : Ctr Tryz.prog 152 [.ptr 1 1 0 [],.agg (ienc ⟨2,dst,a,b,imm,loc,off,ix,sz,fn,acq,wk,rel,pr,su,to,ze⟩),.s lb] [rowS s0 s1 s2 s3 s4 s5 s6 s7,Zg h rd pw]
 (fun r h'=>r=.tup [.s (Z7 [77,79,86] [nmF [s0,s1,s2,s3,s4,s5,s6,s7] dst,nmF [s0,s1,s2,s3,s4,s5,s6,s7] a]),.b true]∧h'=[rowS s0 s1 s2 s3 s4 s5 s6 s7,Zg h rd pw]):=by
 refine Ze Z5 (fn:=Tryz.f152) Z Z Z Z Z Z Zm ?_
 refine Z9 Z Z Z Z Z Z (fun _=>Z2 (ZB sz [66] [87] [76] [81]) (fun ρ=>rfl) _ [3] Z Z ⟨rfl,trivial⟩ rfl) ?_
 refine ⟨fun h=>Z3 h,fun _=>?_⟩
 refine ⟨fun _=>?_,fun h=>Zv h⟩
 refine WpC.dr Z5 mixed 1 ?_
 refine Z0 [0,1] Z Z Z Z Z Z (r:=.s (nmF [s0,s1,s2,s3,s4,s5,s6,s7] dst)) (fun _ H1 hH=>Z2 (Z1Y s0 s1 s2 s3 s4 s5 s6 s7 h rd pw dst) (fun ρ=>rfl) H1 [0,1] Z Z ⟨hH 0 (by simp),hH 1 (by simp),trivial⟩ rfl) ?_
 refine Z0 [0,1] Z Z Z Z Z Z (r:=.s (nmF [s0,s1,s2,s3,s4,s5,s6,s7] a)) (fun _ H1 hH=>Z2 (Z1Y s0 s1 s2 s3 s4 s5 s6 s7 h rd pw a) (fun ρ=>rfl) H1 [0,1] Z Z ⟨hH 0 (by simp),hH 1 (by simp),trivial⟩ rfl) ?_
 refine Z0 [4] Z Z Z Z Z Z (r:=.s (Z7 [77,79,86] [nmF [s0,s1,s2,s3,s4,s5,s6,s7] dst,nmF [s0,s1,s2,s3,s4,s5,s6,s7] a])) (fun _ H1 hH=>Z2 (Zb [77,79,86] [nmF [s0,s1,s2,s3,s4,s5,s6,s7] dst,nmF [s0,s1,s2,s3,s4,s5,s6,s7] a] 2 rfl (by decide) (by decide) (by rw [Z1b];have:=hs dst;have:=hs a;omega) (by decide)) (fun ρ=>rfl) H1 [4] Z Z ⟨hH 4 (by simp),trivial⟩ rfl) ?_
 refine ⟨by kernel_rfl,?_⟩
 exact ⟨rfl,_,rfl⟩
set_option maxHeartbeats 1600000 in
theorem xp_4a (s0 s1 s2 s3 s4 s5 s6 s7 h:List UInt8) (rd pw:Nat) (hs:∀ n,(nmF [s0,s1,s2,s3,s4,s5,s6,s7] n).length≤3) (hh:h.length≤10) (dst a b imm loc off ix sz fn pr su to:Int) (wk rel ze:Bool) (lb:List UInt8)  : Ctr Tryz.prog 152 [.ptr 1 1 0 [],.agg (ienc ⟨4,dst,a,b,imm,loc,off,ix,sz,fn,true,wk,rel,pr,su,to,ze⟩),.s lb] [rowS s0 s1 s2 s3 s4 s5 s6 s7,Zg h rd pw]
 (fun r h'=>r=.tup [.s [],.b false]∧h'=[rowS s0 s1 s2 s3 s4 s5 s6 s7,Zg h rd pw]):=by
 refine Ze Z5 (fn:=Tryz.f152) Z Z Z Z Z Z Zm ?_
 refine Z9 Z Z Z Z Z Z (fun _=>Z2 (ZB sz [66] [87] [76] [81]) (fun ρ=>rfl) _ [3] Z Z ⟨rfl,trivial⟩ rfl) ?_
 iterate 10 refine ⟨fun h=>Z3 h,fun _=>?_⟩
 exact ⟨rfl,_,rfl⟩
set_option maxHeartbeats 1600000 in
theorem xp_4w (s0 s1 s2 s3 s4 s5 s6 s7 h:List UInt8) (rd pw:Nat) (hs:∀ n,(nmF [s0,s1,s2,s3,s4,s5,s6,s7] n).length≤3) (hh:h.length≤10) (dst a b imm loc off ix sz fn pr su to:Int) (rel ze:Bool) (lb:List UInt8)  : Ctr Tryz.prog 152 [.ptr 1 1 0 [],.agg (ienc ⟨4,dst,a,b,imm,loc,off,ix,sz,fn,false,true,rel,pr,su,to,ze⟩),.s lb] [rowS s0 s1 s2 s3 s4 s5 s6 s7,Zg h rd pw]
 (fun r h'=>r=.tup [.s [],.b false]∧h'=[rowS s0 s1 s2 s3 s4 s5 s6 s7,Zg h rd pw]):=by
 refine Ze Z5 (fn:=Tryz.f152) Z Z Z Z Z Z Zm ?_
 refine Z9 Z Z Z Z Z Z (fun _=>Z2 (ZB sz [66] [87] [76] [81]) (fun ρ=>rfl) _ [3] Z Z ⟨rfl,trivial⟩ rfl) ?_
 iterate 10 refine ⟨fun h=>Z3 h,fun _=>?_⟩
 exact ⟨rfl,_,rfl⟩
set_option maxHeartbeats 1600000 in
theorem xp_4 (s0 s1 s2 s3 s4 s5 s6 s7 h:List UInt8) (rd pw:Nat) (hs:∀ n,(nmF [s0,s1,s2,s3,s4,s5,s6,s7] n).length≤3) (hh:h.length≤10) (dst a b imm loc off ix sz fn pr su to:Int) (rel ze:Bool) (lb:List UInt8) (ha:accB ⟨4,dst,a,b,imm,loc,off,ix,sz,fn,false,false,rel,pr,su,to,ze⟩=true):Ctr Tryz.prog 152 [.ptr 1 1 0 [],.agg (ienc ⟨4,dst,a,b,imm,loc,off,ix,sz,fn,false,false,rel,pr,su,to,ze⟩),.s lb] [rowS s0 s1 s2 s3 s4 s5 s6 s7,Zg h rd pw]
 (fun r h'=>r=.tup [.s (Z7 ([77,79,86]++xEnd sz) [nmF [s0,s1,s2,s3,s4,s5,s6,s7] dst,atF [s0,s1,s2,s3,s4,s5,s6,s7] ⟨4,dst,a,b,imm,loc,off,ix,sz,fn,false,false,rel,pr,su,to,ze⟩]),.b true]∧h'=[rowS s0 s1 s2 s3 s4 s5 s6 s7,Zg h rd pw]):=by
 refine Ze Z5 (fn:=Tryz.f152) Z Z Z Z Z Z Zm ?_
 refine Z9 Z Z Z Z Z Z (fun _=>Z2 (ZB sz [66] [87] [76] [81]) (fun ρ=>rfl) _ [3] Z Z ⟨rfl,trivial⟩ rfl) ?_
 iterate 3 refine ⟨fun h=>Z3 h,fun _=>?_⟩
 refine ⟨fun _=>?_,fun h=>Zv h⟩
 refine WpC.dr Z5 mixed 1 ?_
 have he:=Z2q sz
 refine ⟨fun _=>?_,?_⟩
 ·show 3+(xEnd sz).length≤9223372036854775807
  omega
 refine Z0 [0,1] Z Z Z Z Z Z (r:=.s (nmF [s0,s1,s2,s3,s4,s5,s6,s7] dst)) (fun _ H1 hH=>Z2 (Z1Y s0 s1 s2 s3 s4 s5 s6 s7 h rd pw dst) (fun ρ=>rfl) H1 [0,1] Z Z ⟨hH 0 (by simp),hH 1 (by simp),trivial⟩ rfl) ?_
 refine Z0 [0,1] Z Z Z Z Z Z (r:=.s (atF [s0,s1,s2,s3,s4,s5,s6,s7] ⟨4,dst,a,b,imm,loc,off,ix,sz,fn,false,false,rel,pr,su,to,ze⟩)) (fun _ H1 hH=>Z2 (Z5o s0 s1 s2 s3 s4 s5 s6 s7 h rd pw hs ⟨4,dst,a,b,imm,loc,off,ix,sz,fn,false,false,rel,pr,su,to,ze⟩ ha) (fun ρ=>rfl) H1 [0,1] Z Z ⟨hH 0 (by simp),hH 1 (by simp),trivial⟩ rfl) ?_
 refine Z0 [4] Z Z Z Z Z Z (r:=.s (Z7 ([77,79,86]++xEnd sz) [nmF [s0,s1,s2,s3,s4,s5,s6,s7] dst,atF [s0,s1,s2,s3,s4,s5,s6,s7] ⟨4,dst,a,b,imm,loc,off,ix,sz,fn,false,false,rel,pr,su,to,ze⟩])) (fun _ H1 hH=>Z2 (Zb ([77,79,86]++xEnd sz) [nmF [s0,s1,s2,s3,s4,s5,s6,s7] dst,atF [s0,s1,s2,s3,s4,s5,s6,s7] ⟨4,dst,a,b,imm,loc,off,ix,sz,fn,false,false,rel,pr,su,to,ze⟩] 2 rfl (by decide) (by decide) (by rw [Z1b];have:=hs dst;have:=Z6V hs ha;omega) (by simp;omega)) (fun ρ=>rfl) H1 [4] Z Z ⟨hH 4 (by simp),trivial⟩ rfl) ?_
 refine ⟨by kernel_rfl,?_⟩
 exact ⟨rfl,_,rfl⟩
set_option maxHeartbeats 1600000 in
theorem xp_5r (s0 s1 s2 s3 s4 s5 s6 s7 h:List UInt8) (rd pw:Nat) (hs:∀ n,(nmF [s0,s1,s2,s3,s4,s5,s6,s7] n).length≤3) (hh:h.length≤10) (dst a b imm loc off ix sz fn pr su to:Int) (acq wk ze:Bool) (lb:List UInt8)  : Ctr Tryz.prog 152 [.ptr 1 1 0 [],.agg (ienc ⟨5,dst,a,b,imm,loc,off,ix,sz,fn,acq,wk,true,pr,su,to,ze⟩),.s lb] [rowS s0 s1 s2 s3 s4 s5 s6 s7,Zg h rd pw]
 (fun r h'=>r=.tup [.s [],.b false]∧h'=[rowS s0 s1 s2 s3 s4 s5 s6 s7,Zg h rd pw]):=by
 refine Ze Z5 (fn:=Tryz.f152) Z Z Z Z Z Z Zm ?_
 refine Z9 Z Z Z Z Z Z (fun _=>Z2 (ZB sz [66] [87] [76] [81]) (fun ρ=>rfl) _ [3] Z Z ⟨rfl,trivial⟩ rfl) ?_
 iterate 10 refine ⟨fun h=>Z3 h,fun _=>?_⟩
 exact ⟨rfl,_,rfl⟩
set_option maxHeartbeats 1600000 in
theorem xp_5 (s0 s1 s2 s3 s4 s5 s6 s7 h:List UInt8) (rd pw:Nat) (hs:∀ n,(nmF [s0,s1,s2,s3,s4,s5,s6,s7] n).length≤3) (hh:h.length≤10) (dst a b imm loc off ix sz fn pr su to:Int) (acq wk ze:Bool) (lb:List UInt8) (hi:in64 imm) (ha:accB ⟨5,dst,a,b,imm,loc,off,ix,sz,fn,acq,wk,false,pr,su,to,ze⟩=true):Ctr Tryz.prog 152 [.ptr 1 1 0 [],.agg (ienc ⟨5,dst,a,b,imm,loc,off,ix,sz,fn,acq,wk,false,pr,su,to,ze⟩),.s lb] [rowS s0 s1 s2 s3 s4 s5 s6 s7,Zg h rd pw]
 (fun r h'=>r=.tup [.s (Z7 ([77,79,86]++xEnd sz) [atF [s0,s1,s2,s3,s4,s5,s6,s7] ⟨5,dst,a,b,imm,loc,off,ix,sz,fn,acq,wk,false,pr,su,to,ze⟩,orF [s0,s1,s2,s3,s4,s5,s6,s7] h a imm]),.b true]∧h'=[rowS s0 s1 s2 s3 s4 s5 s6 s7,Zg h rd pw]):=by
 refine Ze Z5 (fn:=Tryz.f152) Z Z Z Z Z Z Zm ?_
 refine Z9 Z Z Z Z Z Z (fun _=>Z2 (ZB sz [66] [87] [76] [81]) (fun ρ=>rfl) _ [3] Z Z ⟨rfl,trivial⟩ rfl) ?_
 iterate 4 refine ⟨fun h=>Z3 h,fun _=>?_⟩
 refine ⟨fun _=>?_,fun h=>Zv h⟩
 refine WpC.dr Z5 mixed 1 ?_
 have he:=Z2q sz
 refine ⟨fun _=>?_,?_⟩
 ·show 3+(xEnd sz).length≤9223372036854775807
  omega
 refine Z0 [0,1] Z Z Z Z Z Z (r:=.s (atF [s0,s1,s2,s3,s4,s5,s6,s7] ⟨5,dst,a,b,imm,loc,off,ix,sz,fn,acq,wk,false,pr,su,to,ze⟩)) (fun _ H1 hH=>Z2 (Z5o s0 s1 s2 s3 s4 s5 s6 s7 h rd pw hs ⟨5,dst,a,b,imm,loc,off,ix,sz,fn,acq,wk,false,pr,su,to,ze⟩ ha) (fun ρ=>rfl) H1 [0,1] Z Z ⟨hH 0 (by simp),hH 1 (by simp),trivial⟩ rfl) ?_
 refine Z0 [0,1] Z Z Z Z Z Z (r:=.s (orF [s0,s1,s2,s3,s4,s5,s6,s7] h a imm)) (fun _ H1 hH=>Z2 (Z3k s0 s1 s2 s3 s4 s5 s6 s7 h rd pw a imm hi hh) (fun ρ=>rfl) H1 [0,1] Z Z ⟨hH 0 (by simp),hH 1 (by simp),trivial⟩ rfl) ?_
 refine Z0 [4] Z Z Z Z Z Z (r:=.s (Z7 ([77,79,86]++xEnd sz) [atF [s0,s1,s2,s3,s4,s5,s6,s7] ⟨5,dst,a,b,imm,loc,off,ix,sz,fn,acq,wk,false,pr,su,to,ze⟩,orF [s0,s1,s2,s3,s4,s5,s6,s7] h a imm])) (fun _ H1 hH=>Z2 (Zb ([77,79,86]++xEnd sz) [atF [s0,s1,s2,s3,s4,s5,s6,s7] ⟨5,dst,a,b,imm,loc,off,ix,sz,fn,acq,wk,false,pr,su,to,ze⟩,orF [s0,s1,s2,s3,s4,s5,s6,s7] h a imm] 2 rfl (by decide) (by decide) (by rw [Z1b];have:=Z6V hs ha;have:=Z35 (r:=a) hs hi hh;omega) (by simp;omega)) (fun ρ=>rfl) H1 [4] Z Z ⟨hH 4 (by simp),trivial⟩ rfl) ?_
 refine ⟨by kernel_rfl,?_⟩
 exact ⟨rfl,_,rfl⟩
end SX
end Go.Proofs.YtdddpbmcoimgdaaGreatDoor
