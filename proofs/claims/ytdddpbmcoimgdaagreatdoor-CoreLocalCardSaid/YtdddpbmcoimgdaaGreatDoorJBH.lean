/- A part of SX: symbolic and concrete runs of the program, with contracts of functions; lemmas without further conditions. Shortened by a tool (mini.py). -/
import Derived.Test.YtdddpbmcoimgdaaGreatDoorJAH
import Derived.Test.YtdddpbmcoimgdaaGreatDoorJAM
import Derived.Test.YtdddpbmcoimgdaaGreatDoorJAT
import Derived.Test.YtdddpbmcoimgdaaGreatDoorJAW
import Derived.Test.YtdddpbmcoimgdaaGreatDoorJBD
import Derived.Test.YtdddpbmcoimgdaaGreatDoorJAA
set_option linter.unusedVariables false
set_option linter.unusedSimpArgs false
set_option linter.unusedSectionVars false
set_option maxRecDepth 100000
namespace Go.Proofs.YtdddpbmcoimgdaaGreatDoor
namespace SX
open Go Go.Proofs
def AH:List SB:=[rowS [88,48] [88,49] [88,50] [88,51] [88,52] [88,53] [88,54] [88,55],Zg [35] 161 162]
def AOne (i:In) (lb t:List UInt8):Prop:=
 Ctr Tryz.prog 162 [.ptr 1 1 0 [],.agg (ienc i),.s lb] AH (fun r h'=>r=.tup [.s t,.b (!decide (t=[]))]∧h'=AH)
def AFnB:SB:=.mem 9 [.s ([]),.s ([65,68,68]),.s ([83,85,66]),.s ([69,79,82]),.s ([65,78,68]),.s ([79,82,82])] 1 0
theorem anm (n:Int) {G:Prop} {h:List SB} (h0:h[0]?=some (rowS [88,48] [88,49] [88,50] [88,51] [88,52] [88,53] [88,54] [88,55])) (h1:h[1]?=some (Zg [35] 161 162)):G→∀ H1:List SB,(∀ k ∈ [0,1],H1[k]?=h[k]?)→Ctr Tryz.prog 133 [.ptr 1 1 0 [],.i .i64 n] H1 (fun r' h'=>r'=.s (nmF (Z1 3) n)∧h'=H1):=fun _ H1 hH=>Z2 (Z1h [88,48] [88,49] [88,50] [88,51] [88,52] [88,53] [88,54] [88,55] [35] 161 162 n) (fun ρ=>rfl) H1 [0,1] Z Z ⟨(hH 0 (by simp)).trans h0,(hH 1 (by simp)).trans h1,trivial⟩ rfl
theorem aor (r n:Int) (hn:in64 n) {G:Prop} {h:List SB} (h0:h[0]?=some (rowS [88,48] [88,49] [88,50] [88,51] [88,52] [88,53] [88,54] [88,55])) (h1:h[1]?=some (Zg [35] 161 162)):G→∀ H1:List SB,(∀ k ∈ [0,1],H1[k]?=h[k]?)→Ctr Tryz.prog 184 [.ptr 1 1 0 [],.i .i64 r,.i .i64 n] H1 (fun r' h'=>r'=.s (orF (Z1 3) [35] r n)∧h'=H1):=fun _ H1 hH=>Z2 (Z3k [88,48] [88,49] [88,50] [88,51] [88,52] [88,53] [88,54] [88,55] [35] 161 162 r n hn (by decide)) (fun ρ=>rfl) H1 [0,1] Z Z ⟨(hH 0 (by simp)).trans h0,(hH 1 (by simp)).trans h1,trivial⟩ rfl
theorem aat (i:In) (ha:accB i=true) {G:Prop} {h:List SB} (h0:h[0]?=some (rowS [88,48] [88,49] [88,50] [88,51] [88,52] [88,53] [88,54] [88,55])) (h1:h[1]?=some (Zg [35] 161 162)):G→∀ H1:List SB,(∀ k ∈ [0,1],H1[k]?=h[k]?)→Ctr Tryz.prog 185 [.ptr 1 1 0 [],.agg (ienc i)] H1 (fun r' h'=>r'=.s (atF (Z1 3) i)∧h'=H1):=fun _ H1 hH=>Z2 (Z5o [88,48] [88,49] [88,50] [88,51] [88,52] [88,53] [88,54] [88,55] [35] 161 162 (Za 3) i ha) (fun ρ=>rfl) H1 [0,1] Z Z ⟨(hH 0 (by simp)).trans h0,(hH 1 (by simp)).trans h1,trivial⟩ rfl
theorem Z5q:Ctr Tryz.prog 196 [] [] (fun r h=>r=.sl 0 1 0 6 (some 6) 0∧h=[AFnB]):=by
 refine ZE Z5 (fn:=Tryz.f196) Z Z Z Z Z Z (⟨⟨rfl,rfl,rfl,rfl,rfl,rfl,trivial⟩,trivial⟩:BndH 1 [AFnB]) (Nat.zero_le _) ?_
 exact ⟨rfl,_,rfl⟩
set_option maxHeartbeats 4000000 in
theorem ZhQ (i:In) (lb:List UInt8) (hf:Zr i=true) (hi:in64 i.imm) (hl:lb.length≤90000):AOne i lb (paT i lb):=by
 obtain ⟨op,dst,a,b,imm,loc,off,ix,sz,fn,acq,wk,rel,pr,su,to,ze⟩:=i
 have hi:in64 imm:=hi
 have hsl:(endF sz [66] [72] [87] []).length≤1:=Zf7 3 sz
 refine Ze Z5 (fn:=Tryz.f162) Z Z Z Z Z Z Zm ?_
 refine Z9 Z Z Z Z Z Z (fun _=>Z2 (ZB sz [66] [72] [87] []) (fun ρ=>rfl) _ [3] Z Z ⟨rfl,trivial⟩ rfl) ?_
 refine Z1k Z Z Z Z [] 2 Z Z Z ZhP Z Z Z Z trivial rfl (fun r H' hk=>?_) ?_
 ·obtain ⟨rfl,rfl⟩:=hk;exact ⟨Nat.zero_le _,Nat.le_refl _⟩
 rintro r H' ⟨rfl,rfl⟩
 refine ⟨fun h1=>?_,fun n1=>?_⟩
 ·have h1:decide (op=1)=true:=h1
  have e:op=1:=of_decide_eq_true h1
  refine WpC.dr Z5 mixed 1 ?_
  refine Z0 [0,1] Z Z Z Z Z Z (anm dst Z Z) ?_
  refine Z0 [0,1] Z Z Z Z Z Z (aor (-1) imm hi Z Z) ?_
  refine Z0 [6] Z Z Z Z Z Z (r:=.s (Z7 [77,79,86] [nmF (Z1 3) dst,orF (Z1 3) [35] (-1) imm])) (fun _ H1 hH=>Z2 (Zb [77,79,86] [nmF (Z1 3) dst,orF (Z1 3) [35] (-1) imm] 2 rfl (by decide) (by decide) (by rw [jn2];have:=Za 3 dst;have:=Z28 3 (-1) imm [35] (by decide) hi;simp only [List.length_append,List.length_cons,List.length_nil];omega) (by decide)) (fun ρ=>rfl) H1 [6] Z Z ⟨hH 6 (by simp),trivial⟩ rfl) ?_
  refine ⟨by kernel_rfl,?_⟩
  exact ⟨Zf (paT_1 e),_,rfl⟩
 have n1:decide (op=1)=false:=n1
 refine ⟨fun h2=>?_,fun n2=>?_⟩
 ·have h2:decide (op=2)=true:=h2
  have e:op=2:=of_decide_eq_true h2
  refine WpC.dr Z5 mixed 1 ?_
  refine Z0 [0,1] Z Z Z Z Z Z (anm dst Z Z) ?_
  refine Z0 [0,1] Z Z Z Z Z Z (anm a Z Z) ?_
  refine Z0 [6] Z Z Z Z Z Z (r:=.s (Z7 [77,79,86] [nmF (Z1 3) dst,nmF (Z1 3) a])) (fun _ H1 hH=>Z2 (Zb [77,79,86] [nmF (Z1 3) dst,nmF (Z1 3) a] 2 rfl (by decide) (by decide) (by rw [jn2];have:=Za 3 dst;have:=Za 3 a;simp only [List.length_append,List.length_cons,List.length_nil];omega) (by decide)) (fun ρ=>rfl) H1 [6] Z Z ⟨hH 6 (by simp),trivial⟩ rfl) ?_
  refine ⟨by kernel_rfl,?_⟩
  exact ⟨Zf (paT_2 e),_,rfl⟩
 have n2:decide (op=2)=false:=n2
 refine ⟨fun h3=>?_,fun n3=>?_⟩
 ·have h3:decide (op=3)=true:=h3
  have e:op=3:=of_decide_eq_true h3
  have hfn:=(fm3 hf e).2.2.1
  have hfn:fn=1∨fn=2∨fn=3∨fn=4∨fn=5:=hfn
  rcases hfn with rfl | rfl | rfl | rfl | rfl
  ·refine WpC.dr Z5 mixed 2 ?_
   refine Zq Z Z Z Z [] 1 Z Z Z5q Z Z Z Z trivial Z Z ?_
   refine ⟨fun _=>by show (0:Int)≤1∧(1:Int) < ((6:Nat):Int);decide,?_⟩
   refine Z0 [0,1] Z Z Z Z Z Z (anm dst Z Z) ?_
   refine Z0 [0,1] Z Z Z Z Z Z (anm a Z Z) ?_
   refine Z0 [0,1] Z Z Z Z Z Z (aor b imm hi Z Z) ?_
   refine Z0 [7] Z Z Z Z Z Z (r:=.s (Z7 [65,68,68] [nmF (Z1 3) dst,nmF (Z1 3) a,orF (Z1 3) [35] b imm])) (fun _ H1 hH=>Z2 (Zb [65,68,68] [nmF (Z1 3) dst,nmF (Z1 3) a,orF (Z1 3) [35] b imm] 3 rfl (by decide) (by decide) (by rw [jn3];have:=Za 3 dst;have:=Za 3 a;have:=Z28 3 b imm [35] (by decide) hi;simp only [List.length_append,List.length_cons,List.length_nil];omega) (by decide)) (fun ρ=>rfl) H1 [7] Z Z ⟨hH 7 (by simp),trivial⟩ rfl) ?_
   refine ⟨by kernel_rfl,?_⟩
   exact ⟨Zf (Z6v e),_,rfl⟩
  ·refine WpC.dr Z5 mixed 2 ?_
   refine Zq Z Z Z Z [] 1 Z Z Z5q Z Z Z Z trivial Z Z ?_
   refine ⟨fun _=>by show (0:Int)≤2∧(2:Int) < ((6:Nat):Int);decide,?_⟩
   refine Z0 [0,1] Z Z Z Z Z Z (anm dst Z Z) ?_
   refine Z0 [0,1] Z Z Z Z Z Z (anm a Z Z) ?_
   refine Z0 [0,1] Z Z Z Z Z Z (aor b imm hi Z Z) ?_
   refine Z0 [7] Z Z Z Z Z Z (r:=.s (Z7 [83,85,66] [nmF (Z1 3) dst,nmF (Z1 3) a,orF (Z1 3) [35] b imm])) (fun _ H1 hH=>Z2 (Zb [83,85,66] [nmF (Z1 3) dst,nmF (Z1 3) a,orF (Z1 3) [35] b imm] 3 rfl (by decide) (by decide) (by rw [jn3];have:=Za 3 dst;have:=Za 3 a;have:=Z28 3 b imm [35] (by decide) hi;simp only [List.length_append,List.length_cons,List.length_nil];omega) (by decide)) (fun ρ=>rfl) H1 [7] Z Z ⟨hH 7 (by simp),trivial⟩ rfl) ?_
   refine ⟨by kernel_rfl,?_⟩
   exact ⟨Zf (Z6v e),_,rfl⟩
  ·refine WpC.dr Z5 mixed 2 ?_
   refine Zq Z Z Z Z [] 1 Z Z Z5q Z Z Z Z trivial Z Z ?_
   refine ⟨fun _=>by show (0:Int)≤3∧(3:Int) < ((6:Nat):Int);decide,?_⟩
   refine Z0 [0,1] Z Z Z Z Z Z (anm dst Z Z) ?_
   refine Z0 [0,1] Z Z Z Z Z Z (anm a Z Z) ?_
   refine Z0 [0,1] Z Z Z Z Z Z (aor b imm hi Z Z) ?_
   refine Z0 [7] Z Z Z Z Z Z (r:=.s (Z7 [69,79,82] [nmF (Z1 3) dst,nmF (Z1 3) a,orF (Z1 3) [35] b imm])) (fun _ H1 hH=>Z2 (Zb [69,79,82] [nmF (Z1 3) dst,nmF (Z1 3) a,orF (Z1 3) [35] b imm] 3 rfl (by decide) (by decide) (by rw [jn3];have:=Za 3 dst;have:=Za 3 a;have:=Z28 3 b imm [35] (by decide) hi;simp only [List.length_append,List.length_cons,List.length_nil];omega) (by decide)) (fun ρ=>rfl) H1 [7] Z Z ⟨hH 7 (by simp),trivial⟩ rfl) ?_
   refine ⟨by kernel_rfl,?_⟩
   exact ⟨Zf (Z6v e),_,rfl⟩
  ·refine WpC.dr Z5 mixed 2 ?_
   refine Zq Z Z Z Z [] 1 Z Z Z5q Z Z Z Z trivial Z Z ?_
   refine ⟨fun _=>by show (0:Int)≤4∧(4:Int) < ((6:Nat):Int);decide,?_⟩
   refine Z0 [0,1] Z Z Z Z Z Z (anm dst Z Z) ?_
   refine Z0 [0,1] Z Z Z Z Z Z (anm a Z Z) ?_
   refine Z0 [0,1] Z Z Z Z Z Z (aor b imm hi Z Z) ?_
   refine Z0 [7] Z Z Z Z Z Z (r:=.s (Z7 [65,78,68] [nmF (Z1 3) dst,nmF (Z1 3) a,orF (Z1 3) [35] b imm])) (fun _ H1 hH=>Z2 (Zb [65,78,68] [nmF (Z1 3) dst,nmF (Z1 3) a,orF (Z1 3) [35] b imm] 3 rfl (by decide) (by decide) (by rw [jn3];have:=Za 3 dst;have:=Za 3 a;have:=Z28 3 b imm [35] (by decide) hi;simp only [List.length_append,List.length_cons,List.length_nil];omega) (by decide)) (fun ρ=>rfl) H1 [7] Z Z ⟨hH 7 (by simp),trivial⟩ rfl) ?_
   refine ⟨by kernel_rfl,?_⟩
   exact ⟨Zf (Z6v e),_,rfl⟩
  ·refine WpC.dr Z5 mixed 2 ?_
   refine Zq Z Z Z Z [] 1 Z Z Z5q Z Z Z Z trivial Z Z ?_
   refine ⟨fun _=>by show (0:Int)≤5∧(5:Int) < ((6:Nat):Int);decide,?_⟩
   refine Z0 [0,1] Z Z Z Z Z Z (anm dst Z Z) ?_
   refine Z0 [0,1] Z Z Z Z Z Z (anm a Z Z) ?_
   refine Z0 [0,1] Z Z Z Z Z Z (aor b imm hi Z Z) ?_
   refine Z0 [7] Z Z Z Z Z Z (r:=.s (Z7 [79,82,82] [nmF (Z1 3) dst,nmF (Z1 3) a,orF (Z1 3) [35] b imm])) (fun _ H1 hH=>Z2 (Zb [79,82,82] [nmF (Z1 3) dst,nmF (Z1 3) a,orF (Z1 3) [35] b imm] 3 rfl (by decide) (by decide) (by rw [jn3];have:=Za 3 dst;have:=Za 3 a;have:=Z28 3 b imm [35] (by decide) hi;simp only [List.length_append,List.length_cons,List.length_nil];omega) (by decide)) (fun ρ=>rfl) H1 [7] Z Z ⟨hH 7 (by simp),trivial⟩ rfl) ?_
   refine ⟨by kernel_rfl,?_⟩
   exact ⟨Zf (Z6v e),_,rfl⟩
 have n3:decide (op=3)=false:=n3
 refine ⟨fun h4=>?_,fun n4=>?_⟩
 ·have h4:decide (op=4)=true:=h4
  have e:op=4:=of_decide_eq_true h4
  have ha:=(fm4 hf e).2.1
  refine ⟨fun hq=>?_,fun hq=>?_⟩
  ·have hq:acq=true:=hq
   refine ⟨fun hw=>?_,fun hw=>?_⟩
   ·have hw:wk=true:=hw
    refine WpC.dr Z5 mixed 1 ?_
    refine ⟨fun _=>?_,?_⟩
    ·show ([76,68,65,80,82]:List UInt8).length+(endF sz [66] [72] [87] []).length≤9223372036854775807
     simp only [List.length_append,List.length_cons,List.length_nil];omega
    refine Z0 [0,1] Z Z Z Z Z Z (anm dst Z Z) ?_
    refine Z0 [0,1] Z Z Z Z Z Z (aat ⟨op,dst,a,b,imm,loc,off,ix,sz,fn,acq,wk,rel,pr,su,to,ze⟩ ha Z Z) ?_
    refine Z0 [6] Z Z Z Z Z Z (r:=.s (Z7 (([76,68,65,80,82]:List UInt8)++(endF sz [66] [72] [87] [])) [nmF (Z1 3) dst,atF (Z1 3) ⟨op,dst,a,b,imm,loc,off,ix,sz,fn,acq,wk,rel,pr,su,to,ze⟩])) (fun _ H1 hH=>Z2 (Zb (([76,68,65,80,82]:List UInt8)++(endF sz [66] [72] [87] [])) [nmF (Z1 3) dst,atF (Z1 3) ⟨op,dst,a,b,imm,loc,off,ix,sz,fn,acq,wk,rel,pr,su,to,ze⟩] 2 rfl (by decide) (by decide) (by rw [jn2];have:=Za 3 dst;have:=ZS (a:=3) ha;simp only [List.length_append,List.length_cons,List.length_nil];omega) (by simp only [List.length_append,List.length_cons,List.length_nil];omega)) (fun ρ=>rfl) H1 [6] Z Z ⟨hH 6 (by simp),trivial⟩ rfl) ?_
    refine ⟨by kernel_rfl,?_⟩
    exact ⟨Zf (Zfh e hw),_,rfl⟩
   ·have hw:wk=false:=hw
    refine WpC.dr Z5 mixed 1 ?_
    refine ⟨fun _=>?_,?_⟩
    ·show ([76,68,65,82]:List UInt8).length+(endF sz [66] [72] [87] []).length≤9223372036854775807
     simp only [List.length_append,List.length_cons,List.length_nil];omega
    refine Z0 [0,1] Z Z Z Z Z Z (anm dst Z Z) ?_
    refine Z0 [0,1] Z Z Z Z Z Z (aat ⟨op,dst,a,b,imm,loc,off,ix,sz,fn,acq,wk,rel,pr,su,to,ze⟩ ha Z Z) ?_
    refine Z0 [6] Z Z Z Z Z Z (r:=.s (Z7 (([76,68,65,82]:List UInt8)++(endF sz [66] [72] [87] [])) [nmF (Z1 3) dst,atF (Z1 3) ⟨op,dst,a,b,imm,loc,off,ix,sz,fn,acq,wk,rel,pr,su,to,ze⟩])) (fun _ H1 hH=>Z2 (Zb (([76,68,65,82]:List UInt8)++(endF sz [66] [72] [87] [])) [nmF (Z1 3) dst,atF (Z1 3) ⟨op,dst,a,b,imm,loc,off,ix,sz,fn,acq,wk,rel,pr,su,to,ze⟩] 2 rfl (by decide) (by decide) (by rw [jn2];have:=Za 3 dst;have:=ZS (a:=3) ha;simp only [List.length_append,List.length_cons,List.length_nil];omega) (by simp only [List.length_append,List.length_cons,List.length_nil];omega)) (fun ρ=>rfl) H1 [6] Z Z ⟨hH 6 (by simp),trivial⟩ rfl) ?_
    refine ⟨by kernel_rfl,?_⟩
    exact ⟨Zf (paT_4a e hw hq),_,rfl⟩
  ·have hq:acq=false:=hq
   refine ⟨fun hw=>?_,fun hw=>?_⟩
   ·have hw:wk=true:=hw
    refine WpC.dr Z5 mixed 1 ?_
    refine ⟨fun _=>?_,?_⟩
    ·show ([76,68,65,80,82]:List UInt8).length+(endF sz [66] [72] [87] []).length≤9223372036854775807
     simp only [List.length_append,List.length_cons,List.length_nil];omega
    refine Z0 [0,1] Z Z Z Z Z Z (anm dst Z Z) ?_
    refine Z0 [0,1] Z Z Z Z Z Z (aat ⟨op,dst,a,b,imm,loc,off,ix,sz,fn,acq,wk,rel,pr,su,to,ze⟩ ha Z Z) ?_
    refine Z0 [6] Z Z Z Z Z Z (r:=.s (Z7 (([76,68,65,80,82]:List UInt8)++(endF sz [66] [72] [87] [])) [nmF (Z1 3) dst,atF (Z1 3) ⟨op,dst,a,b,imm,loc,off,ix,sz,fn,acq,wk,rel,pr,su,to,ze⟩])) (fun _ H1 hH=>Z2 (Zb (([76,68,65,80,82]:List UInt8)++(endF sz [66] [72] [87] [])) [nmF (Z1 3) dst,atF (Z1 3) ⟨op,dst,a,b,imm,loc,off,ix,sz,fn,acq,wk,rel,pr,su,to,ze⟩] 2 rfl (by decide) (by decide) (by rw [jn2];have:=Za 3 dst;have:=ZS (a:=3) ha;simp only [List.length_append,List.length_cons,List.length_nil];omega) (by simp only [List.length_append,List.length_cons,List.length_nil];omega)) (fun ρ=>rfl) H1 [6] Z Z ⟨hH 6 (by simp),trivial⟩ rfl) ?_
    refine ⟨by kernel_rfl,?_⟩
    exact ⟨Zf (Zfh e hw),_,rfl⟩
   ·have hw:wk=false:=hw
    refine WpC.dr Z5 mixed 1 ?_
    refine ⟨fun _=>?_,?_⟩
    ·show ([76,68,82]:List UInt8).length+(endF sz [66] [72] [87] []).length≤9223372036854775807
     simp only [List.length_append,List.length_cons,List.length_nil];omega
    refine Z0 [0,1] Z Z Z Z Z Z (anm dst Z Z) ?_
    refine Z0 [0,1] Z Z Z Z Z Z (aat ⟨op,dst,a,b,imm,loc,off,ix,sz,fn,acq,wk,rel,pr,su,to,ze⟩ ha Z Z) ?_
    refine Z0 [6] Z Z Z Z Z Z (r:=.s (Z7 (([76,68,82]:List UInt8)++(endF sz [66] [72] [87] [])) [nmF (Z1 3) dst,atF (Z1 3) ⟨op,dst,a,b,imm,loc,off,ix,sz,fn,acq,wk,rel,pr,su,to,ze⟩])) (fun _ H1 hH=>Z2 (Zb (([76,68,82]:List UInt8)++(endF sz [66] [72] [87] [])) [nmF (Z1 3) dst,atF (Z1 3) ⟨op,dst,a,b,imm,loc,off,ix,sz,fn,acq,wk,rel,pr,su,to,ze⟩] 2 rfl (by decide) (by decide) (by rw [jn2];have:=Za 3 dst;have:=ZS (a:=3) ha;simp only [List.length_append,List.length_cons,List.length_nil];omega) (by simp only [List.length_append,List.length_cons,List.length_nil];omega)) (fun ρ=>rfl) H1 [6] Z Z ⟨hH 6 (by simp),trivial⟩ rfl) ?_
    refine ⟨by kernel_rfl,?_⟩
    exact ⟨Zf (paT_4n e hw hq),_,rfl⟩
 have n4:decide (op=4)=false:=n4
 refine ⟨fun h5=>?_,fun n5=>?_⟩
 ·have h5:(decide (op=5)&&decide (0≤a))=true:=h5
  have e:op=5:=by simp at h5;exact h5.1
  have hb:¬ a < 0:=by simp at h5;omega
  have ha:=(fm5 hf e).1
  refine ⟨fun hr=>?_,fun hr=>?_⟩
  ·have hr:rel=true:=hr
   refine WpC.dr Z5 mixed 1 ?_
   refine ⟨fun _=>?_,?_⟩
   ·show ([83,84,76,82]:List UInt8).length+(endF sz [66] [72] [87] []).length≤9223372036854775807
    simp only [List.length_append,List.length_cons,List.length_nil];omega
   refine Z0 [0,1] Z Z Z Z Z Z (anm a Z Z) ?_
   refine Z0 [0,1] Z Z Z Z Z Z (aat ⟨op,dst,a,b,imm,loc,off,ix,sz,fn,acq,wk,rel,pr,su,to,ze⟩ ha Z Z) ?_
   refine Z0 [6] Z Z Z Z Z Z (r:=.s (Z7 (([83,84,76,82]:List UInt8)++(endF sz [66] [72] [87] [])) [nmF (Z1 3) a,atF (Z1 3) ⟨op,dst,a,b,imm,loc,off,ix,sz,fn,acq,wk,rel,pr,su,to,ze⟩])) (fun _ H1 hH=>Z2 (Zb (([83,84,76,82]:List UInt8)++(endF sz [66] [72] [87] [])) [nmF (Z1 3) a,atF (Z1 3) ⟨op,dst,a,b,imm,loc,off,ix,sz,fn,acq,wk,rel,pr,su,to,ze⟩] 2 rfl (by decide) (by decide) (by rw [jn2];have:=Za 3 a;have:=ZS (a:=3) ha;simp only [List.length_append,List.length_cons,List.length_nil];omega) (by simp only [List.length_append,List.length_cons,List.length_nil];omega)) (fun ρ=>rfl) H1 [6] Z Z ⟨hH 6 (by simp),trivial⟩ rfl) ?_
   refine ⟨by kernel_rfl,?_⟩
   exact ⟨Zf (paT_5r e hb hr),_,rfl⟩
  ·have hr:rel=false:=hr
   refine WpC.dr Z5 mixed 1 ?_
   refine ⟨fun _=>?_,?_⟩
   ·show ([83,84,82]:List UInt8).length+(endF sz [66] [72] [87] []).length≤9223372036854775807
    simp only [List.length_append,List.length_cons,List.length_nil];omega
   refine Z0 [0,1] Z Z Z Z Z Z (anm a Z Z) ?_
   refine Z0 [0,1] Z Z Z Z Z Z (aat ⟨op,dst,a,b,imm,loc,off,ix,sz,fn,acq,wk,rel,pr,su,to,ze⟩ ha Z Z) ?_
   refine Z0 [6] Z Z Z Z Z Z (r:=.s (Z7 (([83,84,82]:List UInt8)++(endF sz [66] [72] [87] [])) [nmF (Z1 3) a,atF (Z1 3) ⟨op,dst,a,b,imm,loc,off,ix,sz,fn,acq,wk,rel,pr,su,to,ze⟩])) (fun _ H1 hH=>Z2 (Zb (([83,84,82]:List UInt8)++(endF sz [66] [72] [87] [])) [nmF (Z1 3) a,atF (Z1 3) ⟨op,dst,a,b,imm,loc,off,ix,sz,fn,acq,wk,rel,pr,su,to,ze⟩] 2 rfl (by decide) (by decide) (by rw [jn2];have:=Za 3 a;have:=ZS (a:=3) ha;simp only [List.length_append,List.length_cons,List.length_nil];omega) (by simp only [List.length_append,List.length_cons,List.length_nil];omega)) (fun ρ=>rfl) H1 [6] Z Z ⟨hH 6 (by simp),trivial⟩ rfl) ?_
   refine ⟨by kernel_rfl,?_⟩
   exact ⟨Zf (paT_5n e hb hr),_,rfl⟩
 have n5:(decide (op=5)&&decide (0≤a))=false:=n5
 refine ⟨fun h6=>?_,fun n6=>?_⟩
 ·have h6:decide (op=6)=true:=h6
  have e:op=6:=of_decide_eq_true h6
  have ha:=(fm6 hf e).2.2.1
  refine ⟨fun hfn=>?_,fun hfn=>?_⟩
  ·have hfn:fn=1:=of_decide_eq_true hfn
   refine ⟨fun hq=>?_,fun hq=>?_⟩
   ·have hq:acq=true:=hq
    refine ⟨fun _=>?_,?_⟩
    ·show ([76,68,65,68,68]:List UInt8).length+([65]:List UInt8).length≤9223372036854775807
     simp only [List.length_append,List.length_cons,List.length_nil];omega
    refine ⟨fun hr=>?_,fun hr=>?_⟩
    ·have hr:rel=true:=hr
     refine ⟨fun _=>?_,?_⟩
     ·show (([76,68,65,68,68]:List UInt8)++([65]:List UInt8)).length+([76]:List UInt8).length≤9223372036854775807
      simp only [List.length_append,List.length_cons,List.length_nil];omega
     refine WpC.dr Z5 mixed 1 ?_
     refine ⟨fun _=>?_,?_⟩
     ·show ((([76,68,65,68,68]:List UInt8)++([65]:List UInt8))++([76]:List UInt8)).length+(endF sz [66] [72] [87] []).length≤9223372036854775807
      simp only [List.length_append,List.length_cons,List.length_nil];omega
     refine Z0 [0,1] Z Z Z Z Z Z (anm a Z Z) ?_
     refine Z0 [0,1] Z Z Z Z Z Z (anm dst Z Z) ?_
     refine Z0 [0,1] Z Z Z Z Z Z (aat ⟨op,dst,a,b,imm,loc,off,ix,sz,fn,acq,wk,rel,pr,su,to,ze⟩ ha Z Z) ?_
     refine Z0 [6] Z Z Z Z Z Z (r:=.s (Z7 (((([76,68,65,68,68]:List UInt8)++([65]:List UInt8))++([76]:List UInt8))++(endF sz [66] [72] [87] [])) [nmF (Z1 3) a,nmF (Z1 3) dst,atF (Z1 3) ⟨op,dst,a,b,imm,loc,off,ix,sz,fn,acq,wk,rel,pr,su,to,ze⟩])) (fun _ H1 hH=>Z2 (Zb (((([76,68,65,68,68]:List UInt8)++([65]:List UInt8))++([76]:List UInt8))++(endF sz [66] [72] [87] [])) [nmF (Z1 3) a,nmF (Z1 3) dst,atF (Z1 3) ⟨op,dst,a,b,imm,loc,off,ix,sz,fn,acq,wk,rel,pr,su,to,ze⟩] 3 rfl (by decide) (by decide) (by rw [jn3];have:=Za 3 a;have:=Za 3 dst;have:=ZS (a:=3) ha;simp only [List.length_append,List.length_cons,List.length_nil];omega) (by simp only [List.length_append,List.length_cons,List.length_nil];omega)) (fun ρ=>rfl) H1 [6] Z Z ⟨hH 6 (by simp),trivial⟩ rfl) ?_
     refine ⟨by kernel_rfl,?_⟩
     exact ⟨Zf (Zfi e hfn hq hr),_,rfl⟩
    ·have hr:rel=false:=hr
     refine WpC.dr Z5 mixed 1 ?_
     refine ⟨fun _=>?_,?_⟩
     ·show (([76,68,65,68,68]:List UInt8)++([65]:List UInt8)).length+(endF sz [66] [72] [87] []).length≤9223372036854775807
      simp only [List.length_append,List.length_cons,List.length_nil];omega
     refine Z0 [0,1] Z Z Z Z Z Z (anm a Z Z) ?_
     refine Z0 [0,1] Z Z Z Z Z Z (anm dst Z Z) ?_
     refine Z0 [0,1] Z Z Z Z Z Z (aat ⟨op,dst,a,b,imm,loc,off,ix,sz,fn,acq,wk,rel,pr,su,to,ze⟩ ha Z Z) ?_
     refine Z0 [6] Z Z Z Z Z Z (r:=.s (Z7 ((([76,68,65,68,68]:List UInt8)++([65]:List UInt8))++(endF sz [66] [72] [87] [])) [nmF (Z1 3) a,nmF (Z1 3) dst,atF (Z1 3) ⟨op,dst,a,b,imm,loc,off,ix,sz,fn,acq,wk,rel,pr,su,to,ze⟩])) (fun _ H1 hH=>Z2 (Zb ((([76,68,65,68,68]:List UInt8)++([65]:List UInt8))++(endF sz [66] [72] [87] [])) [nmF (Z1 3) a,nmF (Z1 3) dst,atF (Z1 3) ⟨op,dst,a,b,imm,loc,off,ix,sz,fn,acq,wk,rel,pr,su,to,ze⟩] 3 rfl (by decide) (by decide) (by rw [jn3];have:=Za 3 a;have:=Za 3 dst;have:=ZS (a:=3) ha;simp only [List.length_append,List.length_cons,List.length_nil];omega) (by simp only [List.length_append,List.length_cons,List.length_nil];omega)) (fun ρ=>rfl) H1 [6] Z Z ⟨hH 6 (by simp),trivial⟩ rfl) ?_
     refine ⟨by kernel_rfl,?_⟩
     exact ⟨Zf (Zfj e hfn hq hr),_,rfl⟩
   ·have hq:acq=false:=hq
    refine ⟨fun hr=>?_,fun hr=>?_⟩
    ·have hr:rel=true:=hr
     refine ⟨fun _=>?_,?_⟩
     ·show ([76,68,65,68,68]:List UInt8).length+([76]:List UInt8).length≤9223372036854775807
      simp only [List.length_append,List.length_cons,List.length_nil];omega
     refine WpC.dr Z5 mixed 1 ?_
     refine ⟨fun _=>?_,?_⟩
     ·show (([76,68,65,68,68]:List UInt8)++([76]:List UInt8)).length+(endF sz [66] [72] [87] []).length≤9223372036854775807
      simp only [List.length_append,List.length_cons,List.length_nil];omega
     refine Z0 [0,1] Z Z Z Z Z Z (anm a Z Z) ?_
     refine Z0 [0,1] Z Z Z Z Z Z (anm dst Z Z) ?_
     refine Z0 [0,1] Z Z Z Z Z Z (aat ⟨op,dst,a,b,imm,loc,off,ix,sz,fn,acq,wk,rel,pr,su,to,ze⟩ ha Z Z) ?_
     refine Z0 [6] Z Z Z Z Z Z (r:=.s (Z7 ((([76,68,65,68,68]:List UInt8)++([76]:List UInt8))++(endF sz [66] [72] [87] [])) [nmF (Z1 3) a,nmF (Z1 3) dst,atF (Z1 3) ⟨op,dst,a,b,imm,loc,off,ix,sz,fn,acq,wk,rel,pr,su,to,ze⟩])) (fun _ H1 hH=>Z2 (Zb ((([76,68,65,68,68]:List UInt8)++([76]:List UInt8))++(endF sz [66] [72] [87] [])) [nmF (Z1 3) a,nmF (Z1 3) dst,atF (Z1 3) ⟨op,dst,a,b,imm,loc,off,ix,sz,fn,acq,wk,rel,pr,su,to,ze⟩] 3 rfl (by decide) (by decide) (by rw [jn3];have:=Za 3 a;have:=Za 3 dst;have:=ZS (a:=3) ha;simp only [List.length_append,List.length_cons,List.length_nil];omega) (by simp only [List.length_append,List.length_cons,List.length_nil];omega)) (fun ρ=>rfl) H1 [6] Z Z ⟨hH 6 (by simp),trivial⟩ rfl) ?_
     refine ⟨by kernel_rfl,?_⟩
     exact ⟨Zf (Zfk e hfn hq hr),_,rfl⟩
    ·have hr:rel=false:=hr
     refine WpC.dr Z5 mixed 1 ?_
     refine ⟨fun _=>?_,?_⟩
     ·show ([76,68,65,68,68]:List UInt8).length+(endF sz [66] [72] [87] []).length≤9223372036854775807
      simp only [List.length_append,List.length_cons,List.length_nil];omega
     refine Z0 [0,1] Z Z Z Z Z Z (anm a Z Z) ?_
     refine Z0 [0,1] Z Z Z Z Z Z (anm dst Z Z) ?_
     refine Z0 [0,1] Z Z Z Z Z Z (aat ⟨op,dst,a,b,imm,loc,off,ix,sz,fn,acq,wk,rel,pr,su,to,ze⟩ ha Z Z) ?_
     refine Z0 [6] Z Z Z Z Z Z (r:=.s (Z7 (([76,68,65,68,68]:List UInt8)++(endF sz [66] [72] [87] [])) [nmF (Z1 3) a,nmF (Z1 3) dst,atF (Z1 3) ⟨op,dst,a,b,imm,loc,off,ix,sz,fn,acq,wk,rel,pr,su,to,ze⟩])) (fun _ H1 hH=>Z2 (Zb (([76,68,65,68,68]:List UInt8)++(endF sz [66] [72] [87] [])) [nmF (Z1 3) a,nmF (Z1 3) dst,atF (Z1 3) ⟨op,dst,a,b,imm,loc,off,ix,sz,fn,acq,wk,rel,pr,su,to,ze⟩] 3 rfl (by decide) (by decide) (by rw [jn3];have:=Za 3 a;have:=Za 3 dst;have:=ZS (a:=3) ha;simp only [List.length_append,List.length_cons,List.length_nil];omega) (by simp only [List.length_append,List.length_cons,List.length_nil];omega)) (fun ρ=>rfl) H1 [6] Z Z ⟨hH 6 (by simp),trivial⟩ rfl) ?_
     refine ⟨by kernel_rfl,?_⟩
     exact ⟨Zf (Zfl e hfn hq hr),_,rfl⟩
  ·have hfn:¬ fn=1:=of_decide_eq_false hfn
   refine ⟨fun hq=>?_,fun hq=>?_⟩
   ·have hq:acq=true:=hq
    refine ⟨fun _=>?_,?_⟩
    ·show ([83,87,80]:List UInt8).length+([65]:List UInt8).length≤9223372036854775807
     simp only [List.length_append,List.length_cons,List.length_nil];omega
    refine ⟨fun hr=>?_,fun hr=>?_⟩
    ·have hr:rel=true:=hr
     refine ⟨fun _=>?_,?_⟩
     ·show (([83,87,80]:List UInt8)++([65]:List UInt8)).length+([76]:List UInt8).length≤9223372036854775807
      simp only [List.length_append,List.length_cons,List.length_nil];omega
     refine WpC.dr Z5 mixed 1 ?_
     refine ⟨fun _=>?_,?_⟩
     ·show ((([83,87,80]:List UInt8)++([65]:List UInt8))++([76]:List UInt8)).length+(endF sz [66] [72] [87] []).length≤9223372036854775807
      simp only [List.length_append,List.length_cons,List.length_nil];omega
     refine Z0 [0,1] Z Z Z Z Z Z (anm a Z Z) ?_
     refine Z0 [0,1] Z Z Z Z Z Z (anm dst Z Z) ?_
     refine Z0 [0,1] Z Z Z Z Z Z (aat ⟨op,dst,a,b,imm,loc,off,ix,sz,fn,acq,wk,rel,pr,su,to,ze⟩ ha Z Z) ?_
     refine Z0 [6] Z Z Z Z Z Z (r:=.s (Z7 (((([83,87,80]:List UInt8)++([65]:List UInt8))++([76]:List UInt8))++(endF sz [66] [72] [87] [])) [nmF (Z1 3) a,nmF (Z1 3) dst,atF (Z1 3) ⟨op,dst,a,b,imm,loc,off,ix,sz,fn,acq,wk,rel,pr,su,to,ze⟩])) (fun _ H1 hH=>Z2 (Zb (((([83,87,80]:List UInt8)++([65]:List UInt8))++([76]:List UInt8))++(endF sz [66] [72] [87] [])) [nmF (Z1 3) a,nmF (Z1 3) dst,atF (Z1 3) ⟨op,dst,a,b,imm,loc,off,ix,sz,fn,acq,wk,rel,pr,su,to,ze⟩] 3 rfl (by decide) (by decide) (by rw [jn3];have:=Za 3 a;have:=Za 3 dst;have:=ZS (a:=3) ha;simp only [List.length_append,List.length_cons,List.length_nil];omega) (by simp only [List.length_append,List.length_cons,List.length_nil];omega)) (fun ρ=>rfl) H1 [6] Z Z ⟨hH 6 (by simp),trivial⟩ rfl) ?_
     refine ⟨by kernel_rfl,?_⟩
     exact ⟨Zf (Zfm e hfn hq hr),_,rfl⟩
    ·have hr:rel=false:=hr
     refine WpC.dr Z5 mixed 1 ?_
     refine ⟨fun _=>?_,?_⟩
     ·show (([83,87,80]:List UInt8)++([65]:List UInt8)).length+(endF sz [66] [72] [87] []).length≤9223372036854775807
      simp only [List.length_append,List.length_cons,List.length_nil];omega
     refine Z0 [0,1] Z Z Z Z Z Z (anm a Z Z) ?_
     refine Z0 [0,1] Z Z Z Z Z Z (anm dst Z Z) ?_
     refine Z0 [0,1] Z Z Z Z Z Z (aat ⟨op,dst,a,b,imm,loc,off,ix,sz,fn,acq,wk,rel,pr,su,to,ze⟩ ha Z Z) ?_
     refine Z0 [6] Z Z Z Z Z Z (r:=.s (Z7 ((([83,87,80]:List UInt8)++([65]:List UInt8))++(endF sz [66] [72] [87] [])) [nmF (Z1 3) a,nmF (Z1 3) dst,atF (Z1 3) ⟨op,dst,a,b,imm,loc,off,ix,sz,fn,acq,wk,rel,pr,su,to,ze⟩])) (fun _ H1 hH=>Z2 (Zb ((([83,87,80]:List UInt8)++([65]:List UInt8))++(endF sz [66] [72] [87] [])) [nmF (Z1 3) a,nmF (Z1 3) dst,atF (Z1 3) ⟨op,dst,a,b,imm,loc,off,ix,sz,fn,acq,wk,rel,pr,su,to,ze⟩] 3 rfl (by decide) (by decide) (by rw [jn3];have:=Za 3 a;have:=Za 3 dst;have:=ZS (a:=3) ha;simp only [List.length_append,List.length_cons,List.length_nil];omega) (by simp only [List.length_append,List.length_cons,List.length_nil];omega)) (fun ρ=>rfl) H1 [6] Z Z ⟨hH 6 (by simp),trivial⟩ rfl) ?_
     refine ⟨by kernel_rfl,?_⟩
     exact ⟨Zf (Zfn e hfn hq hr),_,rfl⟩
   ·have hq:acq=false:=hq
    refine ⟨fun hr=>?_,fun hr=>?_⟩
    ·have hr:rel=true:=hr
     refine ⟨fun _=>?_,?_⟩
     ·show ([83,87,80]:List UInt8).length+([76]:List UInt8).length≤9223372036854775807
      simp only [List.length_append,List.length_cons,List.length_nil];omega
     refine WpC.dr Z5 mixed 1 ?_
     refine ⟨fun _=>?_,?_⟩
     ·show (([83,87,80]:List UInt8)++([76]:List UInt8)).length+(endF sz [66] [72] [87] []).length≤9223372036854775807
      simp only [List.length_append,List.length_cons,List.length_nil];omega
     refine Z0 [0,1] Z Z Z Z Z Z (anm a Z Z) ?_
     refine Z0 [0,1] Z Z Z Z Z Z (anm dst Z Z) ?_
     refine Z0 [0,1] Z Z Z Z Z Z (aat ⟨op,dst,a,b,imm,loc,off,ix,sz,fn,acq,wk,rel,pr,su,to,ze⟩ ha Z Z) ?_
     refine Z0 [6] Z Z Z Z Z Z (r:=.s (Z7 ((([83,87,80]:List UInt8)++([76]:List UInt8))++(endF sz [66] [72] [87] [])) [nmF (Z1 3) a,nmF (Z1 3) dst,atF (Z1 3) ⟨op,dst,a,b,imm,loc,off,ix,sz,fn,acq,wk,rel,pr,su,to,ze⟩])) (fun _ H1 hH=>Z2 (Zb ((([83,87,80]:List UInt8)++([76]:List UInt8))++(endF sz [66] [72] [87] [])) [nmF (Z1 3) a,nmF (Z1 3) dst,atF (Z1 3) ⟨op,dst,a,b,imm,loc,off,ix,sz,fn,acq,wk,rel,pr,su,to,ze⟩] 3 rfl (by decide) (by decide) (by rw [jn3];have:=Za 3 a;have:=Za 3 dst;have:=ZS (a:=3) ha;simp only [List.length_append,List.length_cons,List.length_nil];omega) (by simp only [List.length_append,List.length_cons,List.length_nil];omega)) (fun ρ=>rfl) H1 [6] Z Z ⟨hH 6 (by simp),trivial⟩ rfl) ?_
     refine ⟨by kernel_rfl,?_⟩
     exact ⟨Zf (Zfo e hfn hq hr),_,rfl⟩
    ·have hr:rel=false:=hr
     refine WpC.dr Z5 mixed 1 ?_
     refine ⟨fun _=>?_,?_⟩
     ·show ([83,87,80]:List UInt8).length+(endF sz [66] [72] [87] []).length≤9223372036854775807
      simp only [List.length_append,List.length_cons,List.length_nil];omega
     refine Z0 [0,1] Z Z Z Z Z Z (anm a Z Z) ?_
     refine Z0 [0,1] Z Z Z Z Z Z (anm dst Z Z) ?_
     refine Z0 [0,1] Z Z Z Z Z Z (aat ⟨op,dst,a,b,imm,loc,off,ix,sz,fn,acq,wk,rel,pr,su,to,ze⟩ ha Z Z) ?_
     refine Z0 [6] Z Z Z Z Z Z (r:=.s (Z7 (([83,87,80]:List UInt8)++(endF sz [66] [72] [87] [])) [nmF (Z1 3) a,nmF (Z1 3) dst,atF (Z1 3) ⟨op,dst,a,b,imm,loc,off,ix,sz,fn,acq,wk,rel,pr,su,to,ze⟩])) (fun _ H1 hH=>Z2 (Zb (([83,87,80]:List UInt8)++(endF sz [66] [72] [87] [])) [nmF (Z1 3) a,nmF (Z1 3) dst,atF (Z1 3) ⟨op,dst,a,b,imm,loc,off,ix,sz,fn,acq,wk,rel,pr,su,to,ze⟩] 3 rfl (by decide) (by decide) (by rw [jn3];have:=Za 3 a;have:=Za 3 dst;have:=ZS (a:=3) ha;simp only [List.length_append,List.length_cons,List.length_nil];omega) (by simp only [List.length_append,List.length_cons,List.length_nil];omega)) (fun ρ=>rfl) H1 [6] Z Z ⟨hH 6 (by simp),trivial⟩ rfl) ?_
     refine ⟨by kernel_rfl,?_⟩
     exact ⟨Zf (Zfp e hfn hq hr),_,rfl⟩
 have n6:decide (op=6)=false:=n6
 refine ⟨fun h7=>?_,fun n7=>?_⟩
 ·have h7:decide (op=7)=true:=h7
  have e:op=7:=of_decide_eq_true h7
  obtain ⟨hp,hs,_⟩:=fm7 hf e
  have hp:pr=1∨pr=2∨pr=3:=hp
  have hs:su=1∨su=2∨su=3:=hs
  rcases hp with rfl | rfl | rfl <;> rcases hs with rfl | rfl | rfl
  ·refine Z9 Z Z Z Z Z Z (r:=.i .i64 (-1)) (fun _=>Z2 (Z2I 1 1) (fun ρ=>rfl) _ [5] Z Z ⟨rfl,trivial⟩ rfl) ?_
   refine ⟨fun h=>absurd (show decide ((0:Int) ≤ -1)=true from h) (by decide),fun _=>?_⟩
   exact ⟨Z2r (Z5p e (by decide)),_,rfl⟩
  ·refine Z9 Z Z Z Z Z Z (r:=.i .i64 (-1)) (fun _=>Z2 (Z2I 1 2) (fun ρ=>rfl) _ [5] Z Z ⟨rfl,trivial⟩ rfl) ?_
   refine ⟨fun h=>absurd (show decide ((0:Int) ≤ -1)=true from h) (by decide),fun _=>?_⟩
   exact ⟨Z2r (Z5p e (by decide)),_,rfl⟩
  ·refine Z9 Z Z Z Z Z Z (r:=.i .i64 (1)) (fun _=>Z2 (Z2I 1 3) (fun ρ=>rfl) _ [5] Z Z ⟨rfl,trivial⟩ rfl) ?_
   refine ⟨fun _=>?_,fun h=>absurd (show decide ((0:Int)≤1)=false from h) (by decide)⟩
   refine ⟨fun _=>by show (0:Int)≤1∧(1:Int) < ((3:Nat):Int);decide,?_⟩
   refine Z9 Z Z Z Z Z Z (fun _=>Z2 (Zb [68,77,66] [[76,68]] 1 rfl (by decide) (by decide) (by decide) (by decide)) (fun ρ=>rfl) _ [6] Z Z ⟨rfl,trivial⟩ rfl) ?_
   exact ⟨Zf (ZhN e Z Z),_,rfl⟩
  ·refine Z9 Z Z Z Z Z Z (r:=.i .i64 (-1)) (fun _=>Z2 (Z2I 2 1) (fun ρ=>rfl) _ [5] Z Z ⟨rfl,trivial⟩ rfl) ?_
   refine ⟨fun h=>absurd (show decide ((0:Int) ≤ -1)=true from h) (by decide),fun _=>?_⟩
   exact ⟨Z2r (Z5p e (by decide)),_,rfl⟩
  ·refine Z9 Z Z Z Z Z Z (r:=.i .i64 (2)) (fun _=>Z2 (Z2I 2 2) (fun ρ=>rfl) _ [5] Z Z ⟨rfl,trivial⟩ rfl) ?_
   refine ⟨fun _=>?_,fun h=>absurd (show decide ((0:Int)≤2)=false from h) (by decide)⟩
   refine ⟨fun _=>by show (0:Int)≤2∧(2:Int) < ((3:Nat):Int);decide,?_⟩
   refine Z9 Z Z Z Z Z Z (fun _=>Z2 (Zb [68,77,66] [[83,84]] 1 rfl (by decide) (by decide) (by decide) (by decide)) (fun ρ=>rfl) _ [6] Z Z ⟨rfl,trivial⟩ rfl) ?_
   exact ⟨Zf (ZhO e Z Z),_,rfl⟩
  ·refine Z9 Z Z Z Z Z Z (r:=.i .i64 (-1)) (fun _=>Z2 (Z2I 2 3) (fun ρ=>rfl) _ [5] Z Z ⟨rfl,trivial⟩ rfl) ?_
   refine ⟨fun h=>absurd (show decide ((0:Int) ≤ -1)=true from h) (by decide),fun _=>?_⟩
   exact ⟨Z2r (Z5p e (by decide)),_,rfl⟩
  ·refine Z9 Z Z Z Z Z Z (r:=.i .i64 (-1)) (fun _=>Z2 (Z2I 3 1) (fun ρ=>rfl) _ [5] Z Z ⟨rfl,trivial⟩ rfl) ?_
   refine ⟨fun h=>absurd (show decide ((0:Int) ≤ -1)=true from h) (by decide),fun _=>?_⟩
   exact ⟨Z2r (Z5p e (by decide)),_,rfl⟩
  ·refine Z9 Z Z Z Z Z Z (r:=.i .i64 (-1)) (fun _=>Z2 (Z2I 3 2) (fun ρ=>rfl) _ [5] Z Z ⟨rfl,trivial⟩ rfl) ?_
   refine ⟨fun h=>absurd (show decide ((0:Int) ≤ -1)=true from h) (by decide),fun _=>?_⟩
   exact ⟨Z2r (Z5p e (by decide)),_,rfl⟩
  ·refine Z9 Z Z Z Z Z Z (r:=.i .i64 (0)) (fun _=>Z2 (Z2I 3 3) (fun ρ=>rfl) _ [5] Z Z ⟨rfl,trivial⟩ rfl) ?_
   refine ⟨fun _=>?_,fun h=>absurd (show decide ((0:Int)≤0)=false from h) (by decide)⟩
   refine ⟨fun _=>by show (0:Int)≤0∧(0:Int) < ((3:Nat):Int);decide,?_⟩
   refine Z9 Z Z Z Z Z Z (fun _=>Z2 (Zb [68,77,66] [[83,89]] 1 rfl (by decide) (by decide) (by decide) (by decide)) (fun ρ=>rfl) _ [6] Z Z ⟨rfl,trivial⟩ rfl) ?_
   exact ⟨Zf (ZhM e Z Z),_,rfl⟩
 have n7:decide (op=7)=false:=n7
 refine ⟨fun h8=>?_,fun n8=>?_⟩
 ·have h8:decide (op=8)=true:=h8
  have e:op=8:=of_decide_eq_true h8
  exact ⟨Zgy (paT_8 e) (by decide),_,rfl⟩
 have n8:decide (op=8)=false:=n8
 refine ⟨fun h9=>?_,fun n9=>?_⟩
 ·have h9:(decide (op=9)&&ze)=true:=h9
  have e:op=9:=by simp at h9;exact h9.1
  have hz:ze=true:=by simp at h9;exact h9.2
  refine Z9 Z Z Z Z Z Z (fun _=>Z2 (Z1h [88,48] [88,49] [88,50] [88,51] [88,52] [88,53] [88,54] [88,55] [35] 161 162 a) (fun ρ=>rfl) _ [0,1] Z Z ⟨rfl,rfl,trivial⟩ rfl) ?_
  refine Z9 Z Z Z Z Z Z (fun _=>Z2 (Zb [67,66,90] [nmF (Z1 3) a,lb] 2 rfl (by decide) (by decide) (by rw [jn2];have:=Za 3 a;simp only [List.length_append,List.length_cons,List.length_nil];omega) (by decide)) (fun ρ=>rfl) _ [6] Z Z ⟨rfl,trivial⟩ rfl) ?_
  exact ⟨Zf (paT_9z e hz),_,rfl⟩
 have n9:(decide (op=9)&&ze)=false:=n9
 refine ⟨fun h90=>?_,fun n90=>?_⟩
 ·have h90:decide (op=9)=true:=h90
  have e:op=9:=of_decide_eq_true h90
  have hz:ze=false:=by rw [decide_eq_true e] at n9;simpa using n9
  refine Z9 Z Z Z Z Z Z (fun _=>Z2 (Z1h [88,48] [88,49] [88,50] [88,51] [88,52] [88,53] [88,54] [88,55] [35] 161 162 a) (fun ρ=>rfl) _ [0,1] Z Z ⟨rfl,rfl,trivial⟩ rfl) ?_
  refine Z9 Z Z Z Z Z Z (fun _=>Z2 (Zb [67,66,78,90] [nmF (Z1 3) a,lb] 2 rfl (by decide) (by decide) (by rw [jn2];have:=Za 3 a;simp only [List.length_append,List.length_cons,List.length_nil];omega) (by decide)) (fun ρ=>rfl) _ [6] Z Z ⟨rfl,trivial⟩ rfl) ?_
  exact ⟨Zf (paT_9n e hz),_,rfl⟩
 have n90:decide (op=9)=false:=n90
 refine ⟨Z2r (paT_0 ?_),_,rfl⟩
 have e1:=of_decide_eq_false n1;have e2:=of_decide_eq_false n2;have e3:=of_decide_eq_false n3;have e4:=of_decide_eq_false n4;have e6:=of_decide_eq_false n6;have e7:=of_decide_eq_false n7;have e8:=of_decide_eq_false n8;have e9:=of_decide_eq_false n90
 refine ⟨e1,e2,e3,e4,e6,e7,e8,e9,fun e=>?_⟩
 rw [decide_eq_true e] at n5
 have n5:decide (0≤a)=false:=n5
 have:=of_decide_eq_false n5;omega
end SX
end Go.Proofs.YtdddpbmcoimgdaaGreatDoor
