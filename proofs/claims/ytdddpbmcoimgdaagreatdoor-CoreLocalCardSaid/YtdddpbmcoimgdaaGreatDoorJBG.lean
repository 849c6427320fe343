/- A part of SX: symbolic and concrete runs of the program, with contracts of functions; lemmas without further conditions. Shortened by a tool (mini.py). -/
import Derived.Test.YtdddpbmcoimgdaaGreatDoorJAH
import Derived.Test.YtdddpbmcoimgdaaGreatDoorJAM
import Derived.Test.YtdddpbmcoimgdaaGreatDoorJAT
import Derived.Test.YtdddpbmcoimgdaaGreatDoorJAW
import Derived.Test.YtdddpbmcoimgdaaGreatDoorJBD
import Derived.Test.YtdddpbmcoimgdaaGreatDoorJAA
set_option linter.unusedVariables false
set_option linter.unusedSimpArgs false
set_option linter.unusedSectionVars false
set_option maxRecDepth 100000
namespace Go.Proofs.YtdddpbmcoimgdaaGreatDoor
namespace SX
open Go Go.Proofs
def VH:List SB:=[rowS [97,48] [97,49] [97,50] [97,51] [97,52] [97,53] [97,54] [97,55],Zg [] 159 160]
def VOne (i:In) (lb t:List UInt8):Prop:=
 Ctr Tryz.prog 160 [.ptr 1 1 0 [],.agg (ienc i),.s lb] VH (fun r h'=>r=.tup [.s t,.b (!decide (t=[]))]∧h'=VH)
def VFnB:SB:=.mem 9 [.s ([]),.s ([97,100,100]),.s ([115,117,98]),.s ([120,111,114]),.s ([97,110,100]),.s ([111,114])] 1 0
theorem vnm (n:Int) {G:Prop} {h:List SB} (h0:h[0]?=some (rowS [97,48] [97,49] [97,50] [97,51] [97,52] [97,53] [97,54] [97,55])) (h1:h[1]?=some (Zg [] 159 160)):G→∀ H1:List SB,(∀ k ∈ [0,1],H1[k]?=h[k]?)→Ctr Tryz.prog 133 [.ptr 1 1 0 [],.i .i64 n] H1 (fun r' h'=>r'=.s (nmF (Z1 2) n)∧h'=H1):=fun _ H1 hH=>Z2 (Z1h [97,48] [97,49] [97,50] [97,51] [97,52] [97,53] [97,54] [97,55] [] 159 160 n) (fun ρ=>rfl) H1 [0,1] Z Z ⟨(hH 0 (by simp)).trans h0,(hH 1 (by simp)).trans h1,trivial⟩ rfl
theorem vor (r n:Int) (hn:in64 n) {G:Prop} {h:List SB} (h0:h[0]?=some (rowS [97,48] [97,49] [97,50] [97,51] [97,52] [97,53] [97,54] [97,55])) (h1:h[1]?=some (Zg [] 159 160)):G→∀ H1:List SB,(∀ k ∈ [0,1],H1[k]?=h[k]?)→Ctr Tryz.prog 184 [.ptr 1 1 0 [],.i .i64 r,.i .i64 n] H1 (fun r' h'=>r'=.s (orF (Z1 2) [] r n)∧h'=H1):=fun _ H1 hH=>Z2 (Z3k [97,48] [97,49] [97,50] [97,51] [97,52] [97,53] [97,54] [97,55] [] 159 160 r n hn (by decide)) (fun ρ=>rfl) H1 [0,1] Z Z ⟨(hH 0 (by simp)).trans h0,(hH 1 (by simp)).trans h1,trivial⟩ rfl
theorem vat (i:In) (ha:accB i=true) {G:Prop} {h:List SB} (h0:h[0]?=some (rowS [97,48] [97,49] [97,50] [97,51] [97,52] [97,53] [97,54] [97,55])) (h1:h[1]?=some (Zg [] 159 160)):G→∀ H1:List SB,(∀ k ∈ [0,1],H1[k]?=h[k]?)→Ctr Tryz.prog 185 [.ptr 1 1 0 [],.agg (ienc i)] H1 (fun r' h'=>r'=.s (atF (Z1 2) i)∧h'=H1):=fun _ H1 hH=>Z2 (Z5o [97,48] [97,49] [97,50] [97,51] [97,52] [97,53] [97,54] [97,55] [] 159 160 (Za 2) i ha) (fun ρ=>rfl) H1 [0,1] Z Z ⟨(hH 0 (by simp)).trans h0,(hH 1 (by simp)).trans h1,trivial⟩ rfl
theorem Z2d:Ctr Tryz.prog 191 [] [] (fun r h=>r=.sl 0 1 0 6 (some 6) 0∧h=[VFnB]):=by
 refine ZE Z5 (fn:=Tryz.f191) Z Z Z Z Z Z (⟨⟨rfl,rfl,rfl,rfl,rfl,rfl,trivial⟩,trivial⟩:BndH 1 [VFnB]) (Nat.zero_le _) ?_
 exact ⟨rfl,_,rfl⟩
set_option maxHeartbeats 4000000 in
theorem Zfg (i:In) (lb:List UInt8) (hf:Zr i=true) (hi:in64 i.imm) (hl:lb.length≤90000):VOne i lb (pvT i lb):=by
 obtain ⟨op,dst,a,b,imm,loc,off,ix,sz,fn,acq,wk,rel,pr,su,to,ze⟩:=i
 have hi:in64 imm:=hi
 have hsl:(endF sz [98] [104] [119] [100]).length≤1:=Zf7 2 sz
 refine Ze Z5 (fn:=Tryz.f160) Z Z Z Z Z Z Zm ?_
 refine Z9 Z Z Z Z Z Z (fun _=>Z2 (ZB sz [98] [104] [119] [100]) (fun ρ=>rfl) _ [3] Z Z ⟨rfl,trivial⟩ rfl) ?_
 refine ⟨fun h1=>?_,fun n1=>?_⟩
 ·have h1:decide (op=1)=true:=h1
  have e:op=1:=of_decide_eq_true h1
  refine WpC.dr Z5 mixed 1 ?_
  refine Z0 [0,1] Z Z Z Z Z Z (vnm dst Z Z) ?_
  refine Z0 [0,1] Z Z Z Z Z Z (vor (-1) imm hi Z Z) ?_
  refine Z0 [5] Z Z Z Z Z Z (r:=.s (Z7 [108,105] [nmF (Z1 2) dst,orF (Z1 2) [] (-1) imm])) (fun _ H1 hH=>Z2 (Zb [108,105] [nmF (Z1 2) dst,orF (Z1 2) [] (-1) imm] 2 rfl (by decide) (by decide) (by rw [jn2];have:=Za 2 dst;have:=Z28 2 (-1) imm [] (by decide) hi;simp only [List.length_append,List.length_cons,List.length_nil];omega) (by decide)) (fun ρ=>rfl) H1 [5] Z Z ⟨hH 5 (by simp),trivial⟩ rfl) ?_
  refine ⟨by kernel_rfl,?_⟩
  exact ⟨Zf (pvT_1 e),_,rfl⟩
 have n1:decide (op=1)=false:=n1
 refine ⟨fun h2=>?_,fun n2=>?_⟩
 ·have h2:decide (op=2)=true:=h2
  have e:op=2:=of_decide_eq_true h2
  refine WpC.dr Z5 mixed 1 ?_
  refine Z0 [0,1] Z Z Z Z Z Z (vnm dst Z Z) ?_
  refine Z0 [0,1] Z Z Z Z Z Z (vnm a Z Z) ?_
  refine Z0 [5] Z Z Z Z Z Z (r:=.s (Z7 [109,118] [nmF (Z1 2) dst,nmF (Z1 2) a])) (fun _ H1 hH=>Z2 (Zb [109,118] [nmF (Z1 2) dst,nmF (Z1 2) a] 2 rfl (by decide) (by decide) (by rw [jn2];have:=Za 2 dst;have:=Za 2 a;simp only [List.length_append,List.length_cons,List.length_nil];omega) (by decide)) (fun ρ=>rfl) H1 [5] Z Z ⟨hH 5 (by simp),trivial⟩ rfl) ?_
  refine ⟨by kernel_rfl,?_⟩
  exact ⟨Zf (pvT_2 e),_,rfl⟩
 have n2:decide (op=2)=false:=n2
 refine ⟨fun h3=>?_,fun n3=>?_⟩
 ·have h3:(decide (op=3)&&decide (0≤b))=true:=h3
  have e:op=3:=by simp at h3;exact h3.1
  have hb:0≤b:=by simp at h3;exact h3.2
  have hfn:=(fm3 hf e).2.2.1
  have hfn:fn=1∨fn=2∨fn=3∨fn=4∨fn=5:=hfn
  rcases hfn with rfl | rfl | rfl | rfl | rfl
  ·refine WpC.dr Z5 mixed 2 ?_
   refine Zq Z Z Z Z [] 1 Z Z Z2d Z Z Z Z trivial Z Z ?_
   refine ⟨fun _=>by show (0:Int)≤1∧(1:Int) < ((6:Nat):Int);decide,?_⟩
   refine Z0 [0,1] Z Z Z Z Z Z (vnm dst Z Z) ?_
   refine Z0 [0,1] Z Z Z Z Z Z (vnm a Z Z) ?_
   refine Z0 [0,1] Z Z Z Z Z Z (vnm b Z Z) ?_
   refine Z0 [6] Z Z Z Z Z Z (r:=.s (Z7 [97,100,100] [nmF (Z1 2) dst,nmF (Z1 2) a,nmF (Z1 2) b])) (fun _ H1 hH=>Z2 (Zb [97,100,100] [nmF (Z1 2) dst,nmF (Z1 2) a,nmF (Z1 2) b] 3 rfl (by decide) (by decide) (by rw [jn3];have:=Za 2 dst;have:=Za 2 a;have:=Za 2 b;simp only [List.length_append,List.length_cons,List.length_nil];omega) (by decide)) (fun ρ=>rfl) H1 [6] Z Z ⟨hH 6 (by simp),trivial⟩ rfl) ?_
   refine ⟨by kernel_rfl,?_⟩
   exact ⟨Zf (Z6t e hb),_,rfl⟩
  ·refine WpC.dr Z5 mixed 2 ?_
   refine Zq Z Z Z Z [] 1 Z Z Z2d Z Z Z Z trivial Z Z ?_
   refine ⟨fun _=>by show (0:Int)≤2∧(2:Int) < ((6:Nat):Int);decide,?_⟩
   refine Z0 [0,1] Z Z Z Z Z Z (vnm dst Z Z) ?_
   refine Z0 [0,1] Z Z Z Z Z Z (vnm a Z Z) ?_
   refine Z0 [0,1] Z Z Z Z Z Z (vnm b Z Z) ?_
   refine Z0 [6] Z Z Z Z Z Z (r:=.s (Z7 [115,117,98] [nmF (Z1 2) dst,nmF (Z1 2) a,nmF (Z1 2) b])) (fun _ H1 hH=>Z2 (Zb [115,117,98] [nmF (Z1 2) dst,nmF (Z1 2) a,nmF (Z1 2) b] 3 rfl (by decide) (by decide) (by rw [jn3];have:=Za 2 dst;have:=Za 2 a;have:=Za 2 b;simp only [List.length_append,List.length_cons,List.length_nil];omega) (by decide)) (fun ρ=>rfl) H1 [6] Z Z ⟨hH 6 (by simp),trivial⟩ rfl) ?_
   refine ⟨by kernel_rfl,?_⟩
   exact ⟨Zf (Z6t e hb),_,rfl⟩
  ·refine WpC.dr Z5 mixed 2 ?_
   refine Zq Z Z Z Z [] 1 Z Z Z2d Z Z Z Z trivial Z Z ?_
   refine ⟨fun _=>by show (0:Int)≤3∧(3:Int) < ((6:Nat):Int);decide,?_⟩
   refine Z0 [0,1] Z Z Z Z Z Z (vnm dst Z Z) ?_
   refine Z0 [0,1] Z Z Z Z Z Z (vnm a Z Z) ?_
   refine Z0 [0,1] Z Z Z Z Z Z (vnm b Z Z) ?_
   refine Z0 [6] Z Z Z Z Z Z (r:=.s (Z7 [120,111,114] [nmF (Z1 2) dst,nmF (Z1 2) a,nmF (Z1 2) b])) (fun _ H1 hH=>Z2 (Zb [120,111,114] [nmF (Z1 2) dst,nmF (Z1 2) a,nmF (Z1 2) b] 3 rfl (by decide) (by decide) (by rw [jn3];have:=Za 2 dst;have:=Za 2 a;have:=Za 2 b;simp only [List.length_append,List.length_cons,List.length_nil];omega) (by decide)) (fun ρ=>rfl) H1 [6] Z Z ⟨hH 6 (by simp),trivial⟩ rfl) ?_
   refine ⟨by kernel_rfl,?_⟩
   exact ⟨Zf (Z6t e hb),_,rfl⟩
  ·refine WpC.dr Z5 mixed 2 ?_
   refine Zq Z Z Z Z [] 1 Z Z Z2d Z Z Z Z trivial Z Z ?_
   refine ⟨fun _=>by show (0:Int)≤4∧(4:Int) < ((6:Nat):Int);decide,?_⟩
   refine Z0 [0,1] Z Z Z Z Z Z (vnm dst Z Z) ?_
   refine Z0 [0,1] Z Z Z Z Z Z (vnm a Z Z) ?_
   refine Z0 [0,1] Z Z Z Z Z Z (vnm b Z Z) ?_
   refine Z0 [6] Z Z Z Z Z Z (r:=.s (Z7 [97,110,100] [nmF (Z1 2) dst,nmF (Z1 2) a,nmF (Z1 2) b])) (fun _ H1 hH=>Z2 (Zb [97,110,100] [nmF (Z1 2) dst,nmF (Z1 2) a,nmF (Z1 2) b] 3 rfl (by decide) (by decide) (by rw [jn3];have:=Za 2 dst;have:=Za 2 a;have:=Za 2 b;simp only [List.length_append,List.length_cons,List.length_nil];omega) (by decide)) (fun ρ=>rfl) H1 [6] Z Z ⟨hH 6 (by simp),trivial⟩ rfl) ?_
   refine ⟨by kernel_rfl,?_⟩
   exact ⟨Zf (Z6t e hb),_,rfl⟩
  ·refine WpC.dr Z5 mixed 2 ?_
   refine Zq Z Z Z Z [] 1 Z Z Z2d Z Z Z Z trivial Z Z ?_
   refine ⟨fun _=>by show (0:Int)≤5∧(5:Int) < ((6:Nat):Int);decide,?_⟩
   refine Z0 [0,1] Z Z Z Z Z Z (vnm dst Z Z) ?_
   refine Z0 [0,1] Z Z Z Z Z Z (vnm a Z Z) ?_
   refine Z0 [0,1] Z Z Z Z Z Z (vnm b Z Z) ?_
   refine Z0 [6] Z Z Z Z Z Z (r:=.s (Z7 [111,114] [nmF (Z1 2) dst,nmF (Z1 2) a,nmF (Z1 2) b])) (fun _ H1 hH=>Z2 (Zb [111,114] [nmF (Z1 2) dst,nmF (Z1 2) a,nmF (Z1 2) b] 3 rfl (by decide) (by decide) (by rw [jn3];have:=Za 2 dst;have:=Za 2 a;have:=Za 2 b;simp only [List.length_append,List.length_cons,List.length_nil];omega) (by decide)) (fun ρ=>rfl) H1 [6] Z Z ⟨hH 6 (by simp),trivial⟩ rfl) ?_
   refine ⟨by kernel_rfl,?_⟩
   exact ⟨Zf (Z6t e hb),_,rfl⟩
 have n3:(decide (op=3)&&decide (0≤b))=false:=n3
 refine ⟨fun h30=>?_,fun n30=>?_⟩
 ·have h30:decide (op=3)=true:=h30
  have e:op=3:=of_decide_eq_true h30
  have hb:¬ 0≤b:=by intro hq;rw [decide_eq_true e,decide_eq_true hq] at n3;cases n3
  have hfn:=(fm3 hf e).2.2.1
  have hfn:fn=1∨fn=2∨fn=3∨fn=4∨fn=5:=hfn
  rcases hfn with rfl | rfl | rfl | rfl | rfl
  ·refine WpC.dr Z5 mixed 2 ?_
   refine Zq Z Z Z Z [] 1 Z Z Z2d Z Z Z Z trivial Z Z ?_
   refine ⟨fun _=>by show (0:Int)≤1∧(1:Int) < ((6:Nat):Int);decide,?_⟩
   refine ⟨fun _=>by show ([97,100,100]:List UInt8).length+([105]:List UInt8).length≤9223372036854775807;decide,?_⟩
   refine Z0 [0,1] Z Z Z Z Z Z (vnm dst Z Z) ?_
   refine Z0 [0,1] Z Z Z Z Z Z (vnm a Z Z) ?_
   refine Z0 [0,1] Z Z Z Z Z Z (vor (-1) imm hi Z Z) ?_
   refine Z0 [6] Z Z Z Z Z Z (r:=.s (Z7 (([97,100,100]:List UInt8)++([105]:List UInt8)) [nmF (Z1 2) dst,nmF (Z1 2) a,orF (Z1 2) [] (-1) imm])) (fun _ H1 hH=>Z2 (Zb (([97,100,100]:List UInt8)++([105]:List UInt8)) [nmF (Z1 2) dst,nmF (Z1 2) a,orF (Z1 2) [] (-1) imm] 3 rfl (by decide) (by decide) (by rw [jn3];have:=Za 2 dst;have:=Za 2 a;have:=Z28 2 (-1) imm [] (by decide) hi;simp only [List.length_append,List.length_cons,List.length_nil];omega) (by decide)) (fun ρ=>rfl) H1 [6] Z Z ⟨hH 6 (by simp),trivial⟩ rfl) ?_
   refine ⟨by kernel_rfl,?_⟩
   exact ⟨Zf (Z6u e hb),_,rfl⟩
  ·refine WpC.dr Z5 mixed 2 ?_
   refine Zq Z Z Z Z [] 1 Z Z Z2d Z Z Z Z trivial Z Z ?_
   refine ⟨fun _=>by show (0:Int)≤2∧(2:Int) < ((6:Nat):Int);decide,?_⟩
   refine ⟨fun _=>by show ([115,117,98]:List UInt8).length+([105]:List UInt8).length≤9223372036854775807;decide,?_⟩
   refine Z0 [0,1] Z Z Z Z Z Z (vnm dst Z Z) ?_
   refine Z0 [0,1] Z Z Z Z Z Z (vnm a Z Z) ?_
   refine Z0 [0,1] Z Z Z Z Z Z (vor (-1) imm hi Z Z) ?_
   refine Z0 [6] Z Z Z Z Z Z (r:=.s (Z7 (([115,117,98]:List UInt8)++([105]:List UInt8)) [nmF (Z1 2) dst,nmF (Z1 2) a,orF (Z1 2) [] (-1) imm])) (fun _ H1 hH=>Z2 (Zb (([115,117,98]:List UInt8)++([105]:List UInt8)) [nmF (Z1 2) dst,nmF (Z1 2) a,orF (Z1 2) [] (-1) imm] 3 rfl (by decide) (by decide) (by rw [jn3];have:=Za 2 dst;have:=Za 2 a;have:=Z28 2 (-1) imm [] (by decide) hi;simp only [List.length_append,List.length_cons,List.length_nil];omega) (by decide)) (fun ρ=>rfl) H1 [6] Z Z ⟨hH 6 (by simp),trivial⟩ rfl) ?_
   refine ⟨by kernel_rfl,?_⟩
   exact ⟨Zf (Z6u e hb),_,rfl⟩
  ·refine WpC.dr Z5 mixed 2 ?_
   refine Zq Z Z Z Z [] 1 Z Z Z2d Z Z Z Z trivial Z Z ?_
   refine ⟨fun _=>by show (0:Int)≤3∧(3:Int) < ((6:Nat):Int);decide,?_⟩
   refine ⟨fun _=>by show ([120,111,114]:List UInt8).length+([105]:List UInt8).length≤9223372036854775807;decide,?_⟩
   refine Z0 [0,1] Z Z Z Z Z Z (vnm dst Z Z) ?_
   refine Z0 [0,1] Z Z Z Z Z Z (vnm a Z Z) ?_
   refine Z0 [0,1] Z Z Z Z Z Z (vor (-1) imm hi Z Z) ?_
   refine Z0 [6] Z Z Z Z Z Z (r:=.s (Z7 (([120,111,114]:List UInt8)++([105]:List UInt8)) [nmF (Z1 2) dst,nmF (Z1 2) a,orF (Z1 2) [] (-1) imm])) (fun _ H1 hH=>Z2 (Zb (([120,111,114]:List UInt8)++([105]:List UInt8)) [nmF (Z1 2) dst,nmF (Z1 2) a,orF (Z1 2) [] (-1) imm] 3 rfl (by decide) (by decide) (by rw [jn3];have:=Za 2 dst;have:=Za 2 a;have:=Z28 2 (-1) imm [] (by decide) hi;simp only [List.length_append,List.length_cons,List.length_nil];omega) (by decide)) (fun ρ=>rfl) H1 [6] Z Z ⟨hH 6 (by simp),trivial⟩ rfl) ?_
   refine ⟨by kernel_rfl,?_⟩
   exact ⟨Zf (Z6u e hb),_,rfl⟩
  ·refine WpC.dr Z5 mixed 2 ?_
   refine Zq Z Z Z Z [] 1 Z Z Z2d Z Z Z Z trivial Z Z ?_
   refine ⟨fun _=>by show (0:Int)≤4∧(4:Int) < ((6:Nat):Int);decide,?_⟩
   refine ⟨fun _=>by show ([97,110,100]:List UInt8).length+([105]:List UInt8).length≤9223372036854775807;decide,?_⟩
   refine Z0 [0,1] Z Z Z Z Z Z (vnm dst Z Z) ?_
   refine Z0 [0,1] Z Z Z Z Z Z (vnm a Z Z) ?_
   refine Z0 [0,1] Z Z Z Z Z Z (vor (-1) imm hi Z Z) ?_
   refine Z0 [6] Z Z Z Z Z Z (r:=.s (Z7 (([97,110,100]:List UInt8)++([105]:List UInt8)) [nmF (Z1 2) dst,nmF (Z1 2) a,orF (Z1 2) [] (-1) imm])) (fun _ H1 hH=>Z2 (Zb (([97,110,100]:List UInt8)++([105]:List UInt8)) [nmF (Z1 2) dst,nmF (Z1 2) a,orF (Z1 2) [] (-1) imm] 3 rfl (by decide) (by decide) (by rw [jn3];have:=Za 2 dst;have:=Za 2 a;have:=Z28 2 (-1) imm [] (by decide) hi;simp only [List.length_append,List.length_cons,List.length_nil];omega) (by decide)) (fun ρ=>rfl) H1 [6] Z Z ⟨hH 6 (by simp),trivial⟩ rfl) ?_
   refine ⟨by kernel_rfl,?_⟩
   exact ⟨Zf (Z6u e hb),_,rfl⟩
  ·refine WpC.dr Z5 mixed 2 ?_
   refine Zq Z Z Z Z [] 1 Z Z Z2d Z Z Z Z trivial Z Z ?_
   refine ⟨fun _=>by show (0:Int)≤5∧(5:Int) < ((6:Nat):Int);decide,?_⟩
   refine ⟨fun _=>by show ([111,114]:List UInt8).length+([105]:List UInt8).length≤9223372036854775807;decide,?_⟩
   refine Z0 [0,1] Z Z Z Z Z Z (vnm dst Z Z) ?_
   refine Z0 [0,1] Z Z Z Z Z Z (vnm a Z Z) ?_
   refine Z0 [0,1] Z Z Z Z Z Z (vor (-1) imm hi Z Z) ?_
   refine Z0 [6] Z Z Z Z Z Z (r:=.s (Z7 (([111,114]:List UInt8)++([105]:List UInt8)) [nmF (Z1 2) dst,nmF (Z1 2) a,orF (Z1 2) [] (-1) imm])) (fun _ H1 hH=>Z2 (Zb (([111,114]:List UInt8)++([105]:List UInt8)) [nmF (Z1 2) dst,nmF (Z1 2) a,orF (Z1 2) [] (-1) imm] 3 rfl (by decide) (by decide) (by rw [jn3];have:=Za 2 dst;have:=Za 2 a;have:=Z28 2 (-1) imm [] (by decide) hi;simp only [List.length_append,List.length_cons,List.length_nil];omega) (by decide)) (fun ρ=>rfl) H1 [6] Z Z ⟨hH 6 (by simp),trivial⟩ rfl) ?_
   refine ⟨by kernel_rfl,?_⟩
   exact ⟨Zf (Z6u e hb),_,rfl⟩
 have n30:decide (op=3)=false:=n30
 refine ⟨fun h4=>?_,fun n4=>?_⟩
 ·have h4:((decide (op=4)&&!acq)&&!wk)=true:=h4
  have e:op=4:=by simp at h4;exact h4.1.1
  have hq:¬ (acq=true∨wk=true):=by simp at h4;simp [h4]
  have ha:=(fm4 hf e).2.1
  refine WpC.dr Z5 mixed 1 ?_
  refine ⟨fun _=>?_,?_⟩
  ·show ([108]:List UInt8).length+(endF sz [98] [104] [119] [100]).length≤9223372036854775807
   simp only [List.length_append,List.length_cons,List.length_nil];omega
  refine Z0 [0,1] Z Z Z Z Z Z (vnm dst Z Z) ?_
  refine Z0 [0,1] Z Z Z Z Z Z (vat ⟨op,dst,a,b,imm,loc,off,ix,sz,fn,acq,wk,rel,pr,su,to,ze⟩ ha Z Z) ?_
  refine Z0 [5] Z Z Z Z Z Z (r:=.s (Z7 (([108]:List UInt8)++(endF sz [98] [104] [119] [100])) [nmF (Z1 2) dst,atF (Z1 2) ⟨op,dst,a,b,imm,loc,off,ix,sz,fn,acq,wk,rel,pr,su,to,ze⟩])) (fun _ H1 hH=>Z2 (Zb (([108]:List UInt8)++(endF sz [98] [104] [119] [100])) [nmF (Z1 2) dst,atF (Z1 2) ⟨op,dst,a,b,imm,loc,off,ix,sz,fn,acq,wk,rel,pr,su,to,ze⟩] 2 rfl (by decide) (by decide) (by rw [jn2];have:=Za 2 dst;have:=ZS (a:=2) ha;simp only [List.length_append,List.length_cons,List.length_nil];omega) (by simp only [List.length_append,List.length_cons,List.length_nil];omega)) (fun ρ=>rfl) H1 [5] Z Z ⟨hH 5 (by simp),trivial⟩ rfl) ?_
  refine ⟨by kernel_rfl,?_⟩
  exact ⟨Zf (pvT_4 e hq),_,rfl⟩
 have n4:((decide (op=4)&&!acq)&&!wk)=false:=n4
 refine ⟨fun h5=>?_,fun n5=>?_⟩
 ·have h5:((decide (op=5)&&!rel)&&decide (0≤a))=true:=h5
  have e:op=5:=by simp at h5;exact h5.1.1
  have hq:¬ (rel=true∨a < 0):=by simp at h5;simp [h5]
  have ha:=(fm5 hf e).1
  refine WpC.dr Z5 mixed 1 ?_
  refine ⟨fun _=>?_,?_⟩
  ·show ([115]:List UInt8).length+(endF sz [98] [104] [119] [100]).length≤9223372036854775807
   simp only [List.length_append,List.length_cons,List.length_nil];omega
  refine Z0 [0,1] Z Z Z Z Z Z (vnm a Z Z) ?_
  refine Z0 [0,1] Z Z Z Z Z Z (vat ⟨op,dst,a,b,imm,loc,off,ix,sz,fn,acq,wk,rel,pr,su,to,ze⟩ ha Z Z) ?_
  refine Z0 [5] Z Z Z Z Z Z (r:=.s (Z7 (([115]:List UInt8)++(endF sz [98] [104] [119] [100])) [nmF (Z1 2) a,atF (Z1 2) ⟨op,dst,a,b,imm,loc,off,ix,sz,fn,acq,wk,rel,pr,su,to,ze⟩])) (fun _ H1 hH=>Z2 (Zb (([115]:List UInt8)++(endF sz [98] [104] [119] [100])) [nmF (Z1 2) a,atF (Z1 2) ⟨op,dst,a,b,imm,loc,off,ix,sz,fn,acq,wk,rel,pr,su,to,ze⟩] 2 rfl (by decide) (by decide) (by rw [jn2];have:=Za 2 a;have:=ZS (a:=2) ha;simp only [List.length_append,List.length_cons,List.length_nil];omega) (by simp only [List.length_append,List.length_cons,List.length_nil];omega)) (fun ρ=>rfl) H1 [5] Z Z ⟨hH 5 (by simp),trivial⟩ rfl) ?_
  refine ⟨by kernel_rfl,?_⟩
  exact ⟨Zf (pvT_5 e hq),_,rfl⟩
 have n5:((decide (op=5)&&!rel)&&decide (0≤a))=false:=n5
 refine ⟨fun h6=>?_,fun n6=>?_⟩
 ·have h6:decide (op=6)=true:=h6
  have e:op=6:=of_decide_eq_true h6
  have ha:=(fm6 hf e).2.2.1
  refine ⟨fun hfn=>?_,fun hfn=>?_⟩
  ·have hfn:fn=1:=of_decide_eq_true hfn
   refine ⟨fun _=>?_,?_⟩
   ·show ([97,109,111,97,100,100,46]:List UInt8).length+(endF sz [98] [104] [119] [100]).length≤9223372036854775807
    simp only [List.length_append,List.length_cons,List.length_nil];omega
   refine ⟨fun hq=>?_,fun hq=>?_⟩
   ·have hq:acq=true:=hq
    refine ⟨fun _=>?_,?_⟩
    ·show (([97,109,111,97,100,100,46]:List UInt8)++(endF sz [98] [104] [119] [100])).length+([46,97,113]:List UInt8).length≤9223372036854775807
     simp only [List.length_append,List.length_cons,List.length_nil];omega
    refine ⟨fun hr=>?_,fun hr=>?_⟩
    ·have hr:rel=true:=hr
     refine ⟨fun _=>?_,?_⟩
     ·show ((([97,109,111,97,100,100,46]:List UInt8)++(endF sz [98] [104] [119] [100]))++([46,97,113]:List UInt8)).length+([46,114,108]:List UInt8).length≤9223372036854775807
      simp only [List.length_append,List.length_cons,List.length_nil];omega
     refine WpC.dr Z5 mixed 1 ?_
     refine Z0 [0,1] Z Z Z Z Z Z (vnm dst Z Z) ?_
     refine Z0 [0,1] Z Z Z Z Z Z (vnm a Z Z) ?_
     refine Z0 [0,1] Z Z Z Z Z Z (vat ⟨op,dst,a,b,imm,loc,off,ix,sz,fn,acq,wk,rel,pr,su,to,ze⟩ ha Z Z) ?_
     refine Z0 [5] Z Z Z Z Z Z (r:=.s (Z7 (((([97,109,111,97,100,100,46]:List UInt8)++(endF sz [98] [104] [119] [100]))++([46,97,113]:List UInt8))++([46,114,108]:List UInt8)) [nmF (Z1 2) dst,nmF (Z1 2) a,atF (Z1 2) ⟨op,dst,a,b,imm,loc,off,ix,sz,fn,acq,wk,rel,pr,su,to,ze⟩])) (fun _ H1 hH=>Z2 (Zb (((([97,109,111,97,100,100,46]:List UInt8)++(endF sz [98] [104] [119] [100]))++([46,97,113]:List UInt8))++([46,114,108]:List UInt8)) [nmF (Z1 2) dst,nmF (Z1 2) a,atF (Z1 2) ⟨op,dst,a,b,imm,loc,off,ix,sz,fn,acq,wk,rel,pr,su,to,ze⟩] 3 rfl (by decide) (by decide) (by rw [jn3];have:=Za 2 dst;have:=Za 2 a;have:=ZS (a:=2) ha;simp only [List.length_append,List.length_cons,List.length_nil];omega) (by simp only [List.length_append,List.length_cons,List.length_nil];omega)) (fun ρ=>rfl) H1 [5] Z Z ⟨hH 5 (by simp),trivial⟩ rfl) ?_
     refine ⟨by kernel_rfl,?_⟩
     exact ⟨Zf (Zf8 e hfn hq hr),_,rfl⟩
    ·have hr:rel=false:=hr
     refine WpC.dr Z5 mixed 1 ?_
     refine Z0 [0,1] Z Z Z Z Z Z (vnm dst Z Z) ?_
     refine Z0 [0,1] Z Z Z Z Z Z (vnm a Z Z) ?_
     refine Z0 [0,1] Z Z Z Z Z Z (vat ⟨op,dst,a,b,imm,loc,off,ix,sz,fn,acq,wk,rel,pr,su,to,ze⟩ ha Z Z) ?_
     refine Z0 [5] Z Z Z Z Z Z (r:=.s (Z7 ((([97,109,111,97,100,100,46]:List UInt8)++(endF sz [98] [104] [119] [100]))++([46,97,113]:List UInt8)) [nmF (Z1 2) dst,nmF (Z1 2) a,atF (Z1 2) ⟨op,dst,a,b,imm,loc,off,ix,sz,fn,acq,wk,rel,pr,su,to,ze⟩])) (fun _ H1 hH=>Z2 (Zb ((([97,109,111,97,100,100,46]:List UInt8)++(endF sz [98] [104] [119] [100]))++([46,97,113]:List UInt8)) [nmF (Z1 2) dst,nmF (Z1 2) a,atF (Z1 2) ⟨op,dst,a,b,imm,loc,off,ix,sz,fn,acq,wk,rel,pr,su,to,ze⟩] 3 rfl (by decide) (by decide) (by rw [jn3];have:=Za 2 dst;have:=Za 2 a;have:=ZS (a:=2) ha;simp only [List.length_append,List.length_cons,List.length_nil];omega) (by simp only [List.length_append,List.length_cons,List.length_nil];omega)) (fun ρ=>rfl) H1 [5] Z Z ⟨hH 5 (by simp),trivial⟩ rfl) ?_
     refine ⟨by kernel_rfl,?_⟩
     exact ⟨Zf (Zf9 e hfn hq hr),_,rfl⟩
   ·have hq:acq=false:=hq
    refine ⟨fun hr=>?_,fun hr=>?_⟩
    ·have hr:rel=true:=hr
     refine ⟨fun _=>?_,?_⟩
     ·show (([97,109,111,97,100,100,46]:List UInt8)++(endF sz [98] [104] [119] [100])).length+([46,114,108]:List UInt8).length≤9223372036854775807
      simp only [List.length_append,List.length_cons,List.length_nil];omega
     refine WpC.dr Z5 mixed 1 ?_
     refine Z0 [0,1] Z Z Z Z Z Z (vnm dst Z Z) ?_
     refine Z0 [0,1] Z Z Z Z Z Z (vnm a Z Z) ?_
     refine Z0 [0,1] Z Z Z Z Z Z (vat ⟨op,dst,a,b,imm,loc,off,ix,sz,fn,acq,wk,rel,pr,su,to,ze⟩ ha Z Z) ?_
     refine Z0 [5] Z Z Z Z Z Z (r:=.s (Z7 ((([97,109,111,97,100,100,46]:List UInt8)++(endF sz [98] [104] [119] [100]))++([46,114,108]:List UInt8)) [nmF (Z1 2) dst,nmF (Z1 2) a,atF (Z1 2) ⟨op,dst,a,b,imm,loc,off,ix,sz,fn,acq,wk,rel,pr,su,to,ze⟩])) (fun _ H1 hH=>Z2 (Zb ((([97,109,111,97,100,100,46]:List UInt8)++(endF sz [98] [104] [119] [100]))++([46,114,108]:List UInt8)) [nmF (Z1 2) dst,nmF (Z1 2) a,atF (Z1 2) ⟨op,dst,a,b,imm,loc,off,ix,sz,fn,acq,wk,rel,pr,su,to,ze⟩] 3 rfl (by decide) (by decide) (by rw [jn3];have:=Za 2 dst;have:=Za 2 a;have:=ZS (a:=2) ha;simp only [List.length_append,List.length_cons,List.length_nil];omega) (by simp only [List.length_append,List.length_cons,List.length_nil];omega)) (fun ρ=>rfl) H1 [5] Z Z ⟨hH 5 (by simp),trivial⟩ rfl) ?_
     refine ⟨by kernel_rfl,?_⟩
     exact ⟨Zf (Zfa e hfn hq hr),_,rfl⟩
    ·have hr:rel=false:=hr
     refine WpC.dr Z5 mixed 1 ?_
     refine Z0 [0,1] Z Z Z Z Z Z (vnm dst Z Z) ?_
     refine Z0 [0,1] Z Z Z Z Z Z (vnm a Z Z) ?_
     refine Z0 [0,1] Z Z Z Z Z Z (vat ⟨op,dst,a,b,imm,loc,off,ix,sz,fn,acq,wk,rel,pr,su,to,ze⟩ ha Z Z) ?_
     refine Z0 [5] Z Z Z Z Z Z (r:=.s (Z7 (([97,109,111,97,100,100,46]:List UInt8)++(endF sz [98] [104] [119] [100])) [nmF (Z1 2) dst,nmF (Z1 2) a,atF (Z1 2) ⟨op,dst,a,b,imm,loc,off,ix,sz,fn,acq,wk,rel,pr,su,to,ze⟩])) (fun _ H1 hH=>Z2 (Zb (([97,109,111,97,100,100,46]:List UInt8)++(endF sz [98] [104] [119] [100])) [nmF (Z1 2) dst,nmF (Z1 2) a,atF (Z1 2) ⟨op,dst,a,b,imm,loc,off,ix,sz,fn,acq,wk,rel,pr,su,to,ze⟩] 3 rfl (by decide) (by decide) (by rw [jn3];have:=Za 2 dst;have:=Za 2 a;have:=ZS (a:=2) ha;simp only [List.length_append,List.length_cons,List.length_nil];omega) (by simp only [List.length_append,List.length_cons,List.length_nil];omega)) (fun ρ=>rfl) H1 [5] Z Z ⟨hH 5 (by simp),trivial⟩ rfl) ?_
     refine ⟨by kernel_rfl,?_⟩
     exact ⟨Zf (Zfb e hfn hq hr),_,rfl⟩
  ·have hfn:¬ fn=1:=of_decide_eq_false hfn
   refine ⟨fun _=>?_,?_⟩
   ·show ([97,109,111,115,119,97,112,46]:List UInt8).length+(endF sz [98] [104] [119] [100]).length≤9223372036854775807
    simp only [List.length_append,List.length_cons,List.length_nil];omega
   refine ⟨fun hq=>?_,fun hq=>?_⟩
   ·have hq:acq=true:=hq
    refine ⟨fun _=>?_,?_⟩
    ·show (([97,109,111,115,119,97,112,46]:List UInt8)++(endF sz [98] [104] [119] [100])).length+([46,97,113]:List UInt8).length≤9223372036854775807
     simp only [List.length_append,List.length_cons,List.length_nil];omega
    refine ⟨fun hr=>?_,fun hr=>?_⟩
    ·have hr:rel=true:=hr
     refine ⟨fun _=>?_,?_⟩
     ·show ((([97,109,111,115,119,97,112,46]:List UInt8)++(endF sz [98] [104] [119] [100]))++([46,97,113]:List UInt8)).length+([46,114,108]:List UInt8).length≤9223372036854775807
      simp only [List.length_append,List.length_cons,List.length_nil];omega
     refine WpC.dr Z5 mixed 1 ?_
     refine Z0 [0,1] Z Z Z Z Z Z (vnm dst Z Z) ?_
     refine Z0 [0,1] Z Z Z Z Z Z (vnm a Z Z) ?_
     refine Z0 [0,1] Z Z Z Z Z Z (vat ⟨op,dst,a,b,imm,loc,off,ix,sz,fn,acq,wk,rel,pr,su,to,ze⟩ ha Z Z) ?_
     refine Z0 [5] Z Z Z Z Z Z (r:=.s (Z7 (((([97,109,111,115,119,97,112,46]:List UInt8)++(endF sz [98] [104] [119] [100]))++([46,97,113]:List UInt8))++([46,114,108]:List UInt8)) [nmF (Z1 2) dst,nmF (Z1 2) a,atF (Z1 2) ⟨op,dst,a,b,imm,loc,off,ix,sz,fn,acq,wk,rel,pr,su,to,ze⟩])) (fun _ H1 hH=>Z2 (Zb (((([97,109,111,115,119,97,112,46]:List UInt8)++(endF sz [98] [104] [119] [100]))++([46,97,113]:List UInt8))++([46,114,108]:List UInt8)) [nmF (Z1 2) dst,nmF (Z1 2) a,atF (Z1 2) ⟨op,dst,a,b,imm,loc,off,ix,sz,fn,acq,wk,rel,pr,su,to,ze⟩] 3 rfl (by decide) (by decide) (by rw [jn3];have:=Za 2 dst;have:=Za 2 a;have:=ZS (a:=2) ha;simp only [List.length_append,List.length_cons,List.length_nil];omega) (by simp only [List.length_append,List.length_cons,List.length_nil];omega)) (fun ρ=>rfl) H1 [5] Z Z ⟨hH 5 (by simp),trivial⟩ rfl) ?_
     refine ⟨by kernel_rfl,?_⟩
     exact ⟨Zf (Zfc e hfn hq hr),_,rfl⟩
    ·have hr:rel=false:=hr
     refine WpC.dr Z5 mixed 1 ?_
     refine Z0 [0,1] Z Z Z Z Z Z (vnm dst Z Z) ?_
     refine Z0 [0,1] Z Z Z Z Z Z (vnm a Z Z) ?_
     refine Z0 [0,1] Z Z Z Z Z Z (vat ⟨op,dst,a,b,imm,loc,off,ix,sz,fn,acq,wk,rel,pr,su,to,ze⟩ ha Z Z) ?_
     refine Z0 [5] Z Z Z Z Z Z (r:=.s (Z7 ((([97,109,111,115,119,97,112,46]:List UInt8)++(endF sz [98] [104] [119] [100]))++([46,97,113]:List UInt8)) [nmF (Z1 2) dst,nmF (Z1 2) a,atF (Z1 2) ⟨op,dst,a,b,imm,loc,off,ix,sz,fn,acq,wk,rel,pr,su,to,ze⟩])) (fun _ H1 hH=>Z2 (Zb ((([97,109,111,115,119,97,112,46]:List UInt8)++(endF sz [98] [104] [119] [100]))++([46,97,113]:List UInt8)) [nmF (Z1 2) dst,nmF (Z1 2) a,atF (Z1 2) ⟨op,dst,a,b,imm,loc,off,ix,sz,fn,acq,wk,rel,pr,su,to,ze⟩] 3 rfl (by decide) (by decide) (by rw [jn3];have:=Za 2 dst;have:=Za 2 a;have:=ZS (a:=2) ha;simp only [List.length_append,List.length_cons,List.length_nil];omega) (by simp only [List.length_append,List.length_cons,List.length_nil];omega)) (fun ρ=>rfl) H1 [5] Z Z ⟨hH 5 (by simp),trivial⟩ rfl) ?_
     refine ⟨by kernel_rfl,?_⟩
     exact ⟨Zf (Zfd e hfn hq hr),_,rfl⟩
   ·have hq:acq=false:=hq
    refine ⟨fun hr=>?_,fun hr=>?_⟩
    ·have hr:rel=true:=hr
     refine ⟨fun _=>?_,?_⟩
     ·show (([97,109,111,115,119,97,112,46]:List UInt8)++(endF sz [98] [104] [119] [100])).length+([46,114,108]:List UInt8).length≤9223372036854775807
      simp only [List.length_append,List.length_cons,List.length_nil];omega
     refine WpC.dr Z5 mixed 1 ?_
     refine Z0 [0,1] Z Z Z Z Z Z (vnm dst Z Z) ?_
     refine Z0 [0,1] Z Z Z Z Z Z (vnm a Z Z) ?_
     refine Z0 [0,1] Z Z Z Z Z Z (vat ⟨op,dst,a,b,imm,loc,off,ix,sz,fn,acq,wk,rel,pr,su,to,ze⟩ ha Z Z) ?_
     refine Z0 [5] Z Z Z Z Z Z (r:=.s (Z7 ((([97,109,111,115,119,97,112,46]:List UInt8)++(endF sz [98] [104] [119] [100]))++([46,114,108]:List UInt8)) [nmF (Z1 2) dst,nmF (Z1 2) a,atF (Z1 2) ⟨op,dst,a,b,imm,loc,off,ix,sz,fn,acq,wk,rel,pr,su,to,ze⟩])) (fun _ H1 hH=>Z2 (Zb ((([97,109,111,115,119,97,112,46]:List UInt8)++(endF sz [98] [104] [119] [100]))++([46,114,108]:List UInt8)) [nmF (Z1 2) dst,nmF (Z1 2) a,atF (Z1 2) ⟨op,dst,a,b,imm,loc,off,ix,sz,fn,acq,wk,rel,pr,su,to,ze⟩] 3 rfl (by decide) (by decide) (by rw [jn3];have:=Za 2 dst;have:=Za 2 a;have:=ZS (a:=2) ha;simp only [List.length_append,List.length_cons,List.length_nil];omega) (by simp only [List.length_append,List.length_cons,List.length_nil];omega)) (fun ρ=>rfl) H1 [5] Z Z ⟨hH 5 (by simp),trivial⟩ rfl) ?_
     refine ⟨by kernel_rfl,?_⟩
     exact ⟨Zf (Zfe e hfn hq hr),_,rfl⟩
    ·have hr:rel=false:=hr
     refine WpC.dr Z5 mixed 1 ?_
     refine Z0 [0,1] Z Z Z Z Z Z (vnm dst Z Z) ?_
     refine Z0 [0,1] Z Z Z Z Z Z (vnm a Z Z) ?_
     refine Z0 [0,1] Z Z Z Z Z Z (vat ⟨op,dst,a,b,imm,loc,off,ix,sz,fn,acq,wk,rel,pr,su,to,ze⟩ ha Z Z) ?_
     refine Z0 [5] Z Z Z Z Z Z (r:=.s (Z7 (([97,109,111,115,119,97,112,46]:List UInt8)++(endF sz [98] [104] [119] [100])) [nmF (Z1 2) dst,nmF (Z1 2) a,atF (Z1 2) ⟨op,dst,a,b,imm,loc,off,ix,sz,fn,acq,wk,rel,pr,su,to,ze⟩])) (fun _ H1 hH=>Z2 (Zb (([97,109,111,115,119,97,112,46]:List UInt8)++(endF sz [98] [104] [119] [100])) [nmF (Z1 2) dst,nmF (Z1 2) a,atF (Z1 2) ⟨op,dst,a,b,imm,loc,off,ix,sz,fn,acq,wk,rel,pr,su,to,ze⟩] 3 rfl (by decide) (by decide) (by rw [jn3];have:=Za 2 dst;have:=Za 2 a;have:=ZS (a:=2) ha;simp only [List.length_append,List.length_cons,List.length_nil];omega) (by simp only [List.length_append,List.length_cons,List.length_nil];omega)) (fun ρ=>rfl) H1 [5] Z Z ⟨hH 5 (by simp),trivial⟩ rfl) ?_
     refine ⟨by kernel_rfl,?_⟩
     exact ⟨Zf (Zff e hfn hq hr),_,rfl⟩
 have n6:decide (op=6)=false:=n6
 refine ⟨fun h7=>?_,fun n7=>?_⟩
 ·have h7:decide (op=7)=true:=h7
  have e:op=7:=of_decide_eq_true h7
  obtain ⟨hp,hs,_⟩:=fm7 hf e
  have hp:pr=1∨pr=2∨pr=3:=hp
  have hs:su=1∨su=2∨su=3:=hs
  rcases hp with rfl | rfl | rfl <;> rcases hs with rfl | rfl | rfl
  ·refine WpC.dr Z5 mixed 1 ?_
   iterate 2 refine ⟨fun _=>by show (0:Int)≤1∧(1:Int) < ((4:Nat):Int);decide,?_⟩
   refine Z0 [5] Z Z Z Z Z Z (r:=.s (Z7 [102,101,110,99,101] [[114],[114]])) (fun _ H1 hH=>Z2 (Zb [102,101,110,99,101] [[114],[114]] 2 rfl (by decide) (by decide) (by decide) (by decide)) (fun ρ=>rfl) H1 [5] Z Z ⟨hH 5 (by simp),trivial⟩ rfl) ?_
   refine ⟨by kernel_rfl,?_⟩
   exact ⟨Zf (Z46 e),_,rfl⟩
  ·refine WpC.dr Z5 mixed 1 ?_
   refine ⟨fun _=>by show (0:Int)≤1∧(1:Int) < ((4:Nat):Int);decide,?_⟩
   refine ⟨fun _=>by show (0:Int)≤2∧(2:Int) < ((4:Nat):Int);decide,?_⟩
   refine Z0 [5] Z Z Z Z Z Z (r:=.s (Z7 [102,101,110,99,101] [[114],[119]])) (fun _ H1 hH=>Z2 (Zb [102,101,110,99,101] [[114],[119]] 2 rfl (by decide) (by decide) (by decide) (by decide)) (fun ρ=>rfl) H1 [5] Z Z ⟨hH 5 (by simp),trivial⟩ rfl) ?_
   refine ⟨by kernel_rfl,?_⟩
   exact ⟨Zf (Z46 e),_,rfl⟩
  ·refine WpC.dr Z5 mixed 1 ?_
   refine ⟨fun _=>by show (0:Int)≤1∧(1:Int) < ((4:Nat):Int);decide,?_⟩
   refine ⟨fun _=>by show (0:Int)≤3∧(3:Int) < ((4:Nat):Int);decide,?_⟩
   refine Z0 [5] Z Z Z Z Z Z (r:=.s (Z7 [102,101,110,99,101] [[114],[114,119]])) (fun _ H1 hH=>Z2 (Zb [102,101,110,99,101] [[114],[114,119]] 2 rfl (by decide) (by decide) (by decide) (by decide)) (fun ρ=>rfl) H1 [5] Z Z ⟨hH 5 (by simp),trivial⟩ rfl) ?_
   refine ⟨by kernel_rfl,?_⟩
   exact ⟨Zf (Z46 e),_,rfl⟩
  ·refine WpC.dr Z5 mixed 1 ?_
   refine ⟨fun _=>by show (0:Int)≤2∧(2:Int) < ((4:Nat):Int);decide,?_⟩
   refine ⟨fun _=>by show (0:Int)≤1∧(1:Int) < ((4:Nat):Int);decide,?_⟩
   refine Z0 [5] Z Z Z Z Z Z (r:=.s (Z7 [102,101,110,99,101] [[119],[114]])) (fun _ H1 hH=>Z2 (Zb [102,101,110,99,101] [[119],[114]] 2 rfl (by decide) (by decide) (by decide) (by decide)) (fun ρ=>rfl) H1 [5] Z Z ⟨hH 5 (by simp),trivial⟩ rfl) ?_
   refine ⟨by kernel_rfl,?_⟩
   exact ⟨Zf (Z46 e),_,rfl⟩
  ·refine WpC.dr Z5 mixed 1 ?_
   iterate 2 refine ⟨fun _=>by show (0:Int)≤2∧(2:Int) < ((4:Nat):Int);decide,?_⟩
   refine Z0 [5] Z Z Z Z Z Z (r:=.s (Z7 [102,101,110,99,101] [[119],[119]])) (fun _ H1 hH=>Z2 (Zb [102,101,110,99,101] [[119],[119]] 2 rfl (by decide) (by decide) (by decide) (by decide)) (fun ρ=>rfl) H1 [5] Z Z ⟨hH 5 (by simp),trivial⟩ rfl) ?_
   refine ⟨by kernel_rfl,?_⟩
   exact ⟨Zf (Z46 e),_,rfl⟩
  ·refine WpC.dr Z5 mixed 1 ?_
   refine ⟨fun _=>by show (0:Int)≤2∧(2:Int) < ((4:Nat):Int);decide,?_⟩
   refine ⟨fun _=>by show (0:Int)≤3∧(3:Int) < ((4:Nat):Int);decide,?_⟩
   refine Z0 [5] Z Z Z Z Z Z (r:=.s (Z7 [102,101,110,99,101] [[119],[114,119]])) (fun _ H1 hH=>Z2 (Zb [102,101,110,99,101] [[119],[114,119]] 2 rfl (by decide) (by decide) (by decide) (by decide)) (fun ρ=>rfl) H1 [5] Z Z ⟨hH 5 (by simp),trivial⟩ rfl) ?_
   refine ⟨by kernel_rfl,?_⟩
   exact ⟨Zf (Z46 e),_,rfl⟩
  ·refine WpC.dr Z5 mixed 1 ?_
   refine ⟨fun _=>by show (0:Int)≤3∧(3:Int) < ((4:Nat):Int);decide,?_⟩
   refine ⟨fun _=>by show (0:Int)≤1∧(1:Int) < ((4:Nat):Int);decide,?_⟩
   refine Z0 [5] Z Z Z Z Z Z (r:=.s (Z7 [102,101,110,99,101] [[114,119],[114]])) (fun _ H1 hH=>Z2 (Zb [102,101,110,99,101] [[114,119],[114]] 2 rfl (by decide) (by decide) (by decide) (by decide)) (fun ρ=>rfl) H1 [5] Z Z ⟨hH 5 (by simp),trivial⟩ rfl) ?_
   refine ⟨by kernel_rfl,?_⟩
   exact ⟨Zf (Z46 e),_,rfl⟩
  ·refine WpC.dr Z5 mixed 1 ?_
   refine ⟨fun _=>by show (0:Int)≤3∧(3:Int) < ((4:Nat):Int);decide,?_⟩
   refine ⟨fun _=>by show (0:Int)≤2∧(2:Int) < ((4:Nat):Int);decide,?_⟩
   refine Z0 [5] Z Z Z Z Z Z (r:=.s (Z7 [102,101,110,99,101] [[114,119],[119]])) (fun _ H1 hH=>Z2 (Zb [102,101,110,99,101] [[114,119],[119]] 2 rfl (by decide) (by decide) (by decide) (by decide)) (fun ρ=>rfl) H1 [5] Z Z ⟨hH 5 (by simp),trivial⟩ rfl) ?_
   refine ⟨by kernel_rfl,?_⟩
   exact ⟨Zf (Z46 e),_,rfl⟩
  ·refine WpC.dr Z5 mixed 1 ?_
   iterate 2 refine ⟨fun _=>by show (0:Int)≤3∧(3:Int) < ((4:Nat):Int);decide,?_⟩
   refine Z0 [5] Z Z Z Z Z Z (r:=.s (Z7 [102,101,110,99,101] [[114,119],[114,119]])) (fun _ H1 hH=>Z2 (Zb [102,101,110,99,101] [[114,119],[114,119]] 2 rfl (by decide) (by decide) (by decide) (by decide)) (fun ρ=>rfl) H1 [5] Z Z ⟨hH 5 (by simp),trivial⟩ rfl) ?_
   refine ⟨by kernel_rfl,?_⟩
   exact ⟨Zf (Z46 e),_,rfl⟩
 have n7:decide (op=7)=false:=n7
 refine ⟨fun h9=>?_,fun n9=>?_⟩
 ·have h9:(decide (op=9)&&ze)=true:=h9
  have e:op=9:=by simp at h9;exact h9.1
  have hz:ze=true:=by simp at h9;exact h9.2
  refine Z9 Z Z Z Z Z Z (fun _=>Z2 (Z1h [97,48] [97,49] [97,50] [97,51] [97,52] [97,53] [97,54] [97,55] [] 159 160 a) (fun ρ=>rfl) _ [0,1] Z Z ⟨rfl,rfl,trivial⟩ rfl) ?_
  refine Z9 Z Z Z Z Z Z (fun _=>Z2 (Zb [98,101,113,122] [nmF (Z1 2) a,lb] 2 rfl (by decide) (by decide) (by rw [jn2];have:=Za 2 a;simp only [List.length_append,List.length_cons,List.length_nil];omega) (by decide)) (fun ρ=>rfl) _ [5] Z Z ⟨rfl,trivial⟩ rfl) ?_
  exact ⟨Zf (pvT_9z e hz),_,rfl⟩
 have n9:(decide (op=9)&&ze)=false:=n9
 refine ⟨fun h90=>?_,fun n90=>?_⟩
 ·have h90:decide (op=9)=true:=h90
  have e:op=9:=of_decide_eq_true h90
  have hz:ze=false:=by rw [decide_eq_true e] at n9;simpa using n9
  refine Z9 Z Z Z Z Z Z (fun _=>Z2 (Z1h [97,48] [97,49] [97,50] [97,51] [97,52] [97,53] [97,54] [97,55] [] 159 160 a) (fun ρ=>rfl) _ [0,1] Z Z ⟨rfl,rfl,trivial⟩ rfl) ?_
  refine Z9 Z Z Z Z Z Z (fun _=>Z2 (Zb [98,110,101,122] [nmF (Z1 2) a,lb] 2 rfl (by decide) (by decide) (by rw [jn2];have:=Za 2 a;simp only [List.length_append,List.length_cons,List.length_nil];omega) (by decide)) (fun ρ=>rfl) _ [5] Z Z ⟨rfl,trivial⟩ rfl) ?_
  exact ⟨Zf (pvT_9n e hz),_,rfl⟩
 have n90:decide (op=9)=false:=n90
 refine ⟨Z2r (pvT_0 ?_),_,rfl⟩
 have e1:=of_decide_eq_false n1;have e2:=of_decide_eq_false n2;have e3:=of_decide_eq_false n30;have e6:=of_decide_eq_false n6;have e7:=of_decide_eq_false n7;have e9:=of_decide_eq_false n90
 refine ⟨e1,e2,e3,e6,e7,e9,fun e=>?_,fun e=>?_⟩
 ·rw [decide_eq_true e] at n4
  cases acq <;> cases wk <;> simp_all
 ·rw [decide_eq_true e] at n5
  cases rel <;> simp_all
end SX
end Go.Proofs.YtdddpbmcoimgdaaGreatDoor
