/- A part of SX: symbolic and concrete runs of the program, with contracts of functions; lemmas without further conditions. Shortened by a tool (mini.py). -/
import Derived.Test.YtdddpbmcoimgdaaGreatDoorJAX
import Derived.Test.YtdddpbmcoimgdaaGreatDoorJAY
import Derived.Test.YtdddpbmcoimgdaaGreatDoorJAA
set_option linter.unusedVariables false
set_option linter.unusedSimpArgs false
set_option linter.unusedSectionVars false
set_option maxRecDepth 100000
namespace Go.Proofs.YtdddpbmcoimgdaaGreatDoor
namespace SX
open Go Go.Proofs
theorem stp_op {i:In} (hf:Zr i=true) (h:stpB i=false):i.op=1∨i.op=2∨i.op=3∨i.op=9:=by
 unfold stpB memB at h
 simp only [Bool.or_eq_false_iff,decide_eq_false_iff_not] at h
 have:=fm_op hf
 omega
theorem Z9B (i:In) (hf:Zr i=true) (hs:stpB i=false) (g:List Int) (hg:g.length=8):Ctr Tryz.prog 17 [.sl 0 1 0 1 (some 1) 0,.agg [.ints .i64 8 g],.nils] [.mem 56 (ienc (plnF i)) 1 0] (fun r H=>r=.tup [.agg [.ints .i64 8 (givF g i)],.nils,.sl 4 1 0 1 none 0,.i .i64 0]∧H=locH (givF g i) (givF g i) 1 [0]):=by
 refine Z51 ZK (A:=[]) (B:=[.agg [.ints .i64 8 g],.nils]) (d:=inZ) (enc:=ienc) (xs:=[plnF i]) Z Z ien_w ien_ok (fun E j hj u c hu=>?_) (Nat.le_refl _) (fun ad cp=>?_)
 ·have hj:j < 1:=hj
  have:j=0:=by omega
  subst this
  show (cellsL E (ienc (plnF i)))[0+0 * 17+u]?=some c
  rw [show 0+0 * 17+u=u by omega]
  exact hu
 have hu:∀ ad2 cp2,CtrV Tryz.prog 44 [.imm IRow ir0 1 irenc [⟨[plnF i],ad,cp⟩] ad2 cp2] (.tup [.i .i64 0,.i .i64 0,.i .i64 0]):=fun ad2 cp2=>by
  have:=Z2o [⟨[plnF i],ad,cp⟩] ad2 cp2
  rw [Z8W (uok1 (Zgp hf) (fun h=>by unfold plnF at h ⊢;split <;> first | rfl | (rename_i h9;rw [if_neg h9] at h;exact absurd h h9)) ad cp)] at this
  exact this
 rcases stp_op hf hs with h | h | h | h
 ·have hx:=fm1 hf h
  have hp:plnF i=i:=by unfold plnF;rw [if_neg (by omega)]
  rw [hp] at hu ⊢
  have hv:givF g i=g.set i.dst.toNat i.imm:=by unfold givF;rw [if_pos h]
  rw [hv]
  obtain ⟨op,dst,a,b,imm,loc,off,ix,sz,fn,acq,wk,rel,pr,su,to,ze⟩:=i
  have h:op=1:=h
  subst h
  exact Zhy dst a b imm loc off ix sz fn pr su to acq wk rel ze g hg hx.1 ad cp hu
 ·have hx:=fm2 hf h
  have hp:plnF i=i:=by unfold plnF;rw [if_neg (by omega)]
  rw [hp] at hu ⊢
  have hv:givF g i=g.set i.dst.toNat (rgG g i.a):=by unfold givF;rw [if_neg (by omega),if_pos h]
  rw [hv]
  obtain ⟨op,dst,a,b,imm,loc,off,ix,sz,fn,acq,wk,rel,pr,su,to,ze⟩:=i
  have h:op=2:=h
  subst h
  exact Zhz dst a b imm loc off ix sz fn pr su to acq wk rel ze g hg hx.1 hx.2.1 ad cp hu
 ·have hx:=fm3 hf h
  have hp:plnF i=i:=by unfold plnF;rw [if_neg (by omega)]
  rw [hp] at hu ⊢
  have hv:givF g i=g.set i.dst.toNat (aluF i.fn (rgG g i.a) (if i.b = -1 then i.imm else rgG g i.b)):=by unfold givF opB;rw [if_neg (by omega),if_neg (by omega),if_pos h]
  rw [hv]
  obtain ⟨op,dst,a,b,imm,loc,off,ix,sz,fn,acq,wk,rel,pr,su,to,ze⟩:=i
  have h:op=3:=h
  subst h
  exact ZhA dst a b imm loc off ix sz fn pr su to acq wk rel ze g hg hx.1 hx.2.1 (hx.2.2.2.1.imp id (·.1)) ad cp hu
 ·have hx:=fm9 hf h
  have hp:plnF i={ i with to:=1 }:=by unfold plnF;rw [if_pos h]
  rw [hp] at hu ⊢
  have hv:givF g i=g:=by unfold givF;rw [if_neg (by omega),if_neg (by omega),if_neg (by omega)]
  rw [hv]
  obtain ⟨op,dst,a,b,imm,loc,off,ix,sz,fn,acq,wk,rel,pr,su,to,ze⟩:=i
  have h:op=9:=h
  subst h
  exact ZhB dst a b imm loc off ix sz fn pr su to acq wk rel ze g hg hx.1 ad cp hu
theorem Z8t (g:List Int) (i:In):((decide (i.op=9)&&decide ((1:Int)=1))&&(decide (rgG (givF g i) i.a=0) == i.ze))=jmpB g i:=by
 unfold jmpB
 by_cases h:i.op=9
 ·have hv:givF g i=g:=by unfold givF;rw [if_neg (by omega),if_neg (by omega),if_neg (by omega)]
  rw [hv,decide_eq_true h];rfl
 ·rw [decide_eq_false h];rfl
theorem ZeV {g:List Int} {i:In} (h:jmpB g i=true):i.op=9:=by
 unfold jmpB at h
 simp only [Bool.and_eq_true,decide_eq_true_eq] at h
 exact h.1
theorem hd_eq {ty:TypeId} {A B:SV} {x y:Int} {X:List SB} (h:x=y):SB.mem ty [A,.i .i64 x,B] 1 0::X=[SB.mem ty [A,.i .i64 y,B] 1 0]++X:=by subst h;rfl
theorem ZhC {b ts:List Thr} {k:Nat} {t:Thr} (hb:b=ts.set k t) (x y:Thr):(b.set k x).set k y=ts.set k y:=by subst hb;simp
theorem Z8u {y:Thr} {x:Int} (h:(y.k:Int)=x):Z25 y=[.imm In inZ 17 ienc y.r.xs y.r.a y.r.cap,.i .i64 x,.ints .i64 8 y.g]:=by subst h;rfl
theorem Z5S (b:Bool):decide (0 < opsK b 1)=b:=by cases b <;> rfl
theorem Z2W {ts:List Thr} {k:Nat} {t:Thr} (h:k < ts.length):(ts.set k t).getD k thr0=t:=by
 simp [List.getD_eq_getElem?_getD,List.getElem?_set,h]
def ThW (t0 t:Thr):Prop:=t.r=t0.r∧t.k≤t0.r.xs.length∧t.g.length=8∧thrT t0.r.xs t.k t.g=thrT t0.r.xs t0.k t0.g
theorem ThW.go {t0 t:Thr} (h:ThW t0 t) (hc:CodeOk t0.r.xs) (hk:t.k < t0.r.xs.length) (hs:stpB (t0.r.xs.getD t.k inZ)=false):ThW t0 ⟨t.r,nxtF t.g (t0.r.xs.getD t.k inZ) t.k,givF t.g (t0.r.xs.getD t.k inZ)⟩:=by
 obtain ⟨h1,h2,h3,h4⟩:=h
 exact ⟨h1,(Z1H hc hk).2,by show (givF _ _).length=8;rw [Zco];exact h3,by rw [← h4,Zhf hc hk hs]⟩
def thrN (t:Thr):Thr:=⟨t.r,(thrT t.r.xs t.k t.g).1,(thrT t.r.xs t.k t.g).2⟩
theorem ThW.fin {t0 t:Thr} (h:ThW t0 t) (he:thrT t0.r.xs t.k t.g=(t.k,t.g)):t=thrN t0:=by
 obtain ⟨h1,h2,h3,h4⟩:=h
 rw [he] at h4
 obtain ⟨r,k,g⟩:=t
 simp only at h1 h4
 unfold thrN
 rw [← h4,h1]
theorem Zgq {ts:List Thr} {k n:Nat} (hk:k < n) (hn:ts.length=n):ts.set k (ts.getD k thr0)=ts:=by
 refine List.ext_getElem? fun i=>?_
 by_cases hi:i=k
 ·subst hi
  rw [List.getElem?_set_self (by omega),List.getD_eq_getElem?_getD,List.getElem?_eq_getElem (show i < ts.length by omega)];rfl
 ·rw [List.getElem?_set_ne (Ne.symm hi)]
set_option maxHeartbeats 2000000 in
theorem ZhD (t0:Thr) (hc:CodeOk t0.r.xs) (hg:t0.g.length=8) (h0:t0.k≤t0.r.xs.length):Ctr Tryz.prog 48 [.ptr 0 1 0 []] [.mem 109 (Z25 (t0)) 1 0] (fun r H=>r=.tup []∧H=[.mem 109 (Z25 (thrN t0)) 1 0]):=by
 refine ZE Zi (fn:=Tryz.f48) Z Z Z Z Z Z ⟨Z8s _,trivial⟩ (Nat.le_refl _) ?_
 refine WpC.loop Zi (β:=Thr) (fun b=>ThW t0 b) (fun b=>[]) (fun b=>[.mem 109 (Z25 (b)) 1 0]) (fun b=>t0.r.xs.length - b.k) t0 1237940039285380274899124220 ⟨rfl,h0,hg,rfl⟩ ?_ ?_
 ·exact ⟨rfl,trivial,⟨[],rfl⟩,⟨Z8s _,trivial⟩,rfl⟩
 intro t hw
 have hrr:t.r=t0.r:=hw.1
 have hg8:t.g.length=8:=hw.2.2.1
 have hcc:CodeOk t.r.xs:=by rw [hrr];exact hc
 have hk8:=hcc.l8
 refine WpC.dr Zi mixed 0 ?_
 refine ⟨by kernel_rfl,?_⟩
 have fin:thrT t.r.xs t.k t.g=(t.k,t.g)→t=thrN t0:=fun h=>hw.fin (by rw [← hrr];exact h)
 refine ⟨fun h=>?_,fun h=>?_⟩
 rotate_left
 ·have h:decide ((t.k:Int) < (t.r.xs.length:Int))=false:=h
  have h:=of_decide_eq_false h
  have hfin:=fin (Zbs hcc (by omega))
  subst hfin
  exact ⟨rfl,_,rfl⟩
 ·have h:decide ((t.k:Int) < (t.r.xs.length:Int))=true:=h
  have h:=of_decide_eq_true h
  have hkl:t.k < t.r.xs.length:=by omega
  have hf:=hcc.fm _ hkl
  have hto:=hcc.to _ hkl
  refine WpC.dr Zi mixed 1 ?_
  refine ⟨fun _=>(show (0:Int)≤(t.k:Int)∧(t.k:Int) < (t.r.xs.length:Int) by omega),?_⟩
  refine ⟨by kernel_rfl,?_⟩
  refine Z9 Z Z Z Z Z Z (r:=.i .i64 (opsK (memB (t.r.xs.getD t.k inZ)) 1)) (fun _=>Z2 (Zcs (t.r.xs.getD t.k inZ)) (fun _=>rfl) _ [2] Z Z ⟨rfl,trivial⟩ rfl) ?_
  refine ⟨fun h2=>?_,fun h2=>?_⟩
  ·have h2:((decide (0 < opsK (memB (t.r.xs.getD t.k inZ)) 1)||decide ((t.r.xs.getD t.k inZ).op=7))||decide ((t.r.xs.getD t.k inZ).op=8))=true:=h2
   rw [Z5S] at h2
   have hfin:=fin (Z9z h2)
   subst hfin
   exact ⟨rfl,_,rfl⟩
  have h2:((decide (0 < opsK (memB (t.r.xs.getD t.k inZ)) 1)||decide ((t.r.xs.getD t.k inZ).op=7))||decide ((t.r.xs.getD t.k inZ).op=8))=false:=h2
  rw [Z5S] at h2
  have hs:stpB (t.r.xs.getD t.k inZ)=false:=h2
  have hwgo:=hw.go (by rw [← hrr];exact hcc) (by rw [← hrr];exact hkl) (by rw [← hrr];exact hs)
  rw [← hrr] at hwgo
  refine WpC.dr Zi mixed 6 ?_
  refine Zp Z Z Z Z Z Z Z (fun _=>Zbu (t.r.xs.getD t.k inZ)) ?_
  refine Zq Z Z Z Z [3] 4 Z Z (Z9B (t.r.xs.getD t.k inZ) hf hs t.g hg8) Z Z Z Z ⟨rfl,trivial⟩ Z Z ?_
  refine ⟨by kernel_rfl,?_⟩
  refine ⟨fun h=>Z3 h,fun _=>?_⟩
  have hA:((decide ((t.r.xs.getD t.k inZ).op=9)&&decide ((1:Int)=1)) == true)=true→0≤(t.r.xs.getD t.k inZ).a∧(t.r.xs.getD t.k inZ).a < 8:=fun h=>by
   simp only [beq_true,Bool.and_eq_true,decide_eq_true_eq] at h
   exact (fm9 hf h.1).1
  refine WpC.dr Zi mixed 0 ?_
  refine ⟨fun h=>hA h,?_⟩
  refine ⟨fun h=>(show (t.r.xs.getD t.k inZ).a.toNat < 8 by have:=hA h;omega),?_⟩
  refine ⟨by kernel_rfl,?_⟩
  refine ⟨fun h9=>?_,fun h9=>?_⟩
  ·have h9:((decide ((t.r.xs.getD t.k inZ).op=9)&&decide ((1:Int)=1))&&(decide (rgG (givF t.g (t.r.xs.getD t.k inZ)) (t.r.xs.getD t.k inZ).a=0) == (t.r.xs.getD t.k inZ).ze))=true:=h9
   rw [Z8t] at h9
   have h10:(t.r.xs.getD t.k inZ).op=9:=ZeV h9
   have h11:=hto h10
   have hnx:nxtF t.g (t.r.xs.getD t.k inZ) t.k=(t.r.xs.getD t.k inZ).to.toNat:=by unfold nxtF;rw [if_pos h9]
   rw [hnx] at hwgo
   refine ⟨⟨t.r,(t.r.xs.getD t.k inZ).to.toNat,givF t.g (t.r.xs.getD t.k inZ)⟩,hwgo,?_,rfl,trivial,⟨_,hd_eq (show (t.r.xs.getD t.k inZ).to=((t.r.xs.getD t.k inZ).to.toNat:Int) by omega)⟩,⟨Z8s _,trivial⟩,rfl⟩
   show t0.r.xs.length - (t.r.xs.getD t.k inZ).to.toNat < t0.r.xs.length - t.k;rw [← hrr];omega
  ·have h9:((decide ((t.r.xs.getD t.k inZ).op=9)&&decide ((1:Int)=1))&&(decide (rgG (givF t.g (t.r.xs.getD t.k inZ)) (t.r.xs.getD t.k inZ).a=0) == (t.r.xs.getD t.k inZ).ze))=false:=h9
   rw [Z8t] at h9
   have hnx:nxtF t.g (t.r.xs.getD t.k inZ) t.k=t.k+1:=by unfold nxtF;rw [if_neg (by rw [h9];decide)]
   rw [hnx] at hwgo
   refine ⟨⟨t.r,(t.k+1),givF t.g (t.r.xs.getD t.k inZ)⟩,hwgo,?_,rfl,trivial,⟨_,hd_eq (show IntKind.i64.wrap ((t.k:Int)+1)=((t.k+1:Nat):Int) by rw [w64 (by omega) (by omega)];rfl)⟩,⟨Z8s _,trivial⟩,rfl⟩
   show t0.r.xs.length - (t.k+1) < t0.r.xs.length - t.k;rw [← hrr];omega
set_option maxHeartbeats 2000000 in
theorem Zct (v n:Nat) (ts:List Thr) (k:Nat) (hk:k < n) (hn:ts.length=n) (hv:v≠0) (hc:CodeOk (ts.getD k thr0).r.xs) (hg:(ts.getD k thr0).g.length=8) (h0:(ts.getD k thr0).k≤(ts.getD k thr0).r.xs.length):Ctr Tryz.prog 48 [.ptr 0 v 0 [⟨false,k,10,0⟩]] [.mem 109 [.arr n Thr thr0 10 Z25 (ts)] v 10] (fun r H=>r=.tup []∧H=[.mem 109 [.arr n Thr thr0 10 Z25 (ts.set k (thrN (ts.getD k thr0)))] v 10]):=by
 refine ZE Zi (fn:=Tryz.f48) Z Z Z Z Z Z ⟨⟨fun _=>rfl,trivial⟩,trivial⟩ (Nat.le_refl _) ?_
 refine WpC.loop Zi (β:=List Thr) (fun b=>∃ t,b=ts.set k t∧ThW (ts.getD k thr0) t) (fun b=>[]) (fun b=>[.mem 109 [.arr n Thr thr0 10 Z25 (b)] v 10]) (fun b=>(ts.getD k thr0).r.xs.length - (b.getD k thr0).k) ts 1237940039285380274899124220 ⟨ts.getD k thr0,(Zgq hk hn).symm,rfl,h0,hg,rfl⟩ ?_ ?_
 ·exact ⟨rfl,trivial,⟨[],rfl⟩,⟨⟨fun _=>rfl,trivial⟩,trivial⟩,rfl⟩
 rintro b ⟨t,hb,hw⟩
 have hbk:b.getD k thr0=t:=by rw [hb];exact Z2W (by omega)
 have hw:ThW (ts.getD k thr0) (b.getD k thr0):=by rw [hbk];exact hw
 have hrr:(b.getD k thr0).r=(ts.getD k thr0).r:=hw.1
 have hg8:(b.getD k thr0).g.length=8:=hw.2.2.1
 have hcc:CodeOk (b.getD k thr0).r.xs:=by rw [hrr];exact hc
 have hk8:=hcc.l8
 refine WpC.dr Zi mixed 0 ?_
 iterate 2 refine ⟨fun _=>⟨rfl,hk⟩,?_⟩
 refine ⟨by kernel_rfl,?_⟩
 have fin:thrT (b.getD k thr0).r.xs (b.getD k thr0).k (b.getD k thr0).g=((b.getD k thr0).k,(b.getD k thr0).g)→(b.getD k thr0)=thrN (ts.getD k thr0):=fun h=>hw.fin (by rw [← hrr];exact h)
 refine ⟨fun h=>?_,fun h=>?_⟩
 rotate_left
 ·have h:decide (((b.getD k thr0).k:Int) < ((b.getD k thr0).r.xs.length:Int))=false:=h
  have h:=of_decide_eq_false h
  have hfin:=fin (Zbs hcc (by omega))
  obtain rfl:b=ts.set k (thrN (ts.getD k thr0)):=(by rw [hb,← hfin,hbk])
  exact ⟨rfl,_,rfl⟩
 ·have h:decide (((b.getD k thr0).k:Int) < ((b.getD k thr0).r.xs.length:Int))=true:=h
  have h:=of_decide_eq_true h
  have hkl:(b.getD k thr0).k < (b.getD k thr0).r.xs.length:=by omega
  have hf:=hcc.fm _ hkl
  have hto:=hcc.to _ hkl
  refine WpC.dr Zi mixed 1 ?_
  iterate 2 refine ⟨fun _=>⟨rfl,hk⟩,?_⟩
  refine ⟨fun _=>(show (0:Int)≤((b.getD k thr0).k:Int)∧((b.getD k thr0).k:Int) < ((b.getD k thr0).r.xs.length:Int) by omega),?_⟩
  refine ⟨by kernel_rfl,?_⟩
  refine Z9 Z Z Z Z Z Z (r:=.i .i64 (opsK (memB ((b.getD k thr0).r.xs.getD (b.getD k thr0).k inZ)) 1)) (fun _=>Z2 (Zcs ((b.getD k thr0).r.xs.getD (b.getD k thr0).k inZ)) (fun _=>rfl) _ [2] Z Z ⟨rfl,trivial⟩ rfl) ?_
  refine ⟨fun h2=>?_,fun h2=>?_⟩
  ·have h2:((decide (0 < opsK (memB ((b.getD k thr0).r.xs.getD (b.getD k thr0).k inZ)) 1)||decide (((b.getD k thr0).r.xs.getD (b.getD k thr0).k inZ).op=7))||decide (((b.getD k thr0).r.xs.getD (b.getD k thr0).k inZ).op=8))=true:=h2
   rw [Z5S] at h2
   have hfin:=fin (Z9z h2)
   obtain rfl:b=ts.set k (thrN (ts.getD k thr0)):=(by rw [hb,← hfin,hbk])
   exact ⟨rfl,_,rfl⟩
  have h2:((decide (0 < opsK (memB ((b.getD k thr0).r.xs.getD (b.getD k thr0).k inZ)) 1)||decide (((b.getD k thr0).r.xs.getD (b.getD k thr0).k inZ).op=7))||decide (((b.getD k thr0).r.xs.getD (b.getD k thr0).k inZ).op=8))=false:=h2
  rw [Z5S] at h2
  have hs:stpB ((b.getD k thr0).r.xs.getD (b.getD k thr0).k inZ)=false:=h2
  have hwgo:=hw.go (by rw [← hrr];exact hcc) (by rw [← hrr];exact hkl) (by rw [← hrr];exact hs)
  rw [← hrr] at hwgo
  refine WpC.dr Zi mixed 6 ?_
  refine Zp Z Z Z Z Z Z Z (fun _=>Zbu ((b.getD k thr0).r.xs.getD (b.getD k thr0).k inZ)) ?_
  refine ⟨fun _=>⟨rfl,hk⟩,?_⟩
  refine Zq Z Z Z Z [3] 4 Z Z (Z9B ((b.getD k thr0).r.xs.getD (b.getD k thr0).k inZ) hf hs (b.getD k thr0).g hg8) Z Z Z Z ⟨rfl,trivial⟩ Z Z ?_
  refine ⟨by kernel_rfl,?_⟩
  refine ⟨fun h=>Z3 h,fun _=>?_⟩
  refine ⟨rfl,?_⟩
  refine ⟨hk,?_⟩
  refine ⟨⟨(b.getD k thr0).r,(b.getD k thr0).k,givF (b.getD k thr0).g ((b.getD k thr0).r.xs.getD (b.getD k thr0).k inZ)⟩,rfl,?_⟩
  have hbl:b.length=n:=by rw [hb,List.length_set];exact hn
  have htb:((b.set k ⟨(b.getD k thr0).r,(b.getD k thr0).k,givF (b.getD k thr0).g ((b.getD k thr0).r.xs.getD (b.getD k thr0).k inZ)⟩).getD k thr0)=⟨(b.getD k thr0).r,(b.getD k thr0).k,givF (b.getD k thr0).g ((b.getD k thr0).r.xs.getD (b.getD k thr0).k inZ)⟩:=Z2W (by omega)
  have hcat:∀ m,((b.set k ⟨(b.getD k thr0).r,(b.getD k thr0).k,givF (b.getD k thr0).g ((b.getD k thr0).r.xs.getD (b.getD k thr0).k inZ)⟩).set k ⟨((b.set k ⟨(b.getD k thr0).r,(b.getD k thr0).k,givF (b.getD k thr0).g ((b.getD k thr0).r.xs.getD (b.getD k thr0).k inZ)⟩).getD k thr0).r,m,((b.set k ⟨(b.getD k thr0).r,(b.getD k thr0).k,givF (b.getD k thr0).g ((b.getD k thr0).r.xs.getD (b.getD k thr0).k inZ)⟩).getD k thr0).g⟩)=ts.set k ⟨((b.set k ⟨(b.getD k thr0).r,(b.getD k thr0).k,givF (b.getD k thr0).g ((b.getD k thr0).r.xs.getD (b.getD k thr0).k inZ)⟩).getD k thr0).r,m,((b.set k ⟨(b.getD k thr0).r,(b.getD k thr0).k,givF (b.getD k thr0).g ((b.getD k thr0).r.xs.getD (b.getD k thr0).k inZ)⟩).getD k thr0).g⟩:=fun m=>ZhC hb _ _
  have hgt:∀ m,(((b.set k ⟨(b.getD k thr0).r,(b.getD k thr0).k,givF (b.getD k thr0).g ((b.getD k thr0).r.xs.getD (b.getD k thr0).k inZ)⟩).set k ⟨((b.set k ⟨(b.getD k thr0).r,(b.getD k thr0).k,givF (b.getD k thr0).g ((b.getD k thr0).r.xs.getD (b.getD k thr0).k inZ)⟩).getD k thr0).r,m,((b.set k ⟨(b.getD k thr0).r,(b.getD k thr0).k,givF (b.getD k thr0).g ((b.getD k thr0).r.xs.getD (b.getD k thr0).k inZ)⟩).getD k thr0).g⟩)).getD k thr0=⟨((b.set k ⟨(b.getD k thr0).r,(b.getD k thr0).k,givF (b.getD k thr0).g ((b.getD k thr0).r.xs.getD (b.getD k thr0).k inZ)⟩).getD k thr0).r,m,((b.set k ⟨(b.getD k thr0).r,(b.getD k thr0).k,givF (b.getD k thr0).g ((b.getD k thr0).r.xs.getD (b.getD k thr0).k inZ)⟩).getD k thr0).g⟩:=fun m=>Z2W (by rw [List.length_set];omega)
  have htk:∀ m,(⟨(b.getD k thr0).r,m,givF (b.getD k thr0).g ((b.getD k thr0).r.xs.getD (b.getD k thr0).k inZ)⟩:Thr)=⟨((b.set k ⟨(b.getD k thr0).r,(b.getD k thr0).k,givF (b.getD k thr0).g ((b.getD k thr0).r.xs.getD (b.getD k thr0).k inZ)⟩).getD k thr0).r,m,((b.set k ⟨(b.getD k thr0).r,(b.getD k thr0).k,givF (b.getD k thr0).g ((b.getD k thr0).r.xs.getD (b.getD k thr0).k inZ)⟩).getD k thr0).g⟩:=fun m=>by rw [htb]
  have hA:((decide (((b.getD k thr0).r.xs.getD (b.getD k thr0).k inZ).op=9)&&decide ((1:Int)=1)) == true)=true→0≤((b.getD k thr0).r.xs.getD (b.getD k thr0).k inZ).a∧((b.getD k thr0).r.xs.getD (b.getD k thr0).k inZ).a < 8:=fun h=>by
   simp only [beq_true,Bool.and_eq_true,decide_eq_true_eq] at h
   exact (fm9 hf h.1).1
  refine WpC.dr Zi mixed 0 ?_
  refine ⟨fun h=>hA h,?_⟩
  refine ⟨fun h=>(show ((b.getD k thr0).r.xs.getD (b.getD k thr0).k inZ).a.toNat < 8 by have:=hA h;omega),?_⟩
  refine ⟨by kernel_rfl,?_⟩
  refine ⟨fun h9=>?_,fun h9=>?_⟩
  ·have h9:((decide (((b.getD k thr0).r.xs.getD (b.getD k thr0).k inZ).op=9)&&decide ((1:Int)=1))&&(decide (rgG (givF (b.getD k thr0).g ((b.getD k thr0).r.xs.getD (b.getD k thr0).k inZ)) ((b.getD k thr0).r.xs.getD (b.getD k thr0).k inZ).a=0) == ((b.getD k thr0).r.xs.getD (b.getD k thr0).k inZ).ze))=true:=h9
   rw [Z8t] at h9
   have h10:((b.getD k thr0).r.xs.getD (b.getD k thr0).k inZ).op=9:=ZeV h9
   have h11:=hto h10
   have hnx:nxtF (b.getD k thr0).g ((b.getD k thr0).r.xs.getD (b.getD k thr0).k inZ) (b.getD k thr0).k=((b.getD k thr0).r.xs.getD (b.getD k thr0).k inZ).to.toNat:=by unfold nxtF;rw [if_pos h9]
   rw [hnx] at hwgo
   rw [htk] at hwgo
   refine ⟨rfl,?_⟩
   refine ⟨hk,?_⟩
   refine ⟨⟨((b.set k ⟨(b.getD k thr0).r,(b.getD k thr0).k,givF (b.getD k thr0).g ((b.getD k thr0).r.xs.getD (b.getD k thr0).k inZ)⟩).getD k thr0).r,((b.getD k thr0).r.xs.getD (b.getD k thr0).k inZ).to.toNat,((b.set k ⟨(b.getD k thr0).r,(b.getD k thr0).k,givF (b.getD k thr0).g ((b.getD k thr0).r.xs.getD (b.getD k thr0).k inZ)⟩).getD k thr0).g⟩,?_,?_⟩
   rotate_left
   refine ⟨((b.set k ⟨(b.getD k thr0).r,(b.getD k thr0).k,givF (b.getD k thr0).g ((b.getD k thr0).r.xs.getD (b.getD k thr0).k inZ)⟩).set k ⟨((b.set k ⟨(b.getD k thr0).r,(b.getD k thr0).k,givF (b.getD k thr0).g ((b.getD k thr0).r.xs.getD (b.getD k thr0).k inZ)⟩).getD k thr0).r,((b.getD k thr0).r.xs.getD (b.getD k thr0).k inZ).to.toNat,((b.set k ⟨(b.getD k thr0).r,(b.getD k thr0).k,givF (b.getD k thr0).g ((b.getD k thr0).r.xs.getD (b.getD k thr0).k inZ)⟩).getD k thr0).g⟩),⟨_,hcat _,hwgo⟩,?_,rfl,trivial,⟨_,rfl⟩,⟨⟨fun _=>rfl,trivial⟩,trivial⟩,rfl⟩
   show (ts.getD k thr0).r.xs.length - (((b.set k ⟨(b.getD k thr0).r,(b.getD k thr0).k,givF (b.getD k thr0).g ((b.getD k thr0).r.xs.getD (b.getD k thr0).k inZ)⟩).set k ⟨((b.set k ⟨(b.getD k thr0).r,(b.getD k thr0).k,givF (b.getD k thr0).g ((b.getD k thr0).r.xs.getD (b.getD k thr0).k inZ)⟩).getD k thr0).r,((b.getD k thr0).r.xs.getD (b.getD k thr0).k inZ).to.toNat,((b.set k ⟨(b.getD k thr0).r,(b.getD k thr0).k,givF (b.getD k thr0).g ((b.getD k thr0).r.xs.getD (b.getD k thr0).k inZ)⟩).getD k thr0).g⟩).getD k thr0).k < (ts.getD k thr0).r.xs.length - (b.getD k thr0).k
   rw [hgt,← hrr]
   show (b.getD k thr0).r.xs.length - ((b.getD k thr0).r.xs.getD (b.getD k thr0).k inZ).to.toNat < _
   omega
   exact Z8u (show ((((b.getD k thr0).r.xs.getD (b.getD k thr0).k inZ).to.toNat:Nat):Int)=((b.getD k thr0).r.xs.getD (b.getD k thr0).k inZ).to by omega)
  ·have h9:((decide (((b.getD k thr0).r.xs.getD (b.getD k thr0).k inZ).op=9)&&decide ((1:Int)=1))&&(decide (rgG (givF (b.getD k thr0).g ((b.getD k thr0).r.xs.getD (b.getD k thr0).k inZ)) ((b.getD k thr0).r.xs.getD (b.getD k thr0).k inZ).a=0) == ((b.getD k thr0).r.xs.getD (b.getD k thr0).k inZ).ze))=false:=h9
   rw [Z8t] at h9
   have hnx:nxtF (b.getD k thr0).g ((b.getD k thr0).r.xs.getD (b.getD k thr0).k inZ) (b.getD k thr0).k=(b.getD k thr0).k+1:=by unfold nxtF;rw [if_neg (by rw [h9];decide)]
   rw [hnx] at hwgo
   rw [htk] at hwgo
   refine ⟨fun _=>⟨rfl,hk⟩,?_⟩
   refine ⟨rfl,?_⟩
   refine ⟨hk,?_⟩
   refine ⟨⟨((b.set k ⟨(b.getD k thr0).r,(b.getD k thr0).k,givF (b.getD k thr0).g ((b.getD k thr0).r.xs.getD (b.getD k thr0).k inZ)⟩).getD k thr0).r,((b.getD k thr0).k+1),((b.set k ⟨(b.getD k thr0).r,(b.getD k thr0).k,givF (b.getD k thr0).g ((b.getD k thr0).r.xs.getD (b.getD k thr0).k inZ)⟩).getD k thr0).g⟩,?_,?_⟩
   rotate_left
   refine ⟨((b.set k ⟨(b.getD k thr0).r,(b.getD k thr0).k,givF (b.getD k thr0).g ((b.getD k thr0).r.xs.getD (b.getD k thr0).k inZ)⟩).set k ⟨((b.set k ⟨(b.getD k thr0).r,(b.getD k thr0).k,givF (b.getD k thr0).g ((b.getD k thr0).r.xs.getD (b.getD k thr0).k inZ)⟩).getD k thr0).r,((b.getD k thr0).k+1),((b.set k ⟨(b.getD k thr0).r,(b.getD k thr0).k,givF (b.getD k thr0).g ((b.getD k thr0).r.xs.getD (b.getD k thr0).k inZ)⟩).getD k thr0).g⟩),⟨_,hcat _,hwgo⟩,?_,rfl,trivial,⟨_,rfl⟩,⟨⟨fun _=>rfl,trivial⟩,trivial⟩,rfl⟩
   show (ts.getD k thr0).r.xs.length - (((b.set k ⟨(b.getD k thr0).r,(b.getD k thr0).k,givF (b.getD k thr0).g ((b.getD k thr0).r.xs.getD (b.getD k thr0).k inZ)⟩).set k ⟨((b.set k ⟨(b.getD k thr0).r,(b.getD k thr0).k,givF (b.getD k thr0).g ((b.getD k thr0).r.xs.getD (b.getD k thr0).k inZ)⟩).getD k thr0).r,((b.getD k thr0).k+1),((b.set k ⟨(b.getD k thr0).r,(b.getD k thr0).k,givF (b.getD k thr0).g ((b.getD k thr0).r.xs.getD (b.getD k thr0).k inZ)⟩).getD k thr0).g⟩).getD k thr0).k < (ts.getD k thr0).r.xs.length - (b.getD k thr0).k
   rw [hgt,← hrr]
   show (b.getD k thr0).r.xs.length - ((b.getD k thr0).k+1) < _
   omega
   exact Z8u (show (((b.getD k thr0).k+1:Nat):Int)=IntKind.i64.wrap ((((b.set k ⟨(b.getD k thr0).r,(b.getD k thr0).k,givF (b.getD k thr0).g ((b.getD k thr0).r.xs.getD (b.getD k thr0).k inZ)⟩).getD k thr0).k:Int)+1) by rw [htb];show _=IntKind.i64.wrap (((b.getD k thr0).k:Int)+1);rw [w64 (by omega) (by omega)];rfl)
end SX
end Go.Proofs.YtdddpbmcoimgdaaGreatDoor
