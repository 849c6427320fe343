/- A part of SX: symbolic and concrete runs of the program, with contracts of functions; lemmas without further conditions. Shortened by a tool (mini.py). -/
import Derived.Test.YtdddpbmcoimgdaaGreatDoorWAE
import Derived.Test.YtdddpbmcoimgdaaGreatDoorWBL
import Derived.Test.YtdddpbmcoimgdaaGreatDoorWBM
import Derived.Test.YtdddpbmcoimgdaaGreatDoorWAA
set_option linter.unusedVariables false
set_option linter.unusedSimpArgs false
set_option linter.unusedSectionVars false
set_option maxRecDepth 100000
namespace Go.Proofs.YtdddpbmcoimgdaaGreatDoor
namespace SX
open Go Go.Proofs
def cpB1 (t t2:Tst) (m v:Nat) (ts:List Thr):List SB:=[.mem 28 (tsenc t) 1 0,.mem 28 (tsenc t) 1 0,.mem 28 (tsenc t2) 1 0,.mem 28 (tsenc t2) 1 0,.gone m,.gone 1,.gone 1,.mem 28 (tsenc t2) 1 0,.mem 106 [.sl 9 v 0 1 none 0] 1 0,.mem 109 [.arr 1 Thr thr0 10 Z1Q ts] v 10]
def cpD1 (t t2:Tst) (m v:Nat) (ts:List Thr) (j:Nat) (u0:Thr) (p0:List Int):List SB:=cpB1 t t2 m v ts++[.mem 37 (([.ptr 11 1 0 []]:List SV).take j) j 1]++(rfU 12 u0 p0).take (2 * j)
def cpS1 (t t2:Tst) (m v:Nat) (ts:List Thr) (u0:Thr) (p0:List Int):List SB:=cpB1 t t2 m v ts++[.mem 37 [.ptr 11 1 0 []] 1 1]++rfU 12 u0 p0
theorem Z6n {t t2:Tst} {m v:Nat} {ts:List Thr} {u0:Thr} {p0:List Int}:BndH 13 (cpS1 t t2 m v ts u0 p0):=⟨Zq _,Zq _,Zq _,Zq _,trivial,trivial,trivial,Zq _,⟨rfl,trivial⟩,⟨fun _=>rfl,trivial⟩,⟨rfl,trivial⟩,⟨rfl,rfl,rfl,rfl,trivial⟩,⟨rfl,trivial⟩,trivial⟩
set_option maxHeartbeats 4000000 in
theorem plays1 (t:Tst) (hw:TsW t) (hn:t.code.length=1) (sc:List Act) (sa:Option Addr) (scap:Nat):CtrV Tryz.prog 3 [.agg (tsenc t),.imm Act act0 2 aenc sc sa scap] (.b true):=by
 refine Z8 Zh (fn:=Tryz.f3) Z Z Z Z Z Z ?_
 refine Z4 Z Z Z Z Z Z Z (fun _=>Z52) ?_
 refine ⟨fun h=>Z3 h,fun _=>?_⟩
 refine Z6 Z Z Z Z Z Z (r:=.i .i64 (chkT t)) (fun _=>Z0 (Z6m t hw) (fun _=>rfl) _ [] Z Z trivial rfl) ?_
 refine ⟨fun _=>rfl,fun h=>?_⟩
 have h:(!decide (chkT t=0)||decide ((100:Int) < (sc.length:Int)))=false:=h
 simp only [Bool.or_eq_false_iff,Bool.not_eq_false',decide_eq_true_eq,decide_eq_false_iff_not] at h
 have hR:=Z5c h.1
 have hsc:sc.length≤100:=by omega
 have hu:=hR.u
 have hr8:∀ k,k < 3→(t.regs.getD k tz8).length=8:=fun k hk=>hw.r8 hk
 refine ZD Z Z Z Z [] 6 Z Z Z (Zc8 t hu.l1 (by omega) (fun k hk=>Nat.le_trans (hu.sh k hk) (by decide)) (ZdX hR.cond)) Z Z Z Z trivial rfl (fun r H' hk=>?_) ?_
 ·obtain ⟨qs,ca,cc,da,dc,_,rfl⟩:=hk
  exact ⟨Nat.zero_le _,Nat.le_refl _⟩
 rintro r H' ⟨qs,ca,cc,da,dc,⟨rfl,hsm,hcc⟩,rfl⟩
 have hqn:(twT t qs ca cc da dc).code.length=1:=hsm.n.trans hn
 have hqx:∀ k,k < 1→(qs.getD k ir0).xs=(t.code.getD k ir0).xs:=fun k hk=>(hsm.x k (by omega)).1
 have hnc:=Z6j (twT t qs ca cc da dc) (hsm.uok hu) (fun k hk=>(hsm.x k (by rw [← hsm.n];exact hk)).2) hw.regs.1 hr8
 simp only [hqn] at hnc
 refine ZD Z Z Z Z [] 3 Z Z Z hnc Z Z Z Z trivial rfl (fun r H' hk=>?_) ?_
 ·obtain ⟨ts,_,rfl⟩:=hk
  exact ⟨Nat.zero_le _,Nat.le_refl _⟩
 rintro r H' ⟨ts,⟨rfl,hfr⟩,rfl⟩
 have hok:∀ k,k < 1→ThOk ⟨t.code.getD k ir0,0,t.regs.getD k tz8⟩:=fun k hk=>⟨hu.code (by omega),hr8 k (by omega),Nat.zero_le _⟩
 have hal:∀ k,k < 1→∀ p:List Int,p.length≤(thrN ⟨t.code.getD k ir0,0,t.regs.getD k tz8⟩).k→AlkT (ts.getD k thr0) (thrN ⟨t.code.getD k ir0,0,t.regs.getD k tz8⟩) p:=fun k hk p hp=>by
  obtain ⟨ad,c,he⟩:=hfr.2 k hk
  have he:ts.getD k thr0=thrN ⟨⟨(qs.getD k ir0).xs,some ad,c⟩,0,t.regs.getD k tz8⟩:=he
  rw [hqx k hk] at he
  exact Z6k he (hok k hk) hp
 refine WpC.shift (Shift.row (d:=6) rfl 0 37 [] (fun E=>rfl) (fun m V=>trivial)) ?_
 refine WpC.loop Zh (β:=Nat×List Int) (fun b=>b.1≤1∧b.2.length≤(thrN ⟨t.code.getD 0 ir0,0,t.regs.getD 0 tz8⟩).k) (fun b=>[(7,.i .i64 b.1),(6,.sl 10 b.1 0 b.1 none 0)]) (fun b=>cpD1 t (twT t qs ca cc da dc) t.code.length 1 ts b.1 (thrN ⟨t.code.getD 0 ir0,0,t.regs.getD 0 tz8⟩) (b.2)) (fun b=>1 - b.1) (0,[]) 562949919867328 ⟨Nat.zero_le _,Nat.zero_le _⟩ ?_ ?_
 ·exact ⟨rfl,⟨⟨rfl,rfl,rfl⟩,⟨rfl,rfl,rfl⟩,trivial⟩,⟨[],rfl⟩,⟨Zq _,Zq _,Zq _,Zq _,trivial,trivial,trivial,Zq _,⟨rfl,trivial⟩,⟨fun _=>rfl,trivial⟩,trivial,trivial⟩,rfl⟩
 rintro ⟨j,p0⟩ ⟨hj,hp0⟩
 simp only at hj hp0
 rcases (show j=0∨j=1 by omega) with rfl | rfl
 ·refine ⟨fun _=>?_,fun h=>absurd (of_decide_eq_false h) (by show ¬ ¬ ((0:Nat):Int) < (t.code.length:Int);omega)⟩
  refine WpC.dr Zh mixed 1 ?_
  refine ⟨fun _=>(show (0:Int)≤((0:Nat):Int)∧((0:Nat):Int) < (t.code.length:Int) by omega),?_⟩
  refine ⟨fun _=>(show (0:Int)≤((0:Nat):Int)∧((0:Nat):Int) < 3 by decide),?_⟩
  refine ⟨fun _=>(show 0 < 3 by decide),?_⟩
  refine ⟨by kernel_rfl,?_⟩
  refine OpC.shift (Z1E (i:=11) (pre:=[.imm In inZ 17 ienc (t.code.getD 0 ir0).xs (t.code.getD 0 ir0).a (t.code.getD 0 ir0).cap,.ints .i64 8 (t.regs.getD 0 tz8),.i .i64 0]) (post:=[]) rfl 0 3 [.ints .i64 0 []] (fun E=>rfl) (fun m V=>⟨⟨rfl,rfl⟩,trivial⟩) rfl) ?_
  refine ZD rfl rfl rfl rfl [11,12] 0 rfl rfl rfl (Z1u ⟨t.code.getD 0 ir0,0,t.regs.getD 0 tz8⟩ [] (hok 0 (by decide)) (Nat.le_refl _)) rfl rfl rfl rfl ⟨rfl,rfl,trivial⟩ rfl (fun r H' hk=>by obtain ⟨p,_,rfl⟩:=hk;exact ⟨Nat.le_refl _,Nat.le_refl _⟩) ?_
  rintro r H' ⟨p,⟨rfl,hp⟩,rfl⟩
  refine OpC.yld 0 rfl (Zx Zh Z Z Z Z Z Z Z Z Z (SrcA.sl Z Z Z Z (by decide) rfl) (Joins.app _ _) (by decide) (show 0+1≤maxLen by decide) (show (0+1) * 8≤140737488355328 by decide)) (fun d hd=>by cases hd;rfl) ?_
  refine ⟨(1,p),⟨(show 0+1≤1 by decide),hp⟩,by show 1 - (0+1) < 1 - 0;decide,rfl,⟨⟨rfl,rfl,rfl⟩,⟨rfl,rfl,rfl⟩,trivial⟩,⟨_,rfl⟩,⟨Zq _,Zq _,Zq _,Zq _,trivial,trivial,trivial,Zq _,⟨rfl,trivial⟩,⟨fun _=>rfl,trivial⟩,⟨rfl,trivial⟩,⟨rfl,rfl,rfl,rfl,trivial⟩,⟨rfl,trivial⟩,trivial⟩,rfl⟩
 refine ⟨fun h=>?_,fun _=>?_⟩
 ·have h:decide (((1:Nat):Int) < (t.code.length:Int))=true:=h
  have h:=of_decide_eq_true h
  omega
 have hts:∀ k,k < 1→ThOk (ts.getD k thr0):=fun k hk=>by
  obtain ⟨ad,c,he⟩:=hfr.2 k hk
  rw [he]
  have h1:=(hsm.uok hu).code (show k < qs.length by have:=hqn;simp only [twT] at this;omega)
  exact ThOk.run ⟨h1,hr8 k (by omega),Nat.zero_le _⟩
 have hA0:=hal 0 (by decide) p0 hp0
 have hts1:=hfr.1
 clear hfr hal hnc
 refine Z6 Z Z Z Z Z Z (r:=.b true) (fun _=>Z0 (Z7x 1 ts (thrN ⟨t.code.getD 0 ir0,0,t.regs.getD 0 tz8⟩) p0 (by decide) hts hA0) (fun _=>rfl) _ [8,9,10,11,12] Z Z ⟨rfl,rfl,rfl,rfl,rfl,trivial⟩ rfl) ?_
 refine ⟨fun h=>Z3 h,fun _=>?_⟩
 refine WpC.loop Zh (β:=Nat×List Thr×Thr×List Int) (fun b=>b.1≤sc.length∧b.2.1.length=1∧(∀ k,k < 1→ThOk (b.2.1.getD k thr0))∧AlkT (b.2.1.getD 0 thr0) b.2.2.1 (b.2.2.2)) (fun b=>[(9,.i .i64 b.1)]) (fun b=>cpS1 t (twT t qs ca cc da dc) t.code.length 1 b.2.1 (b.2.2.1) (b.2.2.2)) (fun b=>sc.length - b.1) (0,ts,(thrN ⟨t.code.getD 0 ir0,0,t.regs.getD 0 tz8⟩),p0) 1329227995784915872894799861025607184 ⟨Nat.zero_le _,hts1,hts,hA0⟩ ?_ ?_
 ·exact ⟨rfl,⟨⟨rfl,rfl,rfl⟩,trivial⟩,⟨_,rfl⟩,Z6n,rfl⟩
 clear hA0 hts hts1
 rintro ⟨i,ts,u0,p0⟩ ⟨hi,hn2,hts,hA0⟩
 simp only at hi hn2 hts hA0
 refine ⟨fun h=>?_,fun _=>rfl⟩
 have h:decide ((i:Int) < (sc.length:Int))=true:=h
 have h:=of_decide_eq_true h
 have hi2:i < sc.length:=by omega
 refine ⟨fun _=>(show (0:Int)≤(i:Int)∧(i:Int) < (sc.length:Int) by omega),?_⟩
 by_cases hout:(sc.getD i act0).th < 0∨(1:Int)≤(sc.getD i act0).th
 ·have hoB:(decide (0≤(sc.getD i act0).th)&&decide ((sc.getD i act0).th < ((1:Nat):Int)))=false:=by
   simp only [Bool.and_eq_false_iff,decide_eq_false_iff_not];omega
  have hx:∀ h:((decide (0≤(sc.getD i act0).th)&&decide ((sc.getD i act0).th < ((1:Nat):Int))) == true)=true,False:=fun h=>by rw [hoB] at h;cases h
  have hb:((decide (0≤(sc.getD i act0).th)&&decide ((sc.getD i act0).th < ((1:Nat):Int))) == true)=false:=by rw [hoB];rfl
  refine WpC.dr Zc mixed 0 ?_
  refine ⟨fun h=>(hx h).elim,?_⟩
  refine Z23 rfl hb (.ptr 11 1 0 []) ?_
  refine ⟨fun h=>(hx h).elim,?_⟩
  refine Z23 rfl hb (.ptr 11 1 0 []) ?_
  refine ⟨by kernel_rfl,?_⟩
  refine Zs Z Z Z Z [8,9] rfl (Z85 1 1 ts (sc.getD i act0).th (sc.getD i act0).old hout (by decide)) Z Z Z Z ⟨rfl,rfl,trivial⟩ rfl ?_
  refine ⟨fun h=>?_,fun _=>?_⟩
  ·have h:(false != ((decide (0≤(sc.getD i act0).th)&&decide ((sc.getD i act0).th < ((1:Nat):Int)))&&decide ((u0.k:Int) < (u0.r.xs.length:Int))))=true:=h
   rw [hoB] at h;cases h
  refine ⟨fun h=>?_,fun _=>?_⟩
  ·have h:((decide (0≤(sc.getD i act0).th)&&decide ((sc.getD i act0).th < ((1:Nat):Int)))&&decide ((u0.k:Int) < (u0.r.xs.length:Int)))=true:=h
   rw [hoB] at h;cases h
  refine Z6 Z Z Z Z Z Z (r:=.b true) (fun _=>Z0 (Z7x 1 ts u0 p0 (by decide) hts hA0) (fun _=>rfl) _ [8,9,10,11,12] Z Z ⟨rfl,rfl,rfl,rfl,rfl,trivial⟩ rfl) ?_
  refine ⟨fun h=>Z3 h,fun _=>?_⟩
  refine ⟨(i+1,ts,u0,p0),⟨hi2,hn2,hts,hA0⟩,by show sc.length - (i+1) < sc.length - i;omega,rfl,⟨⟨ZI hi2 (by omega),rfl,rfl⟩,trivial⟩,⟨_,rfl⟩,Z6n,rfl⟩
 ·have hth:(sc.getD i act0).th=0:=by omega
  have hs3:=Z2O u0
  rw [hA0.std] at hs3
  refine WpC.shift (Shift.recell 13 [.i .i64 0,.i .i64 (sc.getD i act0).old] rfl (fun E=>by
   show cellsL E [.i .i64 0,.i .i64 (sc.getD i act0).old]=cellsL E [.i .i64 (sc.getD i act0).th,.i .i64 (sc.getD i act0).old]
   rw [hth]) (fun m V _=>⟨⟨rfl,trivial⟩,⟨rfl,trivial⟩,trivial⟩) rfl) ?_
  refine WpC.dr Zh mixed 0 ?_
  refine ⟨fun _=>(show (0:Int)≤0∧(0:Int) < ((1:Nat):Int) by decide),?_⟩
  refine ⟨fun _=>rfl,?_⟩
  refine ⟨fun _=>(show (0:Int)≤0∧(0:Int) < ((1:Nat):Int) by decide),?_⟩
  refine ⟨fun _=>rfl,?_⟩
  refine ⟨by kernel_rfl,?_⟩
  cases hs:stdB (ts.getD 0 thr0) with
  | false=>
    rw [hs] at hs3
    refine Zs Z Z Z Z [8,9] rfl (Z3F 1 1 ts 0 (sc.getD i act0).old (by decide) (by decide) hs) Z Z Z Z ⟨rfl,rfl,trivial⟩ rfl ?_
    refine ⟨fun h=>?_,fun _=>?_⟩
    ·have h:(false != ((decide ((0:Int)≤0)&&decide ((0:Int) < ((1:Nat):Int)))&&decide ((u0.k:Int) < (u0.r.xs.length:Int))))=true:=h
     rw [hs3] at h;cases h
    refine ⟨fun h=>?_,fun _=>?_⟩
    ·have h:((decide ((0:Int)≤0)&&decide ((0:Int) < ((1:Nat):Int)))&&decide ((u0.k:Int) < (u0.r.xs.length:Int)))=true:=h
     rw [hs3] at h;cases h
    refine Z6 Z Z Z Z Z Z (r:=.b true) (fun _=>Z0 (Z7x 1 ts u0 p0 (by decide) hts hA0) (fun _=>rfl) _ [8,9,10,11,12] Z Z ⟨rfl,rfl,rfl,rfl,rfl,trivial⟩ rfl) ?_
    refine ⟨fun h=>Z3 h,fun _=>?_⟩
    exact ⟨(i+1,ts,u0,p0),⟨hi2,hn2,hts,hA0⟩,by show sc.length - (i+1) < sc.length - i;omega,rfl,⟨⟨ZI hi2 (by omega),rfl,rfl⟩,trivial⟩,⟨_,rfl⟩,Z6n,rfl⟩
  | true=>
    rw [hs] at hs3
    refine Zs Z Z Z Z [8,9] rfl (Z3G 1 1 ts 0 (sc.getD i act0).old (by decide) hn2 (by decide) (hts 0 (by decide)) hs) Z Z Z Z ⟨rfl,rfl,trivial⟩ rfl ?_
    refine ⟨fun h=>?_,fun _=>?_⟩
    ·have h:(true != ((decide ((0:Int)≤0)&&decide ((0:Int) < ((1:Nat):Int)))&&decide ((u0.k:Int) < (u0.r.xs.length:Int))))=true:=h
     rw [hs3] at h;cases h
    refine ⟨fun _=>?_,fun h=>?_⟩
    rotate_left
    ·have h:((decide ((0:Int)≤0)&&decide ((0:Int) < ((1:Nat):Int)))&&decide ((u0.k:Int) < (u0.r.xs.length:Int)))=false:=h
     rw [hs3] at h;cases h
    have hst:=hA0.stepOk (old:=(sc.getD i act0).old) hs
    have hsu:stdB u0=true:=by rw [hA0.std];exact hs
    refine WpC.dr Zh mixed 0 ?_
    refine ⟨fun _=>(show (0:Int)≤0∧(0:Int) < ((1:Nat):Int) by decide),?_⟩
    refine ⟨fun _=>rfl,?_⟩
    refine Zp Z Z Z Z [11,12] 0 Z Z (Z4u u0 p0 (sc.getD i act0).old hA0.ok hA0.p hsu (hA0.st hsu)) Z Z Z Z ⟨rfl,rfl,trivial⟩ Z Z ?_
    refine ⟨by kernel_rfl,?_⟩
    refine ⟨fun _=>(show (0:Int)≤0∧(0:Int) < ((1:Nat):Int) by decide),?_⟩
    refine ⟨fun _=>rfl,?_⟩
    refine ZD rfl rfl rfl rfl [11,12] 0 rfl rfl rfl (Z1u _ (p0++[(u0.k:Int)]) hst.1 hst.2) rfl rfl rfl rfl ⟨rfl,rfl,trivial⟩ rfl (fun r H' hk=>by obtain ⟨p,_,rfl⟩:=hk;exact ⟨Nat.le_refl _,Nat.le_refl _⟩) ?_
    rintro r H' ⟨p,⟨rfl,hp⟩,rfl⟩
    have hN:pasN (ts.getD 0 thr0) (sc.getD i act0).old=pasN (ts.getD 0 thr0) (sc.getD i act0).old:=rfl
    have hts':∀ k,k < 1→ThOk ((ts.set 0 (pasN (ts.getD 0 thr0) (sc.getD i act0).old)).getD k thr0):=fun k hk=>by
     by_cases hkk:0=k
     ·rw [← hkk,ZW (by omega)];exact (hts 0 (by decide)).pas hs _
     ·rw [ZR hkk];exact hts k hk
    have hB0:AlkT ((ts.set 0 (pasN (ts.getD 0 thr0) (sc.getD i act0).old)).getD 0 thr0) (thrN ⟨u0.r,u0.k+1,redF u0.g (u0.r.xs.getD u0.k inZ) (sc.getD i act0).old⟩) p:=by rw [ZW (by omega)];exact hA0.pas hs hp
    refine Z6 Z Z Z Z Z Z (r:=.b true) (fun _=>Z0 (Z7x 1 (ts.set 0 (pasN (ts.getD 0 thr0) (sc.getD i act0).old)) (thrN ⟨u0.r,u0.k+1,redF u0.g (u0.r.xs.getD u0.k inZ) (sc.getD i act0).old⟩) p (by decide) hts' hB0) (fun _=>rfl) _ [8,9,10,11,12] Z Z ⟨rfl,rfl,rfl,rfl,rfl,trivial⟩ rfl) ?_
    refine ⟨fun h=>Z3 h,fun _=>?_⟩
    exact ⟨(i+1,ts.set 0 (pasN (ts.getD 0 thr0) (sc.getD i act0).old),(thrN ⟨u0.r,u0.k+1,redF u0.g (u0.r.xs.getD u0.k inZ) (sc.getD i act0).old⟩),p),⟨hi2,by rw [List.length_set];exact hn2,hts',hB0⟩,by show sc.length - (i+1) < sc.length - i;omega,rfl,⟨⟨ZI hi2 (by omega),rfl,rfl⟩,trivial⟩,⟨_,rfl⟩,Z6n,rfl⟩
end SX
end Go.Proofs.YtdddpbmcoimgdaaGreatDoor
