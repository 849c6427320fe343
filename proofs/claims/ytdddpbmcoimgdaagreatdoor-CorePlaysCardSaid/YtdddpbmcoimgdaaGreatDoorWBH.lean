/- A part of SX: symbolic and concrete runs of the program, with contracts of functions; lemmas without further conditions. Shortened by a tool (mini.py). -/
import Derived.Test.YtdddpbmcoimgdaaGreatDoorWBF
import Derived.Test.YtdddpbmcoimgdaaGreatDoorWAA
set_option linter.unusedVariables false
set_option linter.unusedSimpArgs false
set_option linter.unusedSectionVars false
set_option maxRecDepth 100000
namespace Go.Proofs.YtdddpbmcoimgdaaGreatDoor
namespace SX
open Go Go.Proofs
def lkH1 (v:Nat) (ts:List Thr) (a0:Option Addr) (c0:Nat) (p0:List Int):List SB:=ZC v 1 ts++[.mem 37 [.ptr 3 1 0 []] 1 1]++rfB 4 (tg ts 0) a0 c0 p0
theorem Z5H {v:Nat} {ts:List Thr} {a0:Option Addr} {c0:Nat} {p0:List Int}:BndH 5 (lkH1 v ts a0 c0 p0):=⟨⟨rfl,trivial⟩,⟨fun _=>rfl,trivial⟩,⟨rfl,trivial⟩,⟨rfl,rfl,rfl,rfl,trivial⟩,⟨rfl,trivial⟩,trivial⟩
set_option maxHeartbeats 4000000 in
theorem looks1 (v:Nat) (ts:List Thr) (a0:Option Addr) (c0:Nat) (p0:List Int) (hv:v≠0) (ht:∀ k,k < 1→ThOk (tg ts k)):Ctr Tryz.prog 14 [.ptr 0 1 0 [],.sl 2 1 0 1 none 0] (lkH1 v ts a0 c0 p0) (fun r H=>r=.b true∧H=(lkH1 v ts a0 c0 p0)):=by
 refine Za Zh (fn:=Tryz.f14) Z Z Z Z Z Z Z5H ?_
 refine Z6 Z Z Z Z Z Z (r:=.i .i64 ((1:Nat):Int)) (fun _=>Z0 (Z6h v 1 ts hv) (fun _=>rfl) _ [0,1] Z Z ⟨rfl,rfl,trivial⟩ rfl) ?_
 refine ⟨fun h=>Z3 h,fun _=>?_⟩
 refine WpC.loop Zh (β:=Nat) (fun j=>j≤3) (fun j=>[(5,.i .i64 ((j:Int) - 1))]) (fun _=>(lkH1 v ts a0 c0 p0)) (fun j=>3 - j) 0 56539106072908298546665520023773392506479484700019806659891398441361801200 (Nat.zero_le _) ?_ ?_
 ·exact ⟨rfl,⟨⟨rfl,rfl,rfl⟩,trivial⟩,⟨[],rfl⟩,Z5H,rfl⟩
 intro j hj
 rcases (show j=0∨j=1∨j=2∨j=3 by omega) with rfl | rfl | rfl | rfl
 ·refine ⟨fun _=>?_,fun h=>Zl h⟩
  refine Z6 Z Z Z Z Z Z (r:=.tup [.agg (ienc inZ),.b false]) (fun _=>Z0 (Z24 v 1 ts (-1) (.inl (by decide)) hv) (fun _=>rfl) _ [0,1] Z Z ⟨rfl,rfl,trivial⟩ rfl) ?_
  refine Z6 Z Z Z Z Z Z (r:=sptN) (fun _=>Z0 (Z3E v 1 ts (-1) (.inl (by decide)) hv) (fun _=>rfl) _ [0,1] Z Z ⟨rfl,rfl,trivial⟩ rfl) ?_
  refine ⟨fun _=>?_,fun h=>Zl h⟩
  refine Z6 Z Z Z Z Z Z (r:=.i .i64 0) (fun _=>Z0 (Z5F v 1 ts (-1) (.inl (by decide)) hv) (fun _=>rfl) _ [0,1] Z Z ⟨rfl,rfl,trivial⟩ rfl) ?_
  refine Z6 Z Z Z Z Z Z (r:=.i .i64 0) (fun _=>Z0 (Z4s v 1 ts (-1) 0 (.inl (by decide)) hv) (fun _=>rfl) _ [0,1] Z Z ⟨rfl,rfl,trivial⟩ rfl) ?_
  refine ⟨fun h=>Z3 h,fun _=>?_⟩
  refine ⟨1,by decide,by decide,rfl,⟨⟨rfl,rfl,rfl⟩,trivial⟩,⟨_,rfl⟩,Z5H,rfl⟩
 ·refine ⟨fun _=>?_,fun h=>Zl h⟩
  have hc:=(ht 0 (by decide)).c
  have hk8:=hc.l8
  have hff:=fun h=>hc.fm (tg ts 0).k h
  have hrdy:=Z2w v 1 ts 0 (by decide) hv
  have hspt:=Z3H v 1 ts 0 (by decide) hv
  have hat:=Z7r v 1 ts 0 (by decide) hv
  have hreg:=fun r=>Z4Q v 1 ts 0 r (by decide) hv
  refine Z6 Z Z Z Z Z Z (r:=rdyV (tg ts 0)) (fun _=>Z0 hrdy (fun _=>rfl) _ [0,1] Z Z ⟨rfl,rfl,trivial⟩ rfl) ?_
  refine Z6 Z Z Z Z Z Z (r:=sptU (tg ts 0)) (fun _=>Z0 hspt (fun _=>rfl) _ [0,1] Z Z ⟨rfl,rfl,trivial⟩ rfl) ?_
  refine ⟨fun h=>Z3 h,fun _=>?_⟩
  refine ⟨fun _=>by decide,?_⟩
  refine ⟨fun _=>rfl,?_⟩
  refine WpC.dr Zh mixed 0 ?_
  refine ⟨by kernel_rfl,?_⟩
  refine WpC.dr Zh mixed 0 ?_
  refine Z1 [0,1] Z Z Z Z Z Z (r:=.i .i64 (tg ts 0).k) (fun _ H1 hH=>Z0 hat (fun _=>rfl) _ [0,1] Z Z ⟨hH 0 (by simp),hH 1 (by simp),trivial⟩ rfl) ?_
  have hidx:decide (((tg ts 0).k:Int) < ((tg ts 0).r.xs.length:Int))=true→(0:Int)≤((tg ts 0).k:Int)∧((tg ts 0).k:Int) < ((tg ts 0).r.xs.length:Int):=fun h=>by have:=of_decide_eq_true h;omega
  have hkk:decide (((tg ts 0).k:Int) < ((tg ts 0).r.xs.length:Int))=true→(tg ts 0).k < (tg ts 0).r.xs.length:=fun h=>by have:=of_decide_eq_true h;omega
  have hwhere:=fun (h:decide (((tg ts 0).k:Int) < ((tg ts 0).r.xs.length:Int))=true) (h2:((decide ((tI (tg ts 0)).op=4)||decide ((tI (tg ts 0)).op=5))||decide ((tI (tg ts 0)).op=6))=true)=>Z2b (ofT (tg ts 0) a0 c0) p0 (tI (tg ts 0)) (Z4R (hff (hkk h)) (by rw [← Z2k];exact h2))
  have hdat:=fun (h:decide (((tg ts 0).k:Int) < ((tg ts 0).r.xs.length:Int))=true) (h2:(tI (tg ts 0)).op=5∨(tI (tg ts 0)).op=6)=>Z2x (ofT (tg ts 0) a0 c0) p0 (tI (tg ts 0)) (wr_a (hff (hkk h)) h2)
  have hlk1:=Z7t (tg ts 0) (tI (tg ts 0))
  have hlk3:=Z7v (tg ts 0)
  have hlk4:=Z7w (tg ts 0) hff
  refine ⟨fun h=>hidx (g0 h),?_⟩
  refine ⟨by kernel_rfl,?_⟩
  refine ⟨fun h=>(hlk1 h).elim,fun _=>?_⟩
  refine WpC.loop Zh (β:=Nat) (fun r=>r≤10) (fun r=>[(13,.i .i64 ((r:Int) - 1))]) (fun _=>((lkH1 v ts a0 c0 p0)++[.mem 56 (ienc (if stdB (tg ts 0)=true then (tI (tg ts 0)) else inZ)) 1 0,.mem 47 [.i .i64 (Zn (tg ts 0)),.i .i64 (Zo (tg ts 0))] 1 0])) (fun r=>10 - r) 0 696898121300582500058507083044378762043408 (Nat.zero_le _) ?_ ?_
  ·exact ⟨rfl,⟨⟨rfl,rfl,rfl⟩,trivial⟩,⟨_,rfl⟩,⟨⟨rfl,trivial⟩,⟨fun _=>rfl,trivial⟩,⟨rfl,trivial⟩,⟨rfl,rfl,rfl,rfl,trivial⟩,⟨rfl,trivial⟩,⟨rfl,rfl,rfl,rfl,rfl,rfl,rfl,rfl,rfl,rfl,rfl,rfl,rfl,rfl,rfl,rfl,rfl,trivial⟩,⟨rfl,rfl,trivial⟩,trivial⟩,rfl⟩
  intro r hr
  refine ⟨fun h=>?_,fun h=>?_⟩
  ·have h:decide ((r:Int) - 1≤8)=true:=h
   have h:=of_decide_eq_true h
   have hr2:r < 10:=by omega
   refine ⟨fun h2=>?_,fun h2=>?_⟩
   ·have h2:(decide (0≤(r:Int) - 1)&&decide ((r:Int) - 1 < 8))=true:=h2
    simp only [Bool.and_eq_true,decide_eq_true_eq] at h2
    have hl2:=Z7u (g:=(tg ts 0).g) h2.1 h2.2
    refine ⟨fun _=>h2,?_⟩
    refine ⟨fun _=>(show ((r:Int) - 1).toNat < 8 by omega),?_⟩
    refine Z6 Z Z Z Z Z Z (r:=.i .i64 (regV (tg ts 0).g ((r:Int) - 1))) (fun _=>Z0 (hreg ((r:Int) - 1)) (fun _=>rfl) _ [0,1] Z Z ⟨rfl,rfl,trivial⟩ rfl) ?_
    refine ⟨fun h3=>?_,fun _=>?_⟩
    ·have h3:(!decide (regV (tg ts 0).g ((r:Int) - 1)=(tg ts 0).g.getD ((r:Int) - 1).toNat 0))=true:=h3
     rw [decide_eq_true hl2] at h3;cases h3
    exact ⟨r+1,hr2,by omega,rfl,⟨⟨Z2f hr,rfl,rfl⟩,trivial⟩,⟨_,rfl⟩,⟨⟨rfl,trivial⟩,⟨fun _=>rfl,trivial⟩,⟨rfl,trivial⟩,⟨rfl,rfl,rfl,rfl,trivial⟩,⟨rfl,trivial⟩,⟨rfl,rfl,rfl,rfl,rfl,rfl,rfl,rfl,rfl,rfl,rfl,rfl,rfl,rfl,rfl,rfl,rfl,trivial⟩,⟨rfl,rfl,trivial⟩,trivial⟩,rfl⟩
   ·have h2:(decide (0≤(r:Int) - 1)&&decide ((r:Int) - 1 < 8))=false:=h2
    refine Z6 Z Z Z Z Z Z (r:=.i .i64 (regV (tg ts 0).g ((r:Int) - 1))) (fun _=>Z0 (hreg ((r:Int) - 1)) (fun _=>rfl) _ [0,1] Z Z ⟨rfl,rfl,trivial⟩ rfl) ?_
    refine ⟨fun h3=>?_,fun _=>?_⟩
    ·have h3:(!decide (regV (tg ts 0).g ((r:Int) - 1)=0))=true:=h3
     rw [decide_eq_true (show regV (tg ts 0).g ((r:Int) - 1)=0 by unfold regV;rw [if_pos];simp only [Bool.and_eq_false_iff,decide_eq_false_iff_not] at h2;simp only [Bool.or_eq_true,decide_eq_true_eq];omega)] at h3;cases h3
    exact ⟨r+1,hr2,by omega,rfl,⟨⟨Z2f hr,rfl,rfl⟩,trivial⟩,⟨_,rfl⟩,⟨⟨rfl,trivial⟩,⟨fun _=>rfl,trivial⟩,⟨rfl,trivial⟩,⟨rfl,rfl,rfl,rfl,trivial⟩,⟨rfl,trivial⟩,⟨rfl,rfl,rfl,rfl,rfl,rfl,rfl,rfl,rfl,rfl,rfl,rfl,rfl,rfl,rfl,rfl,rfl,trivial⟩,⟨rfl,rfl,trivial⟩,trivial⟩,rfl⟩
  refine WpC.dr Zh mixed 0 ?_
  refine ⟨fun h=>hidx (beq_iff_eq.1 h),?_⟩
  refine Zg Z Z Z Z Z Z Z (fun _=>Z1i (tI (tg ts 0))) ?_
  refine ⟨by kernel_rfl,?_⟩
  refine ⟨fun h=>(hlk3 h).elim,fun _=>?_⟩
  refine WpC.dr Zh mixed 0 ?_
  refine ⟨fun h=>hidx (g1 (show ((decide (((tg ts 0).k:Int) < ((tg ts 0).r.xs.length:Int))&&((decide ((tI (tg ts 0)).op=4)||decide ((tI (tg ts 0)).op=5))||decide ((tI (tg ts 0)).op=6))) == true)=true from h)),?_⟩
  refine Z1 [3,4] Z Z Z Z Z Z (r:=spnV (tI (tg ts 0)) (gtV (tg ts 0).g (tI (tg ts 0)).ix)) (fun hg H1 hH=>Z0 (hwhere (g1 (show ((decide (((tg ts 0).k:Int) < ((tg ts 0).r.xs.length:Int))&&((decide ((tI (tg ts 0)).op=4)||decide ((tI (tg ts 0)).op=5))||decide ((tI (tg ts 0)).op=6))) == true)=true from hg)) (g1x (show ((decide (((tg ts 0).k:Int) < ((tg ts 0).r.xs.length:Int))&&((decide ((tI (tg ts 0)).op=4)||decide ((tI (tg ts 0)).op=5))||decide ((tI (tg ts 0)).op=6))) == true)=true from hg))) (fun _=>rfl) _ [3,4] Z Z ⟨hH 3 (by simp),hH 4 (by simp),trivial⟩ rfl) ?_
  refine ⟨fun h=>hidx (g2 (show (((decide (((tg ts 0).k:Int) < ((tg ts 0).r.xs.length:Int))&&((decide ((tI (tg ts 0)).op=4)||decide ((tI (tg ts 0)).op=5))||decide ((tI (tg ts 0)).op=6))) == true)&&((!(decide (Zn (tg ts 0)=(tI (tg ts 0)).loc)&&decide (Zo (tg ts 0)=mskF (plcF (tI (tg ts 0)).off (gtV (tg ts 0).g (tI (tg ts 0)).ix) (tI (tg ts 0)).sz) (tI (tg ts 0)).sz))) == false))=true from h)),?_⟩
  refine ⟨fun h=>hidx (g3 (show ((((decide (((tg ts 0).k:Int) < ((tg ts 0).r.xs.length:Int))&&((decide ((tI (tg ts 0)).op=4)||decide ((tI (tg ts 0)).op=5))||decide ((tI (tg ts 0)).op=6))) == true)&&((!(decide (Zn (tg ts 0)=(tI (tg ts 0)).loc)&&decide (Zo (tg ts 0)=mskF (plcF (tI (tg ts 0)).off (gtV (tg ts 0).g (tI (tg ts 0)).ix) (tI (tg ts 0)).sz) (tI (tg ts 0)).sz))) == false))&&(decide ((tI (tg ts 0)).op=5) == true))=true from h)),?_⟩
  refine Z1 [3,4] Z Z Z Z Z Z (r:=.i .i64 (rdtm (tg ts 0).g (tI (tg ts 0)))) (fun hg H1 hH=>Z0 (hdat (g3 (show ((((decide (((tg ts 0).k:Int) < ((tg ts 0).r.xs.length:Int))&&((decide ((tI (tg ts 0)).op=4)||decide ((tI (tg ts 0)).op=5))||decide ((tI (tg ts 0)).op=6))) == true)&&((!(decide (Zn (tg ts 0)=(tI (tg ts 0)).loc)&&decide (Zo (tg ts 0)=mskF (plcF (tI (tg ts 0)).off (gtV (tg ts 0).g (tI (tg ts 0)).ix) (tI (tg ts 0)).sz) (tI (tg ts 0)).sz))) == false))&&(decide ((tI (tg ts 0)).op=5) == true))=true from hg)) (.inl (of_decide_eq_true (g3z (show ((((decide (((tg ts 0).k:Int) < ((tg ts 0).r.xs.length:Int))&&((decide ((tI (tg ts 0)).op=4)||decide ((tI (tg ts 0)).op=5))||decide ((tI (tg ts 0)).op=6))) == true)&&((!(decide (Zn (tg ts 0)=(tI (tg ts 0)).loc)&&decide (Zo (tg ts 0)=mskF (plcF (tI (tg ts 0)).off (gtV (tg ts 0).g (tI (tg ts 0)).ix) (tI (tg ts 0)).sz) (tI (tg ts 0)).sz))) == false))&&(decide ((tI (tg ts 0)).op=5) == true))=true from hg))))) (fun _=>rfl) _ [3,4] Z Z ⟨hH 3 (by simp),hH 4 (by simp),trivial⟩ rfl) ?_
  refine ⟨fun h=>hidx (g3 (show ((((decide (((tg ts 0).k:Int) < ((tg ts 0).r.xs.length:Int))&&((decide ((tI (tg ts 0)).op=4)||decide ((tI (tg ts 0)).op=5))||decide ((tI (tg ts 0)).op=6))) == true)&&((!(decide (Zn (tg ts 0)=(tI (tg ts 0)).loc)&&decide (Zo (tg ts 0)=mskF (plcF (tI (tg ts 0)).off (gtV (tg ts 0).g (tI (tg ts 0)).ix) (tI (tg ts 0)).sz) (tI (tg ts 0)).sz))) == false))&&(decide ((tI (tg ts 0)).op=5) == true))=true from h)),?_⟩
  refine Zg Z Z Z Z Z Z Z (fun _=>Z20 (rdtm (tg ts 0).g (tI (tg ts 0))) 0 (tI (tg ts 0)).sz) ?_
  refine ⟨fun h=>hidx (g2 (show (((decide (((tg ts 0).k:Int) < ((tg ts 0).r.xs.length:Int))&&((decide ((tI (tg ts 0)).op=4)||decide ((tI (tg ts 0)).op=5))||decide ((tI (tg ts 0)).op=6))) == true)&&(((!(decide (Zn (tg ts 0)=(tI (tg ts 0)).loc)&&decide (Zo (tg ts 0)=mskF (plcF (tI (tg ts 0)).off (gtV (tg ts 0).g (tI (tg ts 0)).ix) (tI (tg ts 0)).sz) (tI (tg ts 0)).sz)))||(decide ((tI (tg ts 0)).op=5)&&!decide (ZV (tg ts 0)=getF (rdtm (tg ts 0).g (tI (tg ts 0))) 0 (tI (tg ts 0)).sz))) == false))=true from h)),?_⟩
  refine ⟨fun h=>hidx (g3 (show ((((decide (((tg ts 0).k:Int) < ((tg ts 0).r.xs.length:Int))&&((decide ((tI (tg ts 0)).op=4)||decide ((tI (tg ts 0)).op=5))||decide ((tI (tg ts 0)).op=6))) == true)&&(((!(decide (Zn (tg ts 0)=(tI (tg ts 0)).loc)&&decide (Zo (tg ts 0)=mskF (plcF (tI (tg ts 0)).off (gtV (tg ts 0).g (tI (tg ts 0)).ix) (tI (tg ts 0)).sz) (tI (tg ts 0)).sz)))||(decide ((tI (tg ts 0)).op=5)&&!decide (ZV (tg ts 0)=getF (rdtm (tg ts 0).g (tI (tg ts 0))) 0 (tI (tg ts 0)).sz))) == false))&&(decide ((tI (tg ts 0)).op=6) == true))=true from h)),?_⟩
  refine Z1 [3,4] Z Z Z Z Z Z (r:=.i .i64 (rdtm (tg ts 0).g (tI (tg ts 0)))) (fun hg H1 hH=>Z0 (hdat (g3 (show ((((decide (((tg ts 0).k:Int) < ((tg ts 0).r.xs.length:Int))&&((decide ((tI (tg ts 0)).op=4)||decide ((tI (tg ts 0)).op=5))||decide ((tI (tg ts 0)).op=6))) == true)&&(((!(decide (Zn (tg ts 0)=(tI (tg ts 0)).loc)&&decide (Zo (tg ts 0)=mskF (plcF (tI (tg ts 0)).off (gtV (tg ts 0).g (tI (tg ts 0)).ix) (tI (tg ts 0)).sz) (tI (tg ts 0)).sz)))||(decide ((tI (tg ts 0)).op=5)&&!decide (ZV (tg ts 0)=getF (rdtm (tg ts 0).g (tI (tg ts 0))) 0 (tI (tg ts 0)).sz))) == false))&&(decide ((tI (tg ts 0)).op=6) == true))=true from hg)) (.inr (of_decide_eq_true (g3z (show ((((decide (((tg ts 0).k:Int) < ((tg ts 0).r.xs.length:Int))&&((decide ((tI (tg ts 0)).op=4)||decide ((tI (tg ts 0)).op=5))||decide ((tI (tg ts 0)).op=6))) == true)&&(((!(decide (Zn (tg ts 0)=(tI (tg ts 0)).loc)&&decide (Zo (tg ts 0)=mskF (plcF (tI (tg ts 0)).off (gtV (tg ts 0).g (tI (tg ts 0)).ix) (tI (tg ts 0)).sz) (tI (tg ts 0)).sz)))||(decide ((tI (tg ts 0)).op=5)&&!decide (ZV (tg ts 0)=getF (rdtm (tg ts 0).g (tI (tg ts 0))) 0 (tI (tg ts 0)).sz))) == false))&&(decide ((tI (tg ts 0)).op=6) == true))=true from hg))))) (fun _=>rfl) _ [3,4] Z Z ⟨hH 3 (by simp),hH 4 (by simp),trivial⟩ rfl) ?_
  refine ⟨by kernel_rfl,?_⟩
  refine ⟨fun h=>(hlk4 h).elim,fun _=>?_⟩
  refine ⟨2,by decide,by decide,rfl,⟨⟨rfl,rfl,rfl⟩,trivial⟩,⟨_,rfl⟩,Z5H,rfl⟩
 ·refine ⟨fun _=>?_,fun h=>Zl h⟩
  refine Z6 Z Z Z Z Z Z (r:=.tup [.agg (ienc inZ),.b false]) (fun _=>Z0 (Z24 v 1 ts (1) (.inr (by decide)) hv) (fun _=>rfl) _ [0,1] Z Z ⟨rfl,rfl,trivial⟩ rfl) ?_
  refine Z6 Z Z Z Z Z Z (r:=sptN) (fun _=>Z0 (Z3E v 1 ts (1) (.inr (by decide)) hv) (fun _=>rfl) _ [0,1] Z Z ⟨rfl,rfl,trivial⟩ rfl) ?_
  refine ⟨fun _=>?_,fun h=>Zl h⟩
  refine Z6 Z Z Z Z Z Z (r:=.i .i64 0) (fun _=>Z0 (Z5F v 1 ts (1) (.inr (by decide)) hv) (fun _=>rfl) _ [0,1] Z Z ⟨rfl,rfl,trivial⟩ rfl) ?_
  refine Z6 Z Z Z Z Z Z (r:=.i .i64 0) (fun _=>Z0 (Z4s v 1 ts (1) 0 (.inr (by decide)) hv) (fun _=>rfl) _ [0,1] Z Z ⟨rfl,rfl,trivial⟩ rfl) ?_
  refine ⟨fun h=>Z3 h,fun _=>?_⟩
  refine ⟨3,by decide,by decide,rfl,⟨⟨rfl,rfl,rfl⟩,trivial⟩,⟨_,rfl⟩,Z5H,rfl⟩
 ·refine ⟨fun h=>Z3 h,fun _=>?_⟩
  exact ⟨rfl,_,rfl⟩
end SX
end Go.Proofs.YtdddpbmcoimgdaaGreatDoor
