/- A part of SX: symbolic and concrete runs of the program, with contracts of functions; lemmas without further conditions. Shortened by a tool (mini.py). -/
import Derived.Test.YtdddpbmcoimgdaaGreatDoorJBB
import Derived.Test.YtdddpbmcoimgdaaGreatDoorJAA
set_option linter.unusedVariables false
set_option linter.unusedSimpArgs false
set_option linter.unusedSectionVars false
set_option maxRecDepth 100000
namespace Go.Proofs.YtdddpbmcoimgdaaGreatDoor
namespace SX
open Go Go.Proofs
set_option maxHeartbeats 1000000 in
theorem Z7v (a:Int) (pf:Nat) (hA:(a=1∧pf=93)∨(a=2∧pf=97)∨(a=3∧pf=101)) (er:In→Int) (tx:In→List UInt8) (name:List UInt8) (init:List Int) (regs:List (List Int)) (rs:List IRow) (ca:Option Addr) (cc:Nat) (qu:Int) (cond:List Cn) (da:Option Addr) (dc:Nat) (hlen:rs.length=1) (hr3:regs.length=3) (hr8:∀ j,j < 3→(regs.getD j tz8).length=8)
 (hp:∀ t,t < rs.length→∀ k,k < (rs.getD t ir0).xs.length→CtrV Tryz.prog pf [.agg (ienc ((rs.getD t ir0).xs.getD k inZ)),.s [76]] (.tup [.s (tx ((rs.getD t ir0).xs.getD k inZ)),.i .i64 (er ((rs.getD t ir0).xs.getD k inZ))])) :
 CtrV Tryz.prog 10 [.agg (Z26 1 ⟨a,name,init,regs,rs,ca,cc,qu,cond,da,dc⟩)] (.i .i64 (lchk er name regs rs qu cond)):=by
 refine Z8 Z1g (fn:=Tryz.f10) Z Z Z Z Z Z ?_
 refine ⟨fun h=>?_,fun _=>?_⟩
 ·rcases hA with ⟨rfl,rfl⟩ | ⟨rfl,rfl⟩ | ⟨rfl,rfl⟩ <;> exact Z3 h
 refine Z4 Z Z Z Z Z Z Z (fun _=>Z2X name) ?_
 refine ⟨fun h1=>?_,fun h1=>?_⟩
 ·have h1:(decide ((16:Int) < name.length)||!Zy name)=true:=h1
  simp only [Bool.or_eq_true,decide_eq_true_eq,Bool.not_eq_true'] at h1
  refine i_cg (Z4R ?_).symm
  rcases h1 with h1 | h1
  ·exact .inl (by omega)
  ·exact .inr h1
 have h1:(decide ((16:Int) < name.length)||!Zy name)=false:=h1
 simp only [Bool.or_eq_false_iff,decide_eq_false_iff_not,Bool.not_eq_false'] at h1
 have hn:¬ (16 < name.length∨Zy name=false):=by
  rintro (h | h)
  ·exact h1.1 (by omega)
  ·rw [h1.2] at h;cases h
 refine Z4 Z Z Z Z Z Z Z (fun _=>Z2o rs ca cc) ?_
 refine ⟨fun h2=>?_,fun h2=>?_⟩
 ·have h2:(!decide ((uchk rs).2.2=0))=true:=h2
  have h2:(uchk rs).2.2≠0:=by simpa using h2
  exact i_cg (Z8v hn h2).symm
 have h2:(!decide ((uchk rs).2.2=0))=false:=h2
 have h2:(uchk rs).2.2=0:=by simpa using h2
 obtain ⟨_,hu⟩:=Z43 h2
 have hB:BndH 1 [.mem 28 (Z26 1 ⟨a,name,init,regs,rs,ca,cc,qu,cond,da,dc⟩) 1 0]:=⟨Z5n _,trivial⟩
 have hl3:=hu.l3
 refine WpC.loop Z1g (β:=Nat) (fun t=>t≤rs.length∧∀ j,j < t→∀ k,k < (rs.getD j ir0).xs.length→er ((rs.getD j ir0).xs.getD k inZ)=0) (fun t=>[(45,.i .i64 t)]) (fun _=>[.mem 28 (Z26 1 ⟨a,name,init,regs,rs,ca,cc,qu,cond,da,dc⟩) 1 0]) (fun t=>rs.length - t) 0 1180591585533039218308 ⟨Nat.zero_le _,fun j hj=>absurd hj (Nat.not_lt_zero _)⟩ ?_ ?_
 ·exact ⟨rfl,⟨⟨rfl,rfl,rfl⟩,trivial⟩,⟨[],rfl⟩,hB,rfl⟩
 rintro t ⟨ht,ho⟩
 refine ⟨fun h3=>?_,fun h3=>?_⟩
 ·have h3:t < rs.length:=by simpa using h3
  have h8:=hu.sh t h3
  have hit:(0:Int)≤(t:Int)∧(t:Int) < (rs.length:Int):=by omega
  refine ⟨fun _=>hit,?_⟩
  refine WpC.loop Z1g (β:=Nat) (fun k=>k≤(rs.getD t ir0).xs.length∧∀ q,q < k→er ((rs.getD t ir0).xs.getD q inZ)=0) (fun k=>[(51,.i .i64 k)]) (fun _=>[.mem 28 (Z26 1 ⟨a,name,init,regs,rs,ca,cc,qu,cond,da,dc⟩) 1 0]) (fun k=>(rs.getD t ir0).xs.length - k) 0 590293558558891970052 ⟨Nat.zero_le _,fun j hj=>absurd hj (Nat.not_lt_zero _)⟩ ?_ ?_
  ·exact ⟨rfl,⟨⟨rfl,rfl,rfl⟩,trivial⟩,⟨[],rfl⟩,hB,rfl⟩
  rintro k ⟨hk,hok⟩
  refine ⟨fun h4=>?_,fun h4=>?_⟩
  ·have h4:decide ((k:Int) < ((rs.getD t ir0).xs.length:Int))=true:=h4
   have h4:=of_decide_eq_true h4
   have h4:k < (rs.getD t ir0).xs.length:=by omega
   have hix:(0:Int)≤(k:Int)∧(k:Int) < ((rs.getD t ir0).xs.length:Int):=by omega
   refine ⟨fun _=>hix,?_⟩
   have u3:t < rs.length:=h3
   have u4:k < (rs.getD t ir0).xs.length:=h4
   rcases hA with ⟨rfl,rfl⟩ | ⟨rfl,rfl⟩ | ⟨rfl,rfl⟩
   all_goals
    refine WpC.dr Z1g mixed 1 ?_
    refine Zq Z Z Z Z [] 1 Z Z Z3P Z Z Z Z trivial Z Z ?_
    refine ⟨fun _=>by first | exact (by decide:(0:Int)≤1∧(1:Int) < ((4:Nat):Int)) | exact (by decide:(0:Int)≤2∧(2:Int) < ((4:Nat):Int)) | exact (by decide:(0:Int)≤3∧(3:Int) < ((4:Nat):Int)),?_⟩
    refine ⟨fun _=>by first | exact (by decide:1 < 4) | exact (by decide:2 < 4) | exact (by decide:3 < 4),?_⟩
    refine Zp Z Z Z Z Z Z Z (fun _=>hp t u3 k u4) ?_
    refine ⟨by kernel_rfl,?_⟩
    refine ⟨fun h5=>?_,fun h5=>?_⟩
    ·have h5:(!decide (er ((rs.getD t ir0).xs.getD k inZ)=0))=true:=h5
     have h5:er ((rs.getD t ir0).xs.getD k inZ)≠0:=by simpa using h5
     exact i_cg (Z7t hn h2 ⟨t,u3,k,u4,h5⟩).symm
    ·have h5:(!decide (er ((rs.getD t ir0).xs.getD k inZ)=0))=false:=h5
     have h5:er ((rs.getD t ir0).xs.getD k inZ)=0:=by simpa using h5
     refine ⟨k+1,⟨u4,fun q hq=>?_⟩,by omega,rfl,⟨⟨Z16 u4 (by omega),rfl,rfl⟩,trivial⟩,⟨_,rfl⟩,hB,rfl⟩
     rcases Nat.lt_succ_iff_lt_or_eq.1 hq with hq | rfl
     ·exact hok q hq
     ·exact h5
  ·have h4:decide ((k:Int) < ((rs.getD t ir0).xs.length:Int))=false:=h4
   have h4:=of_decide_eq_false h4
   have h4:k=(rs.getD t ir0).xs.length:=by omega
   subst h4
   refine ⟨t+1,⟨h3,fun j hj=>?_⟩,by omega,rfl,⟨⟨Z16 h3 (by omega),rfl,rfl⟩,trivial⟩,⟨_,rfl⟩,hB,rfl⟩
   rcases Nat.lt_succ_iff_lt_or_eq.1 hj with hj | rfl
   ·exact ho j hj
   ·exact hok
 have h3:t=rs.length:=by simp at h3;omega
 subst h3
 have hnb:¬ badC er rs:=fun ⟨t,ht,k,hk,he⟩=>he (ho t ht k hk)
 refine Z4 Z Z Z Z Z Z Z (fun _=>Z7n cond da dc) ?_
 refine ⟨fun h4=>?_,fun h4=>?_⟩
 ·have h4:((decide (qu < 1)||decide ((3:Int) < qu))||!ZP cond)=true:=h4
  simp only [Bool.or_eq_true,decide_eq_true_eq,Bool.not_eq_true'] at h4
  exact i_cg (Z6s hn h2 hnb h4).symm
 have h4:((decide (qu < 1)||decide ((3:Int) < qu))||!ZP cond)=false:=h4
 simp only [Bool.or_eq_false_iff,decide_eq_false_iff_not,Bool.not_eq_false'] at h4
 have hnq:¬ ((qu < 1∨3 < qu)∨ZP cond=false):=by
  rintro ((h | h) | h)
  ·exact h4.1.1 h
  ·exact h4.1.2 h
  ·rw [h4.2] at h;cases h
 have hgood:¬ badG regs rs.length→lchk er name regs rs qu cond=0:=fun h=>Z8Z hn h2 hnb hnq h
 have hbad:badG regs rs.length→lchk er name regs rs qu cond=1:=fun h=>Z7u hn h2 hnb hnq h
 clear hp hB ho hnb hn hu h1 h2
 obtain ⟨r0,rfl⟩:=len1 hlen
 generalize lchk er name regs [r0] qu cond=ans at *
 refine ⟨fun _=>(show (0:Int)≤1∧(1:Int)≤3 by decide),?_⟩
 refine WpC.loop Z1g (β:=Nat) (fun j=>j≤2∧∀ q,q < j→regs.getD (1+q) tz8=tz8) (fun j=>[(90,.i .i64 j)]) (fun _=>[.mem 28 (Z26 1 ⟨a,name,init,regs,[r0],ca,cc,qu,cond,da,dc⟩) 1 0]) (fun j=>2 - j) 0 315674710017771970099276685316 ⟨Nat.zero_le _,fun j hj=>absurd hj (Nat.not_lt_zero _)⟩ ?_ ?_
 ·exact ⟨rfl,⟨⟨rfl,rfl,rfl⟩,trivial⟩,⟨[],rfl⟩,⟨Z5n _,trivial⟩,rfl⟩
 rintro j ⟨hj,hoj⟩
 refine ⟨fun h5=>?_,fun h5=>?_⟩
 ·have h5:decide ((j:Int) < ((2:Nat):Int))=true:=h5
  have h5:=of_decide_eq_true h5
  have h5:j < 2:=by omega
  have hix:(0:Int)≤(j:Int)∧(j:Int) < ((2:Nat):Int):=by omega
  refine ⟨fun _=>hix,?_⟩
  have hd:(regs.drop 1).getD j tz8=regs.getD (1+j) tz8:=by simp only [List.getD_eq_getElem?_getD,List.getElem?_drop]
  have hx8:((regs.drop 1).getD j tz8).length=8:=by rw [hd];exact hr8 _ (by omega)
  refine ⟨fun _=>h5,?_⟩
  refine OpC.shift (Z4q 94 (Z8w ((regs.drop 1).getD j tz8)) rfl ⟨fun b=>by simp,fun q b=>by simp⟩ (slot8 hx8) rfl) (Z4y Z1g ?_)
  refine ⟨fun h6=>?_,fun h6=>?_⟩
  ·have h6:(!(decide (((regs.drop 1).getD j tz8).getD 0 0=0)&&(decide (((regs.drop 1).getD j tz8).getD 1 0=0)&&(decide (((regs.drop 1).getD j tz8).getD 2 0=0)&&(decide (((regs.drop 1).getD j tz8).getD 3 0=0)&&(decide (((regs.drop 1).getD j tz8).getD 4 0=0)&&(decide (((regs.drop 1).getD j tz8).getD 5 0=0)&&(decide (((regs.drop 1).getD j tz8).getD 6 0=0)&&(decide (((regs.drop 1).getD j tz8).getD 7 0=0))))))))))=true:=h6
   rw [eq8 hx8,hd] at h6
   refine i_cg (hbad ⟨1+j,Nat.le_add_right _ _,by omega,?_⟩).symm
   simpa using h6
  ·have h6:(!(decide (((regs.drop 1).getD j tz8).getD 0 0=0)&&(decide (((regs.drop 1).getD j tz8).getD 1 0=0)&&(decide (((regs.drop 1).getD j tz8).getD 2 0=0)&&(decide (((regs.drop 1).getD j tz8).getD 3 0=0)&&(decide (((regs.drop 1).getD j tz8).getD 4 0=0)&&(decide (((regs.drop 1).getD j tz8).getD 5 0=0)&&(decide (((regs.drop 1).getD j tz8).getD 6 0=0)&&(decide (((regs.drop 1).getD j tz8).getD 7 0=0))))))))))=false:=h6
   rw [eq8 hx8,hd] at h6
   have h6:regs.getD (1+j) tz8=tz8:=by simpa using h6
   refine ⟨j+1,⟨h5,fun q hq=>?_⟩,by omega,rfl,⟨⟨Z16 h5 (by omega),rfl,rfl⟩,trivial⟩,⟨_,rfl⟩,⟨Z5n _,trivial⟩,rfl⟩
   rcases Nat.lt_succ_iff_lt_or_eq.1 hq with hq | rfl
   ·exact hoj q hq
   ·exact h6
 ·have h5:decide ((j:Int) < ((2:Nat):Int))=false:=h5
  have h5:=of_decide_eq_false h5
  have h5:j=2:=by omega
  refine i_cg (hgood ?_).symm
  rintro ⟨q,q1,q2,q3⟩
  have q1:1≤q:=q1
  have:=hoj (q - 1) (by omega)
  rw [show 1+(q - 1)=q by omega] at this
  exact q3 this
set_option maxHeartbeats 1000000 in
theorem Z7w (a:Int) (pf:Nat) (hA:(a=1∧pf=93)∨(a=2∧pf=97)∨(a=3∧pf=101)) (er:In→Int) (tx:In→List UInt8) (name:List UInt8) (init:List Int) (regs:List (List Int)) (rs:List IRow) (ca:Option Addr) (cc:Nat) (qu:Int) (cond:List Cn) (da:Option Addr) (dc:Nat) (hlen:rs.length=2) (hr3:regs.length=3) (hr8:∀ j,j < 3→(regs.getD j tz8).length=8)
 (hp:∀ t,t < rs.length→∀ k,k < (rs.getD t ir0).xs.length→CtrV Tryz.prog pf [.agg (ienc ((rs.getD t ir0).xs.getD k inZ)),.s [76]] (.tup [.s (tx ((rs.getD t ir0).xs.getD k inZ)),.i .i64 (er ((rs.getD t ir0).xs.getD k inZ))])) :
 CtrV Tryz.prog 10 [.agg (Z26 2 ⟨a,name,init,regs,rs,ca,cc,qu,cond,da,dc⟩)] (.i .i64 (lchk er name regs rs qu cond)):=by
 refine Z8 Z1g (fn:=Tryz.f10) Z Z Z Z Z Z ?_
 refine ⟨fun h=>?_,fun _=>?_⟩
 ·rcases hA with ⟨rfl,rfl⟩ | ⟨rfl,rfl⟩ | ⟨rfl,rfl⟩ <;> exact Z3 h
 refine Z4 Z Z Z Z Z Z Z (fun _=>Z2X name) ?_
 refine ⟨fun h1=>?_,fun h1=>?_⟩
 ·have h1:(decide ((16:Int) < name.length)||!Zy name)=true:=h1
  simp only [Bool.or_eq_true,decide_eq_true_eq,Bool.not_eq_true'] at h1
  refine i_cg (Z4R ?_).symm
  rcases h1 with h1 | h1
  ·exact .inl (by omega)
  ·exact .inr h1
 have h1:(decide ((16:Int) < name.length)||!Zy name)=false:=h1
 simp only [Bool.or_eq_false_iff,decide_eq_false_iff_not,Bool.not_eq_false'] at h1
 have hn:¬ (16 < name.length∨Zy name=false):=by
  rintro (h | h)
  ·exact h1.1 (by omega)
  ·rw [h1.2] at h;cases h
 refine Z4 Z Z Z Z Z Z Z (fun _=>Z2o rs ca cc) ?_
 refine ⟨fun h2=>?_,fun h2=>?_⟩
 ·have h2:(!decide ((uchk rs).2.2=0))=true:=h2
  have h2:(uchk rs).2.2≠0:=by simpa using h2
  exact i_cg (Z8v hn h2).symm
 have h2:(!decide ((uchk rs).2.2=0))=false:=h2
 have h2:(uchk rs).2.2=0:=by simpa using h2
 obtain ⟨_,hu⟩:=Z43 h2
 have hB:BndH 1 [.mem 28 (Z26 2 ⟨a,name,init,regs,rs,ca,cc,qu,cond,da,dc⟩) 1 0]:=⟨Z5n _,trivial⟩
 have hl3:=hu.l3
 refine WpC.loop Z1g (β:=Nat) (fun t=>t≤rs.length∧∀ j,j < t→∀ k,k < (rs.getD j ir0).xs.length→er ((rs.getD j ir0).xs.getD k inZ)=0) (fun t=>[(45,.i .i64 t)]) (fun _=>[.mem 28 (Z26 2 ⟨a,name,init,regs,rs,ca,cc,qu,cond,da,dc⟩) 1 0]) (fun t=>rs.length - t) 0 1180591585533039218308 ⟨Nat.zero_le _,fun j hj=>absurd hj (Nat.not_lt_zero _)⟩ ?_ ?_
 ·exact ⟨rfl,⟨⟨rfl,rfl,rfl⟩,trivial⟩,⟨[],rfl⟩,hB,rfl⟩
 rintro t ⟨ht,ho⟩
 refine ⟨fun h3=>?_,fun h3=>?_⟩
 ·have h3:t < rs.length:=by simpa using h3
  have h8:=hu.sh t h3
  have hit:(0:Int)≤(t:Int)∧(t:Int) < (rs.length:Int):=by omega
  refine ⟨fun _=>hit,?_⟩
  refine WpC.loop Z1g (β:=Nat) (fun k=>k≤(rs.getD t ir0).xs.length∧∀ q,q < k→er ((rs.getD t ir0).xs.getD q inZ)=0) (fun k=>[(51,.i .i64 k)]) (fun _=>[.mem 28 (Z26 2 ⟨a,name,init,regs,rs,ca,cc,qu,cond,da,dc⟩) 1 0]) (fun k=>(rs.getD t ir0).xs.length - k) 0 590293558558891970052 ⟨Nat.zero_le _,fun j hj=>absurd hj (Nat.not_lt_zero _)⟩ ?_ ?_
  ·exact ⟨rfl,⟨⟨rfl,rfl,rfl⟩,trivial⟩,⟨[],rfl⟩,hB,rfl⟩
  rintro k ⟨hk,hok⟩
  refine ⟨fun h4=>?_,fun h4=>?_⟩
  ·have h4:decide ((k:Int) < ((rs.getD t ir0).xs.length:Int))=true:=h4
   have h4:=of_decide_eq_true h4
   have h4:k < (rs.getD t ir0).xs.length:=by omega
   have hix:(0:Int)≤(k:Int)∧(k:Int) < ((rs.getD t ir0).xs.length:Int):=by omega
   refine ⟨fun _=>hix,?_⟩
   have u3:t < rs.length:=h3
   have u4:k < (rs.getD t ir0).xs.length:=h4
   rcases hA with ⟨rfl,rfl⟩ | ⟨rfl,rfl⟩ | ⟨rfl,rfl⟩
   all_goals
    refine WpC.dr Z1g mixed 1 ?_
    refine Zq Z Z Z Z [] 1 Z Z Z3P Z Z Z Z trivial Z Z ?_
    refine ⟨fun _=>by first | exact (by decide:(0:Int)≤1∧(1:Int) < ((4:Nat):Int)) | exact (by decide:(0:Int)≤2∧(2:Int) < ((4:Nat):Int)) | exact (by decide:(0:Int)≤3∧(3:Int) < ((4:Nat):Int)),?_⟩
    refine ⟨fun _=>by first | exact (by decide:1 < 4) | exact (by decide:2 < 4) | exact (by decide:3 < 4),?_⟩
    refine Zp Z Z Z Z Z Z Z (fun _=>hp t u3 k u4) ?_
    refine ⟨by kernel_rfl,?_⟩
    refine ⟨fun h5=>?_,fun h5=>?_⟩
    ·have h5:(!decide (er ((rs.getD t ir0).xs.getD k inZ)=0))=true:=h5
     have h5:er ((rs.getD t ir0).xs.getD k inZ)≠0:=by simpa using h5
     exact i_cg (Z7t hn h2 ⟨t,u3,k,u4,h5⟩).symm
    ·have h5:(!decide (er ((rs.getD t ir0).xs.getD k inZ)=0))=false:=h5
     have h5:er ((rs.getD t ir0).xs.getD k inZ)=0:=by simpa using h5
     refine ⟨k+1,⟨u4,fun q hq=>?_⟩,by omega,rfl,⟨⟨Z16 u4 (by omega),rfl,rfl⟩,trivial⟩,⟨_,rfl⟩,hB,rfl⟩
     rcases Nat.lt_succ_iff_lt_or_eq.1 hq with hq | rfl
     ·exact hok q hq
     ·exact h5
  ·have h4:decide ((k:Int) < ((rs.getD t ir0).xs.length:Int))=false:=h4
   have h4:=of_decide_eq_false h4
   have h4:k=(rs.getD t ir0).xs.length:=by omega
   subst h4
   refine ⟨t+1,⟨h3,fun j hj=>?_⟩,by omega,rfl,⟨⟨Z16 h3 (by omega),rfl,rfl⟩,trivial⟩,⟨_,rfl⟩,hB,rfl⟩
   rcases Nat.lt_succ_iff_lt_or_eq.1 hj with hj | rfl
   ·exact ho j hj
   ·exact hok
 have h3:t=rs.length:=by simp at h3;omega
 subst h3
 have hnb:¬ badC er rs:=fun ⟨t,ht,k,hk,he⟩=>he (ho t ht k hk)
 refine Z4 Z Z Z Z Z Z Z (fun _=>Z7n cond da dc) ?_
 refine ⟨fun h4=>?_,fun h4=>?_⟩
 ·have h4:((decide (qu < 1)||decide ((3:Int) < qu))||!ZP cond)=true:=h4
  simp only [Bool.or_eq_true,decide_eq_true_eq,Bool.not_eq_true'] at h4
  exact i_cg (Z6s hn h2 hnb h4).symm
 have h4:((decide (qu < 1)||decide ((3:Int) < qu))||!ZP cond)=false:=h4
 simp only [Bool.or_eq_false_iff,decide_eq_false_iff_not,Bool.not_eq_false'] at h4
 have hnq:¬ ((qu < 1∨3 < qu)∨ZP cond=false):=by
  rintro ((h | h) | h)
  ·exact h4.1.1 h
  ·exact h4.1.2 h
  ·rw [h4.2] at h;cases h
 have hgood:¬ badG regs rs.length→lchk er name regs rs qu cond=0:=fun h=>Z8Z hn h2 hnb hnq h
 have hbad:badG regs rs.length→lchk er name regs rs qu cond=1:=fun h=>Z7u hn h2 hnb hnq h
 clear hp hB ho hnb hn hu h1 h2
 obtain ⟨r0,r1,rfl⟩:=len2 hlen
 generalize lchk er name regs [r0,r1] qu cond=ans at *
 refine ⟨fun _=>(show (0:Int)≤2∧(2:Int)≤3 by decide),?_⟩
 refine WpC.loop Z1g (β:=Nat) (fun j=>j≤1∧∀ q,q < j→regs.getD (2+q) tz8=tz8) (fun j=>[(90,.i .i64 j)]) (fun _=>[.mem 28 (Z26 2 ⟨a,name,init,regs,[r0,r1],ca,cc,qu,cond,da,dc⟩) 1 0]) (fun j=>1 - j) 0 315674710017771970099276685316 ⟨Nat.zero_le _,fun j hj=>absurd hj (Nat.not_lt_zero _)⟩ ?_ ?_
 ·exact ⟨rfl,⟨⟨rfl,rfl,rfl⟩,trivial⟩,⟨[],rfl⟩,⟨Z5n _,trivial⟩,rfl⟩
 rintro j ⟨hj,hoj⟩
 refine ⟨fun h5=>?_,fun h5=>?_⟩
 ·have h5:decide ((j:Int) < ((1:Nat):Int))=true:=h5
  have h5:=of_decide_eq_true h5
  have h5:j < 1:=by omega
  have hix:(0:Int)≤(j:Int)∧(j:Int) < ((1:Nat):Int):=by omega
  refine ⟨fun _=>hix,?_⟩
  have hd:(regs.drop 2).getD j tz8=regs.getD (2+j) tz8:=by simp only [List.getD_eq_getElem?_getD,List.getElem?_drop]
  have hx8:((regs.drop 2).getD j tz8).length=8:=by rw [hd];exact hr8 _ (by omega)
  refine ⟨fun _=>h5,?_⟩
  refine OpC.shift (Z4q 94 (Z8w ((regs.drop 2).getD j tz8)) rfl ⟨fun b=>by simp,fun q b=>by simp⟩ (slot8 hx8) rfl) (Z4y Z1g ?_)
  refine ⟨fun h6=>?_,fun h6=>?_⟩
  ·have h6:(!(decide (((regs.drop 2).getD j tz8).getD 0 0=0)&&(decide (((regs.drop 2).getD j tz8).getD 1 0=0)&&(decide (((regs.drop 2).getD j tz8).getD 2 0=0)&&(decide (((regs.drop 2).getD j tz8).getD 3 0=0)&&(decide (((regs.drop 2).getD j tz8).getD 4 0=0)&&(decide (((regs.drop 2).getD j tz8).getD 5 0=0)&&(decide (((regs.drop 2).getD j tz8).getD 6 0=0)&&(decide (((regs.drop 2).getD j tz8).getD 7 0=0))))))))))=true:=h6
   rw [eq8 hx8,hd] at h6
   refine i_cg (hbad ⟨2+j,Nat.le_add_right _ _,by omega,?_⟩).symm
   simpa using h6
  ·have h6:(!(decide (((regs.drop 2).getD j tz8).getD 0 0=0)&&(decide (((regs.drop 2).getD j tz8).getD 1 0=0)&&(decide (((regs.drop 2).getD j tz8).getD 2 0=0)&&(decide (((regs.drop 2).getD j tz8).getD 3 0=0)&&(decide (((regs.drop 2).getD j tz8).getD 4 0=0)&&(decide (((regs.drop 2).getD j tz8).getD 5 0=0)&&(decide (((regs.drop 2).getD j tz8).getD 6 0=0)&&(decide (((regs.drop 2).getD j tz8).getD 7 0=0))))))))))=false:=h6
   rw [eq8 hx8,hd] at h6
   have h6:regs.getD (2+j) tz8=tz8:=by simpa using h6
   refine ⟨j+1,⟨h5,fun q hq=>?_⟩,by omega,rfl,⟨⟨Z16 h5 (by omega),rfl,rfl⟩,trivial⟩,⟨_,rfl⟩,⟨Z5n _,trivial⟩,rfl⟩
   rcases Nat.lt_succ_iff_lt_or_eq.1 hq with hq | rfl
   ·exact hoj q hq
   ·exact h6
 ·have h5:decide ((j:Int) < ((1:Nat):Int))=false:=h5
  have h5:=of_decide_eq_false h5
  have h5:j=1:=by omega
  refine i_cg (hgood ?_).symm
  rintro ⟨q,q1,q2,q3⟩
  have q1:2≤q:=q1
  have:=hoj (q - 2) (by omega)
  rw [show 2+(q - 2)=q by omega] at this
  exact q3 this
set_option maxHeartbeats 1000000 in
theorem Z7x (a:Int) (pf:Nat) (hA:(a=1∧pf=93)∨(a=2∧pf=97)∨(a=3∧pf=101)) (er:In→Int) (tx:In→List UInt8) (name:List UInt8) (init:List Int) (regs:List (List Int)) (rs:List IRow) (ca:Option Addr) (cc:Nat) (qu:Int) (cond:List Cn) (da:Option Addr) (dc:Nat) (hlen:rs.length=3) (hr3:regs.length=3) (hr8:∀ j,j < 3→(regs.getD j tz8).length=8)
 (hp:∀ t,t < rs.length→∀ k,k < (rs.getD t ir0).xs.length→CtrV Tryz.prog pf [.agg (ienc ((rs.getD t ir0).xs.getD k inZ)),.s [76]] (.tup [.s (tx ((rs.getD t ir0).xs.getD k inZ)),.i .i64 (er ((rs.getD t ir0).xs.getD k inZ))])) :
 CtrV Tryz.prog 10 [.agg (tsenc ⟨a,name,init,regs,rs,ca,cc,qu,cond,da,dc⟩)] (.i .i64 (lchk er name regs rs qu cond)):=by
 refine Z8 Z1g (fn:=Tryz.f10) Z Z Z Z Z Z ?_
 refine ⟨fun h=>?_,fun _=>?_⟩
 ·rcases hA with ⟨rfl,rfl⟩ | ⟨rfl,rfl⟩ | ⟨rfl,rfl⟩ <;> exact Z3 h
 refine Z4 Z Z Z Z Z Z Z (fun _=>Z2X name) ?_
 refine ⟨fun h1=>?_,fun h1=>?_⟩
 ·have h1:(decide ((16:Int) < name.length)||!Zy name)=true:=h1
  simp only [Bool.or_eq_true,decide_eq_true_eq,Bool.not_eq_true'] at h1
  refine i_cg (Z4R ?_).symm
  rcases h1 with h1 | h1
  ·exact .inl (by omega)
  ·exact .inr h1
 have h1:(decide ((16:Int) < name.length)||!Zy name)=false:=h1
 simp only [Bool.or_eq_false_iff,decide_eq_false_iff_not,Bool.not_eq_false'] at h1
 have hn:¬ (16 < name.length∨Zy name=false):=by
  rintro (h | h)
  ·exact h1.1 (by omega)
  ·rw [h1.2] at h;cases h
 refine Z4 Z Z Z Z Z Z Z (fun _=>Z2o rs ca cc) ?_
 refine ⟨fun h2=>?_,fun h2=>?_⟩
 ·have h2:(!decide ((uchk rs).2.2=0))=true:=h2
  have h2:(uchk rs).2.2≠0:=by simpa using h2
  exact i_cg (Z8v hn h2).symm
 have h2:(!decide ((uchk rs).2.2=0))=false:=h2
 have h2:(uchk rs).2.2=0:=by simpa using h2
 obtain ⟨_,hu⟩:=Z43 h2
 have hB:BndH 1 [.mem 28 (tsenc ⟨a,name,init,regs,rs,ca,cc,qu,cond,da,dc⟩) 1 0]:=⟨ZcA _,trivial⟩
 have hl3:=hu.l3
 refine WpC.loop Z1g (β:=Nat) (fun t=>t≤rs.length∧∀ j,j < t→∀ k,k < (rs.getD j ir0).xs.length→er ((rs.getD j ir0).xs.getD k inZ)=0) (fun t=>[(45,.i .i64 t)]) (fun _=>[.mem 28 (tsenc ⟨a,name,init,regs,rs,ca,cc,qu,cond,da,dc⟩) 1 0]) (fun t=>rs.length - t) 0 1180591585533039218308 ⟨Nat.zero_le _,fun j hj=>absurd hj (Nat.not_lt_zero _)⟩ ?_ ?_
 ·exact ⟨rfl,⟨⟨rfl,rfl,rfl⟩,trivial⟩,⟨[],rfl⟩,hB,rfl⟩
 rintro t ⟨ht,ho⟩
 refine ⟨fun h3=>?_,fun h3=>?_⟩
 ·have h3:t < rs.length:=by simpa using h3
  have h8:=hu.sh t h3
  have hit:(0:Int)≤(t:Int)∧(t:Int) < (rs.length:Int):=by omega
  refine ⟨fun _=>hit,?_⟩
  refine WpC.loop Z1g (β:=Nat) (fun k=>k≤(rs.getD t ir0).xs.length∧∀ q,q < k→er ((rs.getD t ir0).xs.getD q inZ)=0) (fun k=>[(51,.i .i64 k)]) (fun _=>[.mem 28 (tsenc ⟨a,name,init,regs,rs,ca,cc,qu,cond,da,dc⟩) 1 0]) (fun k=>(rs.getD t ir0).xs.length - k) 0 590293558558891970052 ⟨Nat.zero_le _,fun j hj=>absurd hj (Nat.not_lt_zero _)⟩ ?_ ?_
  ·exact ⟨rfl,⟨⟨rfl,rfl,rfl⟩,trivial⟩,⟨[],rfl⟩,hB,rfl⟩
  rintro k ⟨hk,hok⟩
  refine ⟨fun h4=>?_,fun h4=>?_⟩
  ·have h4:decide ((k:Int) < ((rs.getD t ir0).xs.length:Int))=true:=h4
   have h4:=of_decide_eq_true h4
   have h4:k < (rs.getD t ir0).xs.length:=by omega
   have hix:(0:Int)≤(k:Int)∧(k:Int) < ((rs.getD t ir0).xs.length:Int):=by omega
   refine ⟨fun _=>hix,?_⟩
   have u3:t < rs.length:=h3
   have u4:k < (rs.getD t ir0).xs.length:=h4
   rcases hA with ⟨rfl,rfl⟩ | ⟨rfl,rfl⟩ | ⟨rfl,rfl⟩
   all_goals
    refine WpC.dr Z1g mixed 1 ?_
    refine Zq Z Z Z Z [] 1 Z Z Z3P Z Z Z Z trivial Z Z ?_
    refine ⟨fun _=>by first | exact (by decide:(0:Int)≤1∧(1:Int) < ((4:Nat):Int)) | exact (by decide:(0:Int)≤2∧(2:Int) < ((4:Nat):Int)) | exact (by decide:(0:Int)≤3∧(3:Int) < ((4:Nat):Int)),?_⟩
    refine ⟨fun _=>by first | exact (by decide:1 < 4) | exact (by decide:2 < 4) | exact (by decide:3 < 4),?_⟩
    refine Zp Z Z Z Z Z Z Z (fun _=>hp t u3 k u4) ?_
    refine ⟨by kernel_rfl,?_⟩
    refine ⟨fun h5=>?_,fun h5=>?_⟩
    ·have h5:(!decide (er ((rs.getD t ir0).xs.getD k inZ)=0))=true:=h5
     have h5:er ((rs.getD t ir0).xs.getD k inZ)≠0:=by simpa using h5
     exact i_cg (Z7t hn h2 ⟨t,u3,k,u4,h5⟩).symm
    ·have h5:(!decide (er ((rs.getD t ir0).xs.getD k inZ)=0))=false:=h5
     have h5:er ((rs.getD t ir0).xs.getD k inZ)=0:=by simpa using h5
     refine ⟨k+1,⟨u4,fun q hq=>?_⟩,by omega,rfl,⟨⟨Z16 u4 (by omega),rfl,rfl⟩,trivial⟩,⟨_,rfl⟩,hB,rfl⟩
     rcases Nat.lt_succ_iff_lt_or_eq.1 hq with hq | rfl
     ·exact hok q hq
     ·exact h5
  ·have h4:decide ((k:Int) < ((rs.getD t ir0).xs.length:Int))=false:=h4
   have h4:=of_decide_eq_false h4
   have h4:k=(rs.getD t ir0).xs.length:=by omega
   subst h4
   refine ⟨t+1,⟨h3,fun j hj=>?_⟩,by omega,rfl,⟨⟨Z16 h3 (by omega),rfl,rfl⟩,trivial⟩,⟨_,rfl⟩,hB,rfl⟩
   rcases Nat.lt_succ_iff_lt_or_eq.1 hj with hj | rfl
   ·exact ho j hj
   ·exact hok
 have h3:t=rs.length:=by simp at h3;omega
 subst h3
 have hnb:¬ badC er rs:=fun ⟨t,ht,k,hk,he⟩=>he (ho t ht k hk)
 refine Z4 Z Z Z Z Z Z Z (fun _=>Z7n cond da dc) ?_
 refine ⟨fun h4=>?_,fun h4=>?_⟩
 ·have h4:((decide (qu < 1)||decide ((3:Int) < qu))||!ZP cond)=true:=h4
  simp only [Bool.or_eq_true,decide_eq_true_eq,Bool.not_eq_true'] at h4
  exact i_cg (Z6s hn h2 hnb h4).symm
 have h4:((decide (qu < 1)||decide ((3:Int) < qu))||!ZP cond)=false:=h4
 simp only [Bool.or_eq_false_iff,decide_eq_false_iff_not,Bool.not_eq_false'] at h4
 have hnq:¬ ((qu < 1∨3 < qu)∨ZP cond=false):=by
  rintro ((h | h) | h)
  ·exact h4.1.1 h
  ·exact h4.1.2 h
  ·rw [h4.2] at h;cases h
 have hgood:¬ badG regs rs.length→lchk er name regs rs qu cond=0:=fun h=>Z8Z hn h2 hnb hnq h
 have hbad:badG regs rs.length→lchk er name regs rs qu cond=1:=fun h=>Z7u hn h2 hnb hnq h
 clear hp hB ho hnb hn hu h1 h2
 obtain ⟨r0,r1,r2,rfl⟩:=len3 hlen
 generalize lchk er name regs [r0,r1,r2] qu cond=ans at *
 refine ⟨fun _=>(show (0:Int)≤3∧(3:Int)≤3 by decide),?_⟩
 refine WpC.loop Z1g (β:=Nat) (fun j=>j≤0∧∀ q,q < j→regs.getD (3+q) tz8=tz8) (fun j=>[(90,.i .i64 j)]) (fun _=>[.mem 28 (tsenc ⟨a,name,init,regs,[r0,r1,r2],ca,cc,qu,cond,da,dc⟩) 1 0]) (fun j=>0 - j) 0 315674710017771970099276685316 ⟨Nat.zero_le _,fun j hj=>absurd hj (Nat.not_lt_zero _)⟩ ?_ ?_
 ·exact ⟨rfl,⟨⟨rfl,rfl,rfl⟩,trivial⟩,⟨[],rfl⟩,⟨ZcA _,trivial⟩,rfl⟩
 rintro j ⟨hj,hoj⟩
 refine ⟨fun h5=>?_,fun h5=>?_⟩
 ·have h5:decide ((j:Int) < ((0:Nat):Int))=true:=h5
  have h5:=of_decide_eq_true h5
  have h5:j < 0:=by omega
  exact absurd h5 (Nat.not_lt_zero _)
 ·have h5:decide ((j:Int) < ((0:Nat):Int))=false:=h5
  have h5:=of_decide_eq_false h5
  have h5:j=0:=by omega
  refine i_cg (hgood ?_).symm
  rintro ⟨q,q1,q2,q3⟩
  have q1:3≤q:=q1
  have:=hoj (q - 3) (by omega)
  rw [show 3+(q - 3)=q by omega] at this
  exact q3 this
end SX
end Go.Proofs.YtdddpbmcoimgdaaGreatDoor
