/- A part of SX: symbolic and concrete runs of the program, with contracts of functions; lemmas without further conditions. Shortened by a tool (mini.py). -/
import Derived.Test.YtdddpbmcoimgdaaGreatDoorJAQ
import Derived.Test.YtdddpbmcoimgdaaGreatDoorJAA
set_option linter.unusedVariables false
set_option linter.unusedSimpArgs false
set_option linter.unusedSectionVars false
set_option maxRecDepth 100000
namespace Go.Proofs.YtdddpbmcoimgdaaGreatDoor
namespace SX
open Go Go.Proofs
theorem ZeQ {p:In→Bool} {rs:List IRow}:∀ {t:Nat},t≤rs.length→shT rs t→sumI p rs t≤8 * t
 | 0,_,_=>Nat.zero_le _
 | t+1,hl,hs=>by
   have h1:=ZeQ (p:=p) (t:=t) (by omega) (fun j hj=>hs j (by omega))
   have h2:=hs t (by omega)
   rw [Z4v (by omega)]
   have h3:=Z8r p (rs.getD t ir0).xs
   have h4:¬ 8 < (rs.getD t ir0).xs.length:=by unfold Z2i at h2;simpa using h2
   omega
theorem Zhc {rs:List IRow} {t:Nat} (h:shT rs t) (h2:Z2i (rs.getD t ir0)=false):shT rs (t+1):=fun j hj=>by
 rcases Nat.lt_succ_iff_lt_or_eq.1 hj with hj | rfl
 ·exact h j hj
 ·exact h2
theorem Zhd {rs:List IRow} {t:Nat} (h:okT rs t) (h2:okK (rs.getD t ir0) (rs.getD t ir0).xs.length):okT rs (t+1):=fun j hj=>by
 rcases Nat.lt_succ_iff_lt_or_eq.1 hj with hj | rfl
 ·exact h j hj
 ·exact h2
theorem Zgj {r:IRow} {k:Nat} (h:okK r k) (h2:wrI r k=0):okK r (k+1):=fun j hj=>by
 rcases Nat.lt_succ_iff_lt_or_eq.1 hj with hj | rfl
 ·exact h j hj
 ·exact h2
theorem Z4M {r:IRow} (h:Z2i r=false):r.xs.length≤8:=by unfold Z2i at h;simp at h;omega
theorem Zbr {p:In→Bool} {rs:List IRow} {t:Nat} (h3:rs.length≤3) (ht:t < rs.length) (hs:shT rs t) (hn:Z2i (rs.getD t ir0)=false):SV.i .i64 (IntKind.i64.wrap ((sumI p rs t:Int)+(cntI p (rs.getD t ir0).xs:Int)))=SV.i .i64 (sumI p rs (t+1):Int):=by
 have h1:=ZeQ (p:=p) (t:=t) (by omega) hs
 have h2:=Z8r p (rs.getD t ir0).xs
 have h4:=Z4M hn
 rw [w64 (by omega) (by omega),Z4v ht]
 exact i_cg (by omega)
theorem u_cg {x y:Int×Int×Int} (h:x=y):uV x=uV y:=congrArg uV h
set_option maxHeartbeats 1000000 in
theorem Z2o (rs:List IRow) (a:Option Addr) (cap:Nat):CtrV Tryz.prog 44 [.imm IRow ir0 1 irenc rs a cap] (uV (uchk rs)):=by
 refine Z8 Z5 (fn:=Tryz.f44) Z Z Z Z Z Z ?_
 refine ⟨fun h1=>?_,fun h1=>?_⟩
 ·have h1:(decide ((rs.length:Int) < 1)||decide ((3:Int) < rs.length))=true:=h1
  simp only [Bool.or_eq_true,decide_eq_true_eq] at h1
  exact u_cg (Z3q (.inl ⟨by omega,rfl⟩)).symm
 have h1:(decide ((rs.length:Int) < 1)||decide ((3:Int) < rs.length))=false:=h1
 simp only [Bool.or_eq_false_iff,decide_eq_false_iff_not] at h1
 have hl:1≤rs.length∧rs.length≤3:=by omega
 refine WpC.loop Z5 (β:=Nat) (fun t=>t≤rs.length∧shT rs t) (fun t=>[(24,.i .i64 t),(5,.i .i64 (sumI memB rs t)),(6,.i .i64 (sumI brB rs t))]) (fun _=>[]) (fun t=>rs.length - t) 0 4398029734396 ⟨Nat.zero_le _,fun j hj=>by omega⟩ ?_ ?_
 ·exact ⟨rfl,⟨⟨rfl,rfl,rfl⟩,⟨rfl,rfl,rfl⟩,⟨rfl,rfl,rfl⟩,trivial⟩,⟨[],rfl⟩,trivial,rfl⟩
 rintro t ⟨ht,hs⟩
 refine ⟨fun h2=>?_,fun h2=>?_⟩
 ·have h2:t < rs.length:=by simpa using h2
  refine ⟨fun _=>⟨by omega,by omega⟩,?_⟩
  refine ⟨fun h3=>?_,fun h3=>?_⟩
  ·have h3:Z2i (rs.getD t ir0)=true:=by
    have h3:decide ((8:Int) < (rs.getD t ir0).xs.length)=true:=h3
    unfold Z2i;simp at h3 ⊢;omega
   exact u_cg (Z3q (.inr ⟨hl.1,hl.2,.inl ⟨t,h2,hs,h3,rfl⟩⟩)).symm
  ·have h3:Z2i (rs.getD t ir0)=false:=by
    have h3:decide ((8:Int) < (rs.getD t ir0).xs.length)=false:=h3
    unfold Z2i;simp at h3 ⊢;omega
   have h8:=Z4M h3
   refine Z4 Z Z Z Z Z Z Z (fun _=>ops_ok (rs.getD t ir0).xs (rs.getD t ir0).a (rs.getD t ir0).cap (by omega)) ?_
   refine Z4 Z Z Z Z Z Z Z (fun _=>ZbQ (rs.getD t ir0).xs (rs.getD t ir0).a (rs.getD t ir0).cap (by omega)) ?_
   exact ⟨t+1,⟨h2,Zhc hs h3⟩,by omega,rfl,⟨⟨Z16 h2 (by omega),rfl,rfl⟩,⟨Zbr hl.2 h2 hs h3,rfl,rfl⟩,⟨Zbr hl.2 h2 hs h3,rfl,rfl⟩,trivial⟩,⟨_,rfl⟩,trivial,rfl⟩
 have h2:t=rs.length:=by simp at h2;omega
 subst h2
 refine WpC.loop Z5 (β:=Nat) (fun t=>t≤rs.length∧okT rs t) (fun t=>[(44,.i .i64 t)]) (fun _=>[]) (fun t=>rs.length - t) 0 295147887587166797340 ⟨Nat.zero_le _,fun j hj=>by omega⟩ ?_ ?_
 ·exact ⟨rfl,⟨⟨rfl,rfl,rfl⟩,trivial⟩,⟨[],rfl⟩,trivial,rfl⟩
 rintro t ⟨ht,ho⟩
 refine ⟨fun h2=>?_,fun h2=>?_⟩
 ·have h2:t < rs.length:=by simpa using h2
  have h8:=Z4M (hs t h2)
  refine ⟨fun _=>⟨by omega,by omega⟩,?_⟩
  refine WpC.loop Z5 (β:=Nat) (fun k=>k≤(rs.getD t ir0).xs.length∧okK (rs.getD t ir0) k) (fun k=>[(51,.i .i64 k)]) (fun _=>[]) (fun k=>(rs.getD t ir0).xs.length - k) 0 147571700789862742044 ⟨Nat.zero_le _,fun j hj=>by omega⟩ ?_ ?_
  ·exact ⟨rfl,⟨⟨rfl,rfl,rfl⟩,trivial⟩,⟨[],rfl⟩,trivial,rfl⟩
  rintro k ⟨hk,hok⟩
  refine ⟨fun h3=>?_,fun h3=>?_⟩
  ·have h3:decide ((k:Int) < ((rs.getD t ir0).xs.length:Int))=true:=h3
   have h3:=of_decide_eq_true h3
   have h3:k < (rs.getD t ir0).xs.length:=by omega
   have hix:(0:Int)≤(k:Int)∧(k:Int) < ((rs.getD t ir0).xs.length:Int):=by omega
   refine ⟨fun _=>hix,?_⟩
   refine Z4 Z Z Z Z Z Z Z (fun _=>Z4L ((rs.getD t ir0).xs.getD k inZ) k (rs.getD t ir0).xs.length) ?_
   refine ⟨fun h4=>?_,fun h4=>?_⟩
   ·have h4:(!decide (wrI (rs.getD t ir0) k=0))=true:=h4
    have h4:wrI (rs.getD t ir0) k≠0:=by simpa using h4
    exact u_cg (Z3q (.inr ⟨hl.1,hl.2,.inr ⟨hs,.inl ⟨t,k,h2,ho,h3,hok,h4,rfl⟩⟩⟩)).symm
   ·have h4:(!decide (wrI (rs.getD t ir0) k=0))=false:=h4
    have h4:wrI (rs.getD t ir0) k=0:=by simpa using h4
    exact ⟨k+1,⟨h3,Zgj hok h4⟩,by omega,rfl,⟨⟨Z16 h3 (by omega),rfl,rfl⟩,trivial⟩,⟨_,rfl⟩,trivial,rfl⟩
  ·have h3:decide ((k:Int) < ((rs.getD t ir0).xs.length:Int))=false:=h3
   have h3:=of_decide_eq_false h3
   have h3:k=(rs.getD t ir0).xs.length:=by omega
   subst h3
   exact ⟨t+1,⟨h2,Zhd ho hok⟩,by omega,rfl,⟨⟨Z16 h2 (by omega),rfl,rfl⟩,trivial⟩,⟨_,rfl⟩,trivial,rfl⟩
 have h2:t=rs.length:=by simp at h2;omega
 subst h2
 have he:uchk rs=if 6 < sumI memB rs rs.length then (0,0,32) else if 3 < sumI brB rs rs.length then (0,0,33) else (0,0,0):=Z3q (.inr ⟨hl.1,hl.2,.inr ⟨hs,.inr ⟨ho,rfl⟩⟩⟩)
 rw [he]
 refine ⟨fun h3=>?_,fun h3=>?_⟩
 ·have h3:decide ((6:Int) < sumI memB rs rs.length)=true:=h3
  rw [if_pos (by simp at h3;omega)]
  exact rfl
 ·have h3:decide ((6:Int) < sumI memB rs rs.length)=false:=h3
  rw [if_neg (by simp at h3;omega)]
  refine ⟨fun h4=>?_,fun h4=>?_⟩
  ·have h4:decide ((3:Int) < sumI brB rs rs.length)=true:=h4
   rw [if_pos (by simp at h4;omega)]
   exact rfl
  ·have h4:decide ((3:Int) < sumI brB rs rs.length)=false:=h4
   rw [if_neg (by simp at h4;omega)]
   exact rfl
end SX
end Go.Proofs.YtdddpbmcoimgdaaGreatDoor
