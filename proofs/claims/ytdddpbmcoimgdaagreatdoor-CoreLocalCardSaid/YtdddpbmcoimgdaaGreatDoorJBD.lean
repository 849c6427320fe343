/- A part of SX: symbolic and concrete runs of the program, with contracts of functions; lemmas without further conditions. Shortened by a tool (mini.py). -/
import Derived.Test.YtdddpbmcoimgdaaGreatDoorJAC
import Derived.Test.YtdddpbmcoimgdaaGreatDoorJAH
import Derived.Test.YtdddpbmcoimgdaaGreatDoorJAM
import Derived.Test.YtdddpbmcoimgdaaGreatDoorJAN
import Derived.Test.YtdddpbmcoimgdaaGreatDoorJAR
import Derived.Test.YtdddpbmcoimgdaaGreatDoorJAT
import Derived.Test.YtdddpbmcoimgdaaGreatDoorJAV
import Derived.Test.YtdddpbmcoimgdaaGreatDoorJAW
import Derived.Test.YtdddpbmcoimgdaaGreatDoorJAA
set_option linter.unusedVariables false
set_option linter.unusedSimpArgs false
set_option linter.unusedSectionVars false
set_option maxRecDepth 100000
namespace Go.Proofs.YtdddpbmcoimgdaaGreatDoor
namespace SX
open Go Go.Proofs
abbrev Ky:=Int×List UInt8×Int
def key (t:Tk):Ky:=(t.k,t.s,t.n)
theorem Za (a n:Int):(nmF (Z1 a) n).length≤3:=Z9w a n
theorem Z28 (a r n:Int) (h:List UInt8) (hh:h.length≤1) (hn:in64 n):(orF (Z1 a) h r n).length≤25:=by
 have h1:=Z7q hn
 have h2:=Za a r
 unfold orF
 split
 ·omega
 ·rw [List.length_append];omega
theorem Zf7 (a z:Int):(szT a z).length≤1:=by
 have he:∀ (z:Int) (e0 e1 e2 e3:List UInt8),e0.length≤1→e1.length≤1→e2.length≤1→e3.length≤1→(endF z e0 e1 e2 e3).length≤1:=by
  intro z e0 e1 e2 e3 h0 h1 h2 h3
  unfold endF
  repeat' split
  all_goals first | assumption | exact Nat.zero_le _
 unfold szT
 repeat' split
 all_goals exact he _ _ _ _ _ (by decide) (by decide) (by decide) (by decide)
theorem ZS {a:Int} {i:In} (ha:accB i=true):(atF (Z1 a) i).length≤40:=by
 obtain ⟨h1,h2,h3,h4⟩:=Z6U ha
 have hi:=Z45 h2.1 h2.2
 have hn:=Za a i.ix
 unfold atF offF ixF locF
 simp only [List.length_append,List.length_cons,List.length_nil]
 split <;> split <;> simp <;> omega
section
section
variable (ts:List Tk) (ad:Option Addr) (cap:Nat)
end
variable {ts:List Tk} {ad:Option Addr} {cap:Nat}
end
section
variable {ts:List Tk} {ad:Option Addr} {cap:Nat}
end
def barB:SB:=.mem 217 [.i .i64 3,.i .i64 3,.i .i64 1,.i .i64 3,.i .i64 2,.i .i64 2] 1 0
def idxB (p s:Int):Int:=if p=3∧s=3 then 0 else if p=1∧s=3 then 1 else if p=2∧s=2 then 2 else -1
theorem Z90 {p q:Prop} [Decidable p] [Decidable q] (h:(decide p&&decide q)=true):p∧q:=by simpa using h
theorem Z7y {p q:Prop} [Decidable p] [Decidable q] (h:(decide p&&decide q)=false):¬ (p∧q):=by
 intro hh;rw [decide_eq_true hh.1,decide_eq_true hh.2] at h;cases h
set_option maxHeartbeats 1000000 in
theorem Z2I (p s:Int):Ctr Tryz.prog 200 [.sl 0 1 0 3 (some 3) 0,.agg [.i .i64 p,.i .i64 s]] [barB] (fun r h=>r=.i .i64 (idxB p s)∧h=[barB]):=by
 refine Ze Z5 (fn:=Tryz.f200) Z Z Z Z Z Z ⟨⟨rfl,rfl,rfl,rfl,rfl,rfl,trivial⟩,trivial⟩ ?_
 have hB:BndH 2 [barB,.mem 217 [.i .i64 p,.i .i64 s] 1 0]:=⟨⟨rfl,rfl,rfl,rfl,rfl,rfl,trivial⟩,⟨rfl,rfl,trivial⟩,trivial⟩
 refine WpC.loop Z5 (β:=Nat) (fun k=>k≤3∧(0 < k→¬ (p=3∧s=3))∧(1 < k→¬ (p=1∧s=3))∧(2 < k→¬ (p=2∧s=2))) (fun k=>[(8,.i .i64 k)]) (fun _=>[barB,.mem 217 [.i .i64 p,.i .i64 s] 1 0]) (fun k=>3 - k) 0 524080 ⟨by decide,fun h=>absurd h (by decide),fun h=>absurd h (by decide),fun h=>absurd h (by decide)⟩ ?_ ?_
 ·exact ⟨rfl,⟨⟨rfl,rfl,rfl⟩,trivial⟩,⟨[],rfl⟩,hB,rfl⟩
 ·rintro k ⟨hk,q0,q1,q2⟩
  rcases (by omega:k=0∨k=1∨k=2∨k=3) with rfl | rfl | rfl | rfl
  ·refine ⟨fun _=>?_,fun h=>absurd h (by decide)⟩
   refine WpC.dr Z5 mixed 0 ?_
   refine ⟨fun _=>by decide,?_⟩
   refine ⟨by kernel_rfl,?_⟩
   refine ⟨fun h=>?_,fun h=>?_⟩
   ·have e:=Z90 (show (decide (p=3)&&decide (s=3))=true from h)
    refine ⟨i_cg ?_,_,rfl⟩
    unfold idxB
    rw [if_pos e]
    rfl
   ·have e0:=Z7y (show (decide (p=3)&&decide (s=3))=false from h)
    exact ⟨1,⟨by decide,fun _=>e0,fun h=>absurd h (by decide),fun h=>absurd h (by decide)⟩,by decide,rfl,⟨⟨rfl,rfl,rfl⟩,trivial⟩,⟨[],rfl⟩,hB,rfl⟩
  ·have e0:=q0 (by decide)
   refine ⟨fun _=>?_,fun h=>absurd h (by decide)⟩
   refine WpC.dr Z5 mixed 0 ?_
   refine ⟨fun _=>by decide,?_⟩
   refine ⟨by kernel_rfl,?_⟩
   refine ⟨fun h=>?_,fun h=>?_⟩
   ·have e:=Z90 (show (decide (p=1)&&decide (s=3))=true from h)
    refine ⟨i_cg ?_,_,rfl⟩
    unfold idxB
    rw [if_neg e0]
    rw [if_pos e]
    rfl
   ·have e1:=Z7y (show (decide (p=1)&&decide (s=3))=false from h)
    exact ⟨2,⟨by decide,fun _=>e0,fun _=>e1,fun h=>absurd h (by decide)⟩,by decide,rfl,⟨⟨rfl,rfl,rfl⟩,trivial⟩,⟨[],rfl⟩,hB,rfl⟩
  ·have e0:=q0 (by decide)
   have e1:=q1 (by decide)
   refine ⟨fun _=>?_,fun h=>absurd h (by decide)⟩
   refine WpC.dr Z5 mixed 0 ?_
   refine ⟨fun _=>by decide,?_⟩
   refine ⟨by kernel_rfl,?_⟩
   refine ⟨fun h=>?_,fun h=>?_⟩
   ·have e:=Z90 (show (decide (p=2)&&decide (s=2))=true from h)
    refine ⟨i_cg ?_,_,rfl⟩
    unfold idxB
    rw [if_neg e0]
    rw [if_neg e1]
    rw [if_pos e]
    rfl
   ·have e2:=Z7y (show (decide (p=2)&&decide (s=2))=false from h)
    exact ⟨3,⟨by decide,fun _=>e0,fun _=>e1,fun _=>e2⟩,by decide,rfl,⟨⟨rfl,rfl,rfl⟩,trivial⟩,⟨[],rfl⟩,hB,rfl⟩
  ·have e0:=q0 (by decide)
   have e1:=q1 (by decide)
   have e2:=q2 (by decide)
   refine ⟨fun h=>absurd h (by decide),fun _=>⟨i_cg ?_,_,rfl⟩⟩
   unfold idxB
   rw [if_neg e0,if_neg e1,if_neg e2]
end SX
end Go.Proofs.YtdddpbmcoimgdaaGreatDoor
