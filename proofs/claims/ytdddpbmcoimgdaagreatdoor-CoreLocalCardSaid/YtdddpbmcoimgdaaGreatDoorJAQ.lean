/- A part of SX: symbolic and concrete runs of the program, with contracts of functions; lemmas without further conditions. Shortened by a tool (mini.py). -/
import Derived.Test.YtdddpbmcoimgdaaGreatDoorJAM
import Derived.Test.YtdddpbmcoimgdaaGreatDoorJAN
import Derived.Test.YtdddpbmcoimgdaaGreatDoorJAA
set_option linter.unusedVariables false
set_option linter.unusedSimpArgs false
set_option linter.unusedSectionVars false
set_option maxRecDepth 100000
namespace Go.Proofs.YtdddpbmcoimgdaaGreatDoor
namespace SX
open Go Go.Proofs
def memB (i:In):Bool:=(decide (i.op=4)||decide (i.op=6))||(decide (i.op=5)||decide (i.op=6))
def brB (i:In):Bool:=decide (i.op=9)
def cntI (p:In→Bool) (c:List In):Nat:=c.countP p
theorem Zbq {p:In→Bool} {c:List In} {k:Nat} (h:k < c.length):cntI p (c.take (k+1))=cntI p (c.take k)+(if p (c.getD k inZ)=true then 1 else 0):=by
 have e:c.getD k inZ=c[k]:=by simp [List.getD_eq_getElem?_getD,h]
 rw [e]
 unfold cntI
 rw [List.take_add_one,List.getElem?_eq_getElem h,List.countP_append]
 simp
theorem Zcm {p:In→Bool} {c:List In} {k:Nat} (h:k=c.length):cntI p (c.take k)=cntI p c:=by subst h;rw [List.take_length]
theorem Z8r (p:In→Bool) (c:List In):cntI p c≤c.length:=List.countP_le_length
def sumI (p:In→Bool) (rs:List IRow) (k:Nat):Nat:=((rs.take k).map fun r=>cntI p r.xs).sum
theorem Z4v {p:In→Bool} {rs:List IRow} {k:Nat} (h:k < rs.length):sumI p rs (k+1)=sumI p rs k+cntI p (rs.getD k ir0).xs:=by
 have e:rs.getD k ir0=rs[k]:=by simp [List.getD_eq_getElem?_getD,h]
 rw [e]
 unfold sumI
 rw [List.take_add_one,List.getElem?_eq_getElem h,Option.toList_some,List.map_append,List.sum_append]
 simp only [List.map_cons,List.map_nil,List.sum_cons,List.sum_nil,Nat.add_zero]
def Z2i (r:IRow):Bool:=decide (8 < r.xs.length)
def wrI (r:IRow) (k:Nat):Int:=rgtF (r.xs.getD k inZ) k r.xs.length
def okT (rs:List IRow) (t:Nat):Prop:=∀ j,j < t→∀ k,k < (rs.getD j ir0).xs.length→wrI (rs.getD j ir0) k=0
def okK (r:IRow) (n:Nat):Prop:=∀ k,k < n→wrI r k=0
def shT (rs:List IRow) (t:Nat):Prop:=∀ j,j < t→Z2i (rs.getD j ir0)=false
def Z6S (rs:List IRow) (x:Int×Int×Int):Prop:=
 ((rs.length < 1∨3 < rs.length)∧x=(0,0,30)) ∨
 (1≤rs.length∧rs.length≤3 ∧
  ((∃ t:Nat,t < rs.length∧shT rs t∧Z2i (rs.getD t ir0)=true∧x=((t:Int),0,31)) ∨
   (shT rs rs.length ∧
    ((∃ t k:Nat,t < rs.length∧okT rs t∧k < (rs.getD t ir0).xs.length∧okK (rs.getD t ir0) k∧wrI (rs.getD t ir0) k≠0∧x=((t:Int),(k:Int),wrI (rs.getD t ir0) k)) ∨
     (okT rs rs.length∧x=if 6 < sumI memB rs rs.length then (0,0,32) else if 3 < sumI brB rs rs.length then (0,0,33) else (0,0,0))))))
theorem Zgi {rs:List IRow} {x y:Int×Int×Int} (hx:Z6S rs x) (hy:Z6S rs y):x=y:=by
 rcases hx with ⟨h1,rfl⟩ | ⟨a1,a2,hx⟩
 ·rcases hy with ⟨_,rfl⟩ | ⟨b1,b2,_⟩
  ·rfl
  ·omega
 rcases hy with ⟨h1,_⟩ | ⟨_,_,hy⟩
 ·omega
 rcases hx with ⟨t,ht,hs,hl,rfl⟩ | ⟨hs,hx⟩
 ·rcases hy with ⟨t',ht',hs',hl',rfl⟩ | ⟨hs',_⟩
  ·have:t=t':=by
    rcases Nat.lt_trichotomy t t' with h | h | h
    ·rw [hs' t h] at hl;cases hl
    ·exact h
    ·rw [hs t' h] at hl';cases hl'
   rw [this]
  ·rw [hs' t ht] at hl;cases hl
 rcases hy with ⟨t',ht',hs',hl',_⟩ | ⟨_,hy⟩
 ·rw [hs t' ht'] at hl';cases hl'
 rcases hx with ⟨t,k,ht,ho,hk,hok,hw,rfl⟩ | ⟨ho,rfl⟩
 ·rcases hy with ⟨t',k',ht',ho',hk',hok',hw',rfl⟩ | ⟨ho',_⟩
  ·have e1:t=t':=by
    rcases Nat.lt_trichotomy t t' with h | h | h
    ·exact absurd (ho' t h k hk) hw
    ·exact h
    ·exact absurd (ho t' h k' hk') hw'
   subst e1
   have e2:k=k':=by
    rcases Nat.lt_trichotomy k k' with h | h | h
    ·exact absurd (hok' k h) hw
    ·exact h
    ·exact absurd (hok k' h) hw'
   rw [e2]
  ·exact absurd (ho' t ht k hk) hw
 ·rcases hy with ⟨t',k',ht',ho',hk',hok',hw',_⟩ | ⟨_,rfl⟩
  ·exact absurd (ho t' ht' k' hk') hw'
  ·rfl
open Classical in
noncomputable def uchk (rs:List IRow):Int×Int×Int:=if h:∃ x,Z6S rs x then Classical.choose h else (0,0,0)
theorem Z3q {rs:List IRow} {x:Int×Int×Int} (h:Z6S rs x):uchk rs=x:=by
 unfold uchk
 rw [dif_pos ⟨x,h⟩]
 exact Zgi (Classical.choose_spec (⟨x,h⟩:∃ x,Z6S rs x)) h
def uV (x:Int×Int×Int):SV:=.tup [.i .i64 x.1,.i .i64 x.2.1,.i .i64 x.2.2]
theorem cnt_lt {p:In→Bool} {c:List In} {k:Nat} (hk:k < c.length) (hl:c.length≤1000000):(cntI p (c.take k):Int)≤1000000:=by
 have:=Z8r p (c.take k)
 have:(c.take k).length≤k:=by rw [List.length_take];omega
 omega
theorem Zcn {p:In→Bool} {c:List In} {k:Nat} (hk:k < c.length) (hl:c.length≤1000000) (h:p (c.getD k inZ)=true):SV.i .i64 (IntKind.i64.wrap ((cntI p (c.take k):Int)+1))=SV.i .i64 (cntI p (c.take (k+1)):Int):=by
 have:=cnt_lt (p:=p) hk hl
 rw [w64 (by omega) (by omega),Zbq hk,if_pos h]
 exact i_cg (by omega)
theorem ZeP {p:In→Bool} {c:List In} {k:Nat} (hk:k < c.length) (h:p (c.getD k inZ)=false):SV.i .i64 (cntI p (c.take k):Int)=SV.i .i64 (cntI p (c.take (k+1)):Int):=by
 rw [Zbq hk,if_neg (by rw [h];decide)]
 rfl
theorem Z16 {k n:Nat} (h:k < n) (hl:n≤1000000):SV.i .i64 (IntKind.i64.wrap ((k:Int)+1))=SV.i .i64 ((k+1:Nat):Int):=by
 rw [w64 (by omega) (by omega)];rfl
theorem ops_ok (c:List In) (a:Option Addr) (cap:Nat) (hl:c.length≤1000000):CtrV Tryz.prog 88 [.imm In inZ 17 ienc c a cap] (.i .i64 (cntI memB c)):=by
 refine Z8 Z5 (fn:=Tryz.f88) Z Z Z Z Z Z ?_
 refine WpC.loop Z5 (β:=Nat) (fun k=>k≤c.length) (fun k=>[(8,.i .i64 k),(3,.i .i64 (cntI memB (c.take k)))]) (fun _=>[]) (fun k=>c.length - k) 0 2096936 (Nat.zero_le _) ?_ ?_
 ·exact ⟨rfl,⟨⟨rfl,rfl,rfl⟩,⟨rfl,rfl,rfl⟩,trivial⟩,⟨[],rfl⟩,trivial,rfl⟩
 ·intro k hk
  refine ⟨fun h2=>?_,fun h2=>?_⟩
  ·have h2:k < c.length:=by simpa using h2
   refine ⟨fun _=>⟨by omega,by omega⟩,?_⟩
   refine Z4 Z Z Z Z Z Z Z (fun _=>ZH (c.getD k inZ)) ?_
   refine Z4 Z Z Z Z Z Z Z (fun _=>ZG (c.getD k inZ)) ?_
   refine ⟨fun h3=>?_,fun h3=>?_⟩
   ·have h3:memB (c.getD k inZ)=true:=h3
    exact ⟨k+1,h2,by omega,rfl,⟨⟨Z16 h2 hl,rfl,rfl⟩,⟨Zcn h2 hl h3,rfl,rfl⟩,trivial⟩,⟨_,rfl⟩,trivial,rfl⟩
   ·have h3:memB (c.getD k inZ)=false:=h3
    exact ⟨k+1,h2,by omega,rfl,⟨⟨Z16 h2 hl,rfl,rfl⟩,⟨ZeP h2 h3,rfl,rfl⟩,trivial⟩,⟨_,rfl⟩,trivial,rfl⟩
  ·have h2:k=c.length:=by simp at h2;omega
   refine i_cg ?_
   rw [Zcm h2]
theorem ZbQ (c:List In) (a:Option Addr) (cap:Nat) (hl:c.length≤1000000):CtrV Tryz.prog 90 [.imm In inZ 17 ienc c a cap] (.i .i64 (cntI brB c)):=by
 refine Z8 Z5 (fn:=Tryz.f90) Z Z Z Z Z Z ?_
 refine WpC.loop Z5 (β:=Nat) (fun k=>k≤c.length) (fun k=>[(8,.i .i64 k),(3,.i .i64 (cntI brB (c.take k)))]) (fun _=>[]) (fun k=>c.length - k) 0 261928 (Nat.zero_le _) ?_ ?_
 ·exact ⟨rfl,⟨⟨rfl,rfl,rfl⟩,⟨rfl,rfl,rfl⟩,trivial⟩,⟨[],rfl⟩,trivial,rfl⟩
 ·intro k hk
  refine ⟨fun h2=>?_,fun h2=>?_⟩
  ·have h2:k < c.length:=by simpa using h2
   refine ⟨fun _=>⟨by omega,by omega⟩,?_⟩
   refine ⟨fun h3=>?_,fun h3=>?_⟩
   ·have h3:brB (c.getD k inZ)=true:=h3
    exact ⟨k+1,h2,by omega,rfl,⟨⟨Z16 h2 hl,rfl,rfl⟩,⟨Zcn h2 hl h3,rfl,rfl⟩,trivial⟩,⟨_,rfl⟩,trivial,rfl⟩
   ·have h3:brB (c.getD k inZ)=false:=h3
    exact ⟨k+1,h2,by omega,rfl,⟨⟨Z16 h2 hl,rfl,rfl⟩,⟨ZeP h2 h3,rfl,rfl⟩,trivial⟩,⟨_,rfl⟩,trivial,rfl⟩
  ·have h2:k=c.length:=by simp at h2;omega
   refine i_cg ?_
   rw [Zcm h2]
end SX
end Go.Proofs.YtdddpbmcoimgdaaGreatDoor
