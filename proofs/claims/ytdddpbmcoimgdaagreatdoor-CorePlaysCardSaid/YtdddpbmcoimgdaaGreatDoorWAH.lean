/- A part of SX: symbolic and concrete runs of the program, with contracts of functions; lemmas without further conditions. Shortened by a tool (mini.py). -/
import Derived.Test.YtdddpbmcoimgdaaGreatDoorWAD
import Derived.Test.YtdddpbmcoimgdaaGreatDoorWAF
import Derived.Test.YtdddpbmcoimgdaaGreatDoorWAA
set_option linter.unusedVariables false
set_option linter.unusedSimpArgs false
set_option linter.unusedSectionVars false
set_option maxRecDepth 100000
namespace Go.Proofs.YtdddpbmcoimgdaaGreatDoor
namespace SX
open Go Go.Proofs
theorem ZgM (op dst a b imm loc off ix sz fn pr su to:Int) (acq wk rel ze:Bool) (h1:¬ op=1) (h2:¬ op=2) (h3:¬ op=3) (h4:¬ op=4) (h5:¬ op=5) (h6:¬ op=6) (h7:¬ op=7) (h8:¬ op=8) (h9:¬ op=9):CtrV Tryz.prog 128 [.agg (ienc ⟨op,dst,a,b,imm,loc,off,ix,sz,fn,acq,wk,rel,pr,su,to,ze⟩)] (.b false):=by
 refine Z8 Z5 (fn:=Tryz.f128) Z Z Z Z Z Z ?_
 refine ⟨fun h=>absurd (of_decide_eq_true h) h1,fun _=>?_⟩
 refine ⟨fun h=>absurd (of_decide_eq_true h) h2,fun _=>?_⟩
 refine ⟨fun h=>absurd (of_decide_eq_true h) h3,fun _=>?_⟩
 refine ⟨fun h=>absurd (of_decide_eq_true h) h4,fun _=>?_⟩
 refine ⟨fun h=>absurd (of_decide_eq_true h) h5,fun _=>?_⟩
 refine ⟨fun h=>absurd (of_decide_eq_true h) h6,fun _=>?_⟩
 refine ⟨fun h=>absurd (of_decide_eq_true h) h7,fun _=>?_⟩
 refine ⟨fun h=>absurd (of_decide_eq_true h) h8,fun _=>?_⟩
 refine ⟨fun h=>absurd (of_decide_eq_true h) h9,fun _=>?_⟩
 refine Z4 Z Z Z Z Z Z Z (fun _=>ZT ⟨op,dst,a,b,imm,loc,off,ix,sz,fn,acq,wk,rel,pr,su,to,ze⟩) ?_
 refine Z4 Z Z Z Z Z Z Z (fun _=>ZN ⟨op,dst,a,b,imm,loc,off,ix,sz,fn,acq,wk,rel,pr,su,to,ze⟩) ?_
 refine ⟨fun h=>?_,fun _=>?_⟩
 ·have h:((decide (op=4)||decide (op=6))||(decide (op=5)||decide (op=6)))=true:=h
  rw [decide_eq_false h4,decide_eq_false h5,decide_eq_false h6] at h
  cases h
 exact rfl
def ZdT (i:In):Bool:=(rgB i.dst&&eqI ⟨1,i.dst,(-1),(-1),i.imm,0,0,(-1),0,0,false,false,false,0,0,0,false⟩ i)
def ZdU (i:In):Bool:=((rgB i.dst&&rgB i.a)&&eqI ⟨2,i.dst,i.a,(-1),0,0,0,(-1),0,0,false,false,false,0,0,0,false⟩ i)
def Z4l (i:In):Bool:=(if i.b = -1 then ((((rgB i.dst&&rgB i.a)&&decide (1≤i.fn))&&decide (i.fn≤5))&&eqI ⟨3,i.dst,i.a,i.b,i.imm,0,0,(-1),0,i.fn,false,false,false,0,0,0,false⟩ i) else (((((rgB i.dst&&rgB i.a)&&decide (1≤i.fn))&&decide (i.fn≤5))&&rgB i.b)&&eqI ⟨3,i.dst,i.a,i.b,0,0,0,(-1),0,i.fn,false,false,false,0,0,0,false⟩ i))
def Z95 (i:In):Bool:=(((rgB i.dst&&accB i)&&!(i.acq&&i.wk))&&eqI ⟨4,i.dst,(-1),(-1),0,i.loc,i.off,i.ix,i.sz,0,i.acq,i.wk,false,0,0,0,false⟩ i)
def Z4m (i:In):Bool:=(if i.a = -1 then (accB i&&eqI ⟨5,(-1),i.a,(-1),i.imm,i.loc,i.off,i.ix,i.sz,0,false,false,i.rel,0,0,0,false⟩ i) else ((accB i&&rgB i.a)&&eqI ⟨5,(-1),i.a,(-1),0,i.loc,i.off,i.ix,i.sz,0,false,false,i.rel,0,0,0,false⟩ i))
def Z7n (i:In):Bool:=((((rgB i.dst&&rgB i.a)&&accB i)&&(decide (i.fn=6)||decide (i.fn=1)))&&eqI ⟨6,i.dst,i.a,(-1),0,i.loc,i.off,i.ix,i.sz,i.fn,i.acq,false,i.rel,0,0,0,false⟩ i)
def Z96 (i:In):Bool:=((fnB i.pr&&fnB i.su)&&eqI ⟨7,(-1),(-1),(-1),0,0,0,(-1),0,0,false,false,false,i.pr,i.su,0,false⟩ i)
def form8 (i:In):Bool:=(true&&eqI ⟨8,(-1),(-1),(-1),0,0,0,(-1),0,0,false,false,false,0,0,0,false⟩ i)
def Z6e (i:In):Bool:=(rgB i.a&&eqI ⟨9,(-1),i.a,(-1),0,0,0,(-1),0,0,false,false,false,0,0,i.to,i.ze⟩ i)
def Zw (i:In):Bool:=
 if i.op=1 then ZdT i else
 if i.op=2 then ZdU i else
 if i.op=3 then Z4l i else
 if i.op=4 then Z95 i else
 if i.op=5 then Z4m i else
 if i.op=6 then Z7n i else
 if i.op=7 then Z96 i else
 if i.op=8 then form8 i else
 if i.op=9 then Z6e i else
 false
theorem Zfq (i:In):CtrV Tryz.prog 128 [.agg (ienc i)] (.b (Zw i)):=by
 obtain ⟨op,dst,a,b,imm,loc,off,ix,sz,fn,acq,wk,rel,pr,su,to,ze⟩:=i
 by_cases h1:op=1
 ·subst h1
  exact ZgF dst a b imm loc off ix sz fn pr su to acq wk rel ze
 by_cases h2:op=2
 ·subst h2
  exact ZgG dst a b imm loc off ix sz fn pr su to acq wk rel ze
 by_cases h3:op=3
 ·subst h3
  by_cases hb:b = -1
  ·have:=Zfm dst a b imm loc off ix sz fn pr su to acq wk rel ze hb
   show CtrV _ _ _ (.b (Z4l ⟨3,dst,a,b,imm,loc,off,ix,sz,fn,acq,wk,rel,pr,su,to,ze⟩))
   unfold Z4l
   rw [if_pos (show b = -1 from hb)];exact this
  ·have:=Zfn dst a b imm loc off ix sz fn pr su to acq wk rel ze hb
   show CtrV _ _ _ (.b (Z4l ⟨3,dst,a,b,imm,loc,off,ix,sz,fn,acq,wk,rel,pr,su,to,ze⟩))
   unfold Z4l
   rw [if_neg (show ¬ b = -1 from hb)];exact this
 by_cases h4:op=4
 ·subst h4
  exact ZgH dst a b imm loc off ix sz fn pr su to acq wk rel ze
 by_cases h5:op=5
 ·subst h5
  by_cases hb:a = -1
  ·have:=Zfo dst a b imm loc off ix sz fn pr su to acq wk rel ze hb
   show CtrV _ _ _ (.b (Z4m ⟨5,dst,a,b,imm,loc,off,ix,sz,fn,acq,wk,rel,pr,su,to,ze⟩))
   unfold Z4m
   rw [if_pos (show a = -1 from hb)];exact this
  ·have:=Zfp dst a b imm loc off ix sz fn pr su to acq wk rel ze hb
   show CtrV _ _ _ (.b (Z4m ⟨5,dst,a,b,imm,loc,off,ix,sz,fn,acq,wk,rel,pr,su,to,ze⟩))
   unfold Z4m
   rw [if_neg (show ¬ a = -1 from hb)];exact this
 by_cases h6:op=6
 ·subst h6
  exact ZgI dst a b imm loc off ix sz fn pr su to acq wk rel ze
 by_cases h7:op=7
 ·subst h7
  exact ZgJ dst a b imm loc off ix sz fn pr su to acq wk rel ze
 by_cases h8:op=8
 ·subst h8
  exact ZgK dst a b imm loc off ix sz fn pr su to acq wk rel ze
 by_cases h9:op=9
 ·subst h9
  exact ZgL dst a b imm loc off ix sz fn pr su to acq wk rel ze
 have:=ZgM op dst a b imm loc off ix sz fn pr su to acq wk rel ze h1 h2 h3 h4 h5 h6 h7 h8 h9
 unfold Zw
 simp only [if_neg h1,if_neg h2,if_neg h3,if_neg h4,if_neg h5,if_neg h6,if_neg h7,if_neg h8,if_neg h9]
 exact this
def z0:In:=⟨0,(-1),(-1),(-1),0,0,0,(-1),0,0,false,false,false,0,0,0,false⟩
def none_ (op:Int):In:=⟨op,-1,-1,-1,0,0,0,-1,0,0,false,false,false,0,0,0,false⟩
theorem Z2Z {x y:In} (h:eqI x y=true):x=y:=by
 obtain ⟨op,dst,a,b,imm,loc,off,ix,sz,fn,acq,wk,rel,pr,su,to,ze⟩:=x
 obtain ⟨op',dst',a',b',imm',loc',off',ix',sz',fn',acq',wk',rel',pr',su',to',ze'⟩:=y
 simp only [eqI,Bool.and_eq_true,decide_eq_true_eq,beq_iff_eq] at h
 obtain ⟨rfl,rfl,rfl,rfl,rfl,rfl,rfl,rfl,rfl,rfl,rfl,rfl,rfl,rfl,rfl,rfl,rfl⟩:=h
 rfl
theorem Z1Z {n:Int} (h:rgB n=true):0≤n∧n < 8:=by
 unfold rgB at h
 simpa using h
theorem fm1 {i:In} (hf:Zw i=true) (h:i.op=1):(0≤i.dst∧i.dst < 8)∧i={ none_ 1 with dst:=i.dst,imm:=i.imm }:=by
 have hf:ZdT i=true:=by unfold Zw at hf;rwa [if_pos h] at hf
 simp only [ZdT,Bool.and_eq_true] at hf
 exact ⟨Z1Z hf.1,(Z2Z hf.2).symm⟩
theorem fm2 {i:In} (hf:Zw i=true) (h:i.op=2):(0≤i.dst∧i.dst < 8)∧(0≤i.a∧i.a < 8)∧i={ none_ 2 with dst:=i.dst,a:=i.a }:=by
 have hf:ZdU i=true:=by unfold Zw at hf;rw [if_neg (by omega),if_pos h] at hf;exact hf
 simp only [ZdU,Bool.and_eq_true] at hf
 exact ⟨Z1Z hf.1.1,Z1Z hf.1.2,(Z2Z hf.2).symm⟩
theorem fm3 {i:In} (hf:Zw i=true) (h:i.op=3):(0≤i.dst∧i.dst < 8)∧(0≤i.a∧i.a < 8)∧(i.fn=1∨i.fn=2∨i.fn=3∨i.fn=4∨i.fn=5)∧(i.b = -1∨(0≤i.b∧i.b < 8)∧i.imm=0)∧i={ none_ 3 with dst:=i.dst,a:=i.a,b:=i.b,imm:=i.imm,fn:=i.fn }:=by
 have hf:Z4l i=true:=by unfold Zw at hf;rw [if_neg (by omega),if_neg (by omega),if_pos h] at hf;exact hf
 unfold Z4l at hf
 split at hf
 ·rename_i hb
  simp only [Bool.and_eq_true,decide_eq_true_eq] at hf
  obtain ⟨⟨⟨⟨h1,h2⟩,h3⟩,h4⟩,h5⟩:=hf
  exact ⟨Z1Z h1,Z1Z h2,by omega,.inl hb,(Z2Z h5).symm⟩
 ·simp only [Bool.and_eq_true,decide_eq_true_eq] at hf
  obtain ⟨⟨⟨⟨⟨h1,h2⟩,h3⟩,h4⟩,h6⟩,h5⟩:=hf
  have e:=Z2Z h5
  have e0:i.imm=0:=by have:=congrArg In.imm e;exact this.symm
  refine ⟨Z1Z h1,Z1Z h2,by omega,.inr ⟨Z1Z h6,e0⟩,?_⟩
  rw [e0];exact e.symm
theorem fm4 {i:In} (hf:Zw i=true) (h:i.op=4):(0≤i.dst∧i.dst < 8)∧accB i=true∧¬ (i.acq=true∧i.wk=true)∧i={ none_ 4 with dst:=i.dst,loc:=i.loc,off:=i.off,ix:=i.ix,sz:=i.sz,acq:=i.acq,wk:=i.wk }:=by
 have hf:Z95 i=true:=by unfold Zw at hf;rw [if_neg (by omega),if_neg (by omega),if_neg (by omega),if_pos h] at hf;exact hf
 simp only [Z95,Bool.and_eq_true] at hf
 obtain ⟨⟨⟨h1,h2⟩,h3⟩,h5⟩:=hf
 exact ⟨Z1Z h1,h2,(fun ⟨x,y⟩=>by rw [x,y] at h3;cases h3),(Z2Z h5).symm⟩
theorem fm5 {i:In} (hf:Zw i=true) (h:i.op=5):accB i=true∧(i.a = -1∨(0≤i.a∧i.a < 8)∧i.imm=0)∧i={ none_ 5 with a:=i.a,imm:=i.imm,loc:=i.loc,off:=i.off,ix:=i.ix,sz:=i.sz,rel:=i.rel }:=by
 have hf:Z4m i=true:=by unfold Zw at hf;rw [if_neg (by omega),if_neg (by omega),if_neg (by omega),if_neg (by omega),if_pos h] at hf;exact hf
 unfold Z4m at hf
 split at hf
 ·rename_i hb
  simp only [Bool.and_eq_true] at hf
  exact ⟨hf.1,.inl hb,(Z2Z hf.2).symm⟩
 ·simp only [Bool.and_eq_true] at hf
  obtain ⟨⟨h1,h2⟩,h5⟩:=hf
  have e:=Z2Z h5
  have e0:i.imm=0:=by have:=congrArg In.imm e;exact this.symm
  refine ⟨h1,.inr ⟨Z1Z h2,e0⟩,?_⟩
  rw [e0];exact e.symm
theorem fm6 {i:In} (hf:Zw i=true) (h:i.op=6):(0≤i.dst∧i.dst < 8)∧(0≤i.a∧i.a < 8)∧accB i=true∧(i.fn=6∨i.fn=1)∧i={ none_ 6 with dst:=i.dst,a:=i.a,loc:=i.loc,off:=i.off,ix:=i.ix,sz:=i.sz,fn:=i.fn,acq:=i.acq,rel:=i.rel }:=by
 have hf:Z7n i=true:=by unfold Zw at hf;rw [if_neg (by omega),if_neg (by omega),if_neg (by omega),if_neg (by omega),if_neg (by omega),if_pos h] at hf;exact hf
 simp only [Z7n,Bool.and_eq_true,Bool.or_eq_true,decide_eq_true_eq] at hf
 obtain ⟨⟨⟨⟨h1,h2⟩,h3⟩,h4⟩,h5⟩:=hf
 exact ⟨Z1Z h1,Z1Z h2,h3,h4,(Z2Z h5).symm⟩
theorem fm7 {i:In} (hf:Zw i=true) (h:i.op=7):(i.pr=1∨i.pr=2∨i.pr=3)∧(i.su=1∨i.su=2∨i.su=3)∧i={ none_ 7 with pr:=i.pr,su:=i.su }:=by
 have hf:Z96 i=true:=by unfold Zw at hf;rw [if_neg (by omega),if_neg (by omega),if_neg (by omega),if_neg (by omega),if_neg (by omega),if_neg (by omega),if_pos h] at hf;exact hf
 simp only [Z96,fnB,Bool.and_eq_true,decide_eq_true_eq] at hf
 exact ⟨by omega,by omega,(Z2Z hf.2).symm⟩
theorem fm9 {i:In} (hf:Zw i=true) (h:i.op=9):(0≤i.a∧i.a < 8)∧i={ none_ 9 with a:=i.a,to:=i.to,ze:=i.ze }:=by
 have hf:Z6e i=true:=by unfold Zw at hf;rw [if_neg (by omega),if_neg (by omega),if_neg (by omega),if_neg (by omega),if_neg (by omega),if_neg (by omega),if_neg (by omega),if_neg (by omega),if_pos h] at hf;exact hf
 simp only [Z6e,Bool.and_eq_true] at hf
 exact ⟨Z1Z hf.1,(Z2Z hf.2).symm⟩
theorem fm_op {i:In} (hf:Zw i=true):i.op=1∨i.op=2∨i.op=3∨i.op=4∨i.op=5∨i.op=6∨i.op=7∨i.op=8∨i.op=9:=by
 unfold Zw at hf
 repeat' split at hf
 all_goals first | omega | cases hf
def toX (i:In) (lo hi:Int):Bool:=decide (i.op=9)&&(decide (i.to≤lo)||decide (hi < i.to))
def rgtF (i:In) (lo hi:Int):Int:=if Zw i=true then (if toX i lo hi=true then 35 else 0) else 34
theorem Z55 (i:In) (lo hi:Int):CtrV Tryz.prog 91 [.agg (ienc i),.i .i64 lo,.i .i64 hi] (.i .i64 (rgtF i lo hi)):=by
 refine Z8 Z5 (fn:=Tryz.f91) Z Z Z Z Z Z ?_
 refine Z4 Z Z Z Z Z Z Z (fun _=>Zfq i) ?_
 unfold rgtF
 cases Zw i with
 | false=>
   refine ⟨fun _=>?_,fun h=>Zl h⟩
   exact rfl
 | true=>
   refine ⟨fun h=>Z3 h,fun _=>?_⟩
   refine ⟨fun h=>?_,fun h=>?_⟩
   ·have h:toX i lo hi=true:=h
    rw [if_pos rfl,if_pos h]
    exact rfl
   ·have h:toX i lo hi=false:=h
    rw [if_pos rfl,if_neg (by rw [h];decide)]
    exact rfl
def memB (i:In):Bool:=(decide (i.op=4)||decide (i.op=6))||(decide (i.op=5)||decide (i.op=6))
def brB (i:In):Bool:=decide (i.op=9)
def cntI (p:In→Bool) (c:List In):Nat:=c.countP p
theorem Zc4 {p:In→Bool} {c:List In} {k:Nat} (h:k < c.length):cntI p (c.take (k+1))=cntI p (c.take k)+(if p (c.getD k inZ)=true then 1 else 0):=by
 have e:c.getD k inZ=c[k]:=by simp [List.getD_eq_getElem?_getD,h]
 rw [e]
 unfold cntI
 rw [List.take_add_one,List.getElem?_eq_getElem h,List.countP_append]
 simp
theorem Zd1 {p:In→Bool} {c:List In} {k:Nat} (h:k=c.length):cntI p (c.take k)=cntI p c:=by subst h;rw [List.take_length]
theorem Z97 (p:In→Bool) (c:List In):cntI p c≤c.length:=List.countP_le_length
def sumI (p:In→Bool) (rs:List IRow) (k:Nat):Nat:=((rs.take k).map fun r=>cntI p r.xs).sum
theorem Z83 {p:In→Bool} {rs:List IRow} {k:Nat} (h:k < rs.length):sumI p rs (k+1)=sumI p rs k+cntI p (rs.getD k ir0).xs:=by
 have e:rs.getD k ir0=rs[k]:=by simp [List.getD_eq_getElem?_getD,h]
 rw [e]
 unfold sumI
 rw [List.take_add_one,List.getElem?_eq_getElem h,Option.toList_some,List.map_append,List.sum_append]
 simp only [List.map_cons,List.map_nil,List.sum_cons,List.sum_nil,Nat.add_zero]
def Z2r (r:IRow):Bool:=decide (8 < r.xs.length)
def wrI (r:IRow) (k:Nat):Int:=rgtF (r.xs.getD k inZ) k r.xs.length
def okT (rs:List IRow) (t:Nat):Prop:=∀ j,j < t→∀ k,k < (rs.getD j ir0).xs.length→wrI (rs.getD j ir0) k=0
def okK (r:IRow) (n:Nat):Prop:=∀ k,k < n→wrI r k=0
def shT (rs:List IRow) (t:Nat):Prop:=∀ j,j < t→Z2r (rs.getD j ir0)=false
def Z7o (rs:List IRow) (x:Int×Int×Int):Prop:=
 ((rs.length < 1∨3 < rs.length)∧x=(0,0,30)) ∨
 (1≤rs.length∧rs.length≤3 ∧
  ((∃ t:Nat,t < rs.length∧shT rs t∧Z2r (rs.getD t ir0)=true∧x=((t:Int),0,31)) ∨
   (shT rs rs.length ∧
    ((∃ t k:Nat,t < rs.length∧okT rs t∧k < (rs.getD t ir0).xs.length∧okK (rs.getD t ir0) k∧wrI (rs.getD t ir0) k≠0∧x=((t:Int),(k:Int),wrI (rs.getD t ir0) k)) ∨
     (okT rs rs.length∧x=if 6 < sumI memB rs rs.length then (0,0,32) else if 3 < sumI brB rs rs.length then (0,0,33) else (0,0,0))))))
theorem ZgN {rs:List IRow} {x y:Int×Int×Int} (hx:Z7o rs x) (hy:Z7o rs y):x=y:=by
 rcases hx with ⟨h1,rfl⟩ | ⟨a1,a2,hx⟩
 ·rcases hy with ⟨_,rfl⟩ | ⟨b1,b2,_⟩
  ·rfl
  ·omega
 rcases hy with ⟨h1,_⟩ | ⟨_,_,hy⟩
 ·omega
 rcases hx with ⟨t,ht,hs,hl,rfl⟩ | ⟨hs,hx⟩
 ·rcases hy with ⟨t',ht',hs',hl',rfl⟩ | ⟨hs',_⟩
  ·have:t=t':=by
    rcases Nat.lt_trichotomy t t' with h | h | h
    ·rw [hs' t h] at hl;cases hl
    ·exact h
    ·rw [hs t' h] at hl';cases hl'
   rw [this]
  ·rw [hs' t ht] at hl;cases hl
 rcases hy with ⟨t',ht',hs',hl',_⟩ | ⟨_,hy⟩
 ·rw [hs t' ht'] at hl';cases hl'
 rcases hx with ⟨t,k,ht,ho,hk,hok,hw,rfl⟩ | ⟨ho,rfl⟩
 ·rcases hy with ⟨t',k',ht',ho',hk',hok',hw',rfl⟩ | ⟨ho',_⟩
  ·have e1:t=t':=by
    rcases Nat.lt_trichotomy t t' with h | h | h
    ·exact absurd (ho' t h k hk) hw
    ·exact h
    ·exact absurd (ho t' h k' hk') hw'
   subst e1
   have e2:k=k':=by
    rcases Nat.lt_trichotomy k k' with h | h | h
    ·exact absurd (hok' k h) hw
    ·exact h
    ·exact absurd (hok k' h) hw'
   rw [e2]
  ·exact absurd (ho' t ht k hk) hw
 ·rcases hy with ⟨t',k',ht',ho',hk',hok',hw',_⟩ | ⟨_,rfl⟩
  ·exact absurd (ho t' ht' k' hk') hw'
  ·rfl
open Classical in
noncomputable def uchk (rs:List IRow):Int×Int×Int:=if h:∃ x,Z7o rs x then Classical.choose h else (0,0,0)
theorem Z3D {rs:List IRow} {x:Int×Int×Int} (h:Z7o rs x):uchk rs=x:=by
 unfold uchk
 rw [dif_pos ⟨x,h⟩]
 exact ZgN (Classical.choose_spec (⟨x,h⟩:∃ x,Z7o rs x)) h
def uV (x:Int×Int×Int):SV:=.tup [.i .i64 x.1,.i .i64 x.2.1,.i .i64 x.2.2]
theorem cnt_lt {p:In→Bool} {c:List In} {k:Nat} (hk:k < c.length) (hl:c.length≤1000000):(cntI p (c.take k):Int)≤1000000:=by
 have:=Z97 p (c.take k)
 have:(c.take k).length≤k:=by rw [List.length_take];omega
 omega
theorem Zd2 {p:In→Bool} {c:List In} {k:Nat} (hk:k < c.length) (hl:c.length≤1000000) (h:p (c.getD k inZ)=true):SV.i .i64 (IntKind.i64.wrap ((cntI p (c.take k):Int)+1))=SV.i .i64 (cntI p (c.take (k+1)):Int):=by
 have:=cnt_lt (p:=p) hk hl
 rw [w64 (by omega) (by omega),Zc4 hk,if_pos h]
 exact i_cg (by omega)
theorem Zfr {p:In→Bool} {c:List In} {k:Nat} (hk:k < c.length) (h:p (c.getD k inZ)=false):SV.i .i64 (cntI p (c.take k):Int)=SV.i .i64 (cntI p (c.take (k+1)):Int):=by
 rw [Zc4 hk,if_neg (by rw [h];decide)]
 rfl
theorem ZI {k n:Nat} (h:k < n) (hl:n≤1000000):SV.i .i64 (IntKind.i64.wrap ((k:Int)+1))=SV.i .i64 ((k+1:Nat):Int):=by
 rw [w64 (by omega) (by omega)];rfl
theorem ops_ok (c:List In) (a:Option Addr) (cap:Nat) (hl:c.length≤1000000):CtrV Tryz.prog 88 [.imm In inZ 17 ienc c a cap] (.i .i64 (cntI memB c)):=by
 refine Z8 Z5 (fn:=Tryz.f88) Z Z Z Z Z Z ?_
 refine WpC.loop Z5 (β:=Nat) (fun k=>k≤c.length) (fun k=>[(8,.i .i64 k),(3,.i .i64 (cntI memB (c.take k)))]) (fun _=>[]) (fun k=>c.length - k) 0 2096936 (Nat.zero_le _) ?_ ?_
 ·exact ⟨rfl,⟨⟨rfl,rfl,rfl⟩,⟨rfl,rfl,rfl⟩,trivial⟩,⟨[],rfl⟩,trivial,rfl⟩
 ·intro k hk
  refine ⟨fun h2=>?_,fun h2=>?_⟩
  ·have h2:k < c.length:=by simpa using h2
   refine ⟨fun _=>⟨by omega,by omega⟩,?_⟩
   refine Z4 Z Z Z Z Z Z Z (fun _=>ZT (c.getD k inZ)) ?_
   refine Z4 Z Z Z Z Z Z Z (fun _=>ZN (c.getD k inZ)) ?_
   refine ⟨fun h3=>?_,fun h3=>?_⟩
   ·have h3:memB (c.getD k inZ)=true:=h3
    exact ⟨k+1,h2,by omega,rfl,⟨⟨ZI h2 hl,rfl,rfl⟩,⟨Zd2 h2 hl h3,rfl,rfl⟩,trivial⟩,⟨_,rfl⟩,trivial,rfl⟩
   ·have h3:memB (c.getD k inZ)=false:=h3
    exact ⟨k+1,h2,by omega,rfl,⟨⟨ZI h2 hl,rfl,rfl⟩,⟨Zfr h2 h3,rfl,rfl⟩,trivial⟩,⟨_,rfl⟩,trivial,rfl⟩
  ·have h2:k=c.length:=by simp at h2;omega
   refine i_cg ?_
   rw [Zd1 h2]
theorem Zct (c:List In) (a:Option Addr) (cap:Nat) (hl:c.length≤1000000):CtrV Tryz.prog 90 [.imm In inZ 17 ienc c a cap] (.i .i64 (cntI brB c)):=by
 refine Z8 Z5 (fn:=Tryz.f90) Z Z Z Z Z Z ?_
 refine WpC.loop Z5 (β:=Nat) (fun k=>k≤c.length) (fun k=>[(8,.i .i64 k),(3,.i .i64 (cntI brB (c.take k)))]) (fun _=>[]) (fun k=>c.length - k) 0 261928 (Nat.zero_le _) ?_ ?_
 ·exact ⟨rfl,⟨⟨rfl,rfl,rfl⟩,⟨rfl,rfl,rfl⟩,trivial⟩,⟨[],rfl⟩,trivial,rfl⟩
 ·intro k hk
  refine ⟨fun h2=>?_,fun h2=>?_⟩
  ·have h2:k < c.length:=by simpa using h2
   refine ⟨fun _=>⟨by omega,by omega⟩,?_⟩
   refine ⟨fun h3=>?_,fun h3=>?_⟩
   ·have h3:brB (c.getD k inZ)=true:=h3
    exact ⟨k+1,h2,by omega,rfl,⟨⟨ZI h2 hl,rfl,rfl⟩,⟨Zd2 h2 hl h3,rfl,rfl⟩,trivial⟩,⟨_,rfl⟩,trivial,rfl⟩
   ·have h3:brB (c.getD k inZ)=false:=h3
    exact ⟨k+1,h2,by omega,rfl,⟨⟨ZI h2 hl,rfl,rfl⟩,⟨Zfr h2 h3,rfl,rfl⟩,trivial⟩,⟨_,rfl⟩,trivial,rfl⟩
  ·have h2:k=c.length:=by simp at h2;omega
   refine i_cg ?_
   rw [Zd1 h2]
theorem Z1i (i:In):CtrV Tryz.prog 49 [.agg (ienc i)] (.b ((decide (i.op=4)||decide (i.op=5))||decide (i.op=6))):=by
 refine Z8 Z5 (fn:=Tryz.f49) Z Z Z Z Z Z ?_
 exact rfl
theorem Z2k (i:In):((decide (i.op=4)||decide (i.op=5))||decide (i.op=6))=memB i:=by
 unfold memB
 cases decide (i.op=4) <;> cases decide (i.op=5) <;> cases decide (i.op=6) <;> rfl
end SX
end Go.Proofs.YtdddpbmcoimgdaaGreatDoor
