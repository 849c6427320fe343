/- A part of SX: symbolic and concrete runs of the program, with contracts of functions; lemmas without further conditions. Shortened by a tool (mini.py). -/
import Derived.Test.YtdddpbmcoimgdaaGreatDoorJAL
import Derived.Test.YtdddpbmcoimgdaaGreatDoorJAA
set_option linter.unusedVariables false
set_option linter.unusedSimpArgs false
set_option linter.unusedSectionVars false
set_option maxRecDepth 100000
namespace Go.Proofs.YtdddpbmcoimgdaaGreatDoor
namespace SX
open Go Go.Proofs
theorem Zgh (op dst a b imm loc off ix sz fn pr su to:Int) (acq wk rel ze:Bool) (h1:¬ op=1) (h2:¬ op=2) (h3:¬ op=3) (h4:¬ op=4) (h5:¬ op=5) (h6:¬ op=6) (h7:¬ op=7) (h8:¬ op=8) (h9:¬ op=9):CtrV Tryz.prog 128 [.agg (ienc ⟨op,dst,a,b,imm,loc,off,ix,sz,fn,acq,wk,rel,pr,su,to,ze⟩)] (.b false):=by
 refine Z8 Z5 (fn:=Tryz.f128) Z Z Z Z Z Z ?_
 refine ⟨fun h=>absurd (of_decide_eq_true h) h1,fun _=>?_⟩
 refine ⟨fun h=>absurd (of_decide_eq_true h) h2,fun _=>?_⟩
 refine ⟨fun h=>absurd (of_decide_eq_true h) h3,fun _=>?_⟩
 refine ⟨fun h=>absurd (of_decide_eq_true h) h4,fun _=>?_⟩
 refine ⟨fun h=>absurd (of_decide_eq_true h) h5,fun _=>?_⟩
 refine ⟨fun h=>absurd (of_decide_eq_true h) h6,fun _=>?_⟩
 refine ⟨fun h=>absurd (of_decide_eq_true h) h7,fun _=>?_⟩
 refine ⟨fun h=>absurd (of_decide_eq_true h) h8,fun _=>?_⟩
 refine ⟨fun h=>absurd (of_decide_eq_true h) h9,fun _=>?_⟩
 refine Z4 Z Z Z Z Z Z Z (fun _=>ZH ⟨op,dst,a,b,imm,loc,off,ix,sz,fn,acq,wk,rel,pr,su,to,ze⟩) ?_
 refine Z4 Z Z Z Z Z Z Z (fun _=>ZG ⟨op,dst,a,b,imm,loc,off,ix,sz,fn,acq,wk,rel,pr,su,to,ze⟩) ?_
 refine ⟨fun h=>?_,fun _=>?_⟩
 ·have h:((decide (op=4)||decide (op=6))||(decide (op=5)||decide (op=6)))=true:=h
  rw [decide_eq_false h4,decide_eq_false h5,decide_eq_false h6] at h
  cases h
 exact rfl
def Zde (i:In):Bool:=(rgB i.dst&&eqI ⟨1,i.dst,(-1),(-1),i.imm,0,0,(-1),0,0,false,false,false,0,0,0,false⟩ i)
def Zdf (i:In):Bool:=((rgB i.dst&&rgB i.a)&&eqI ⟨2,i.dst,i.a,(-1),0,0,0,(-1),0,0,false,false,false,0,0,0,false⟩ i)
def Z41 (i:In):Bool:=(if i.b = -1 then ((((rgB i.dst&&rgB i.a)&&decide (1≤i.fn))&&decide (i.fn≤5))&&eqI ⟨3,i.dst,i.a,i.b,i.imm,0,0,(-1),0,i.fn,false,false,false,0,0,0,false⟩ i) else (((((rgB i.dst&&rgB i.a)&&decide (1≤i.fn))&&decide (i.fn≤5))&&rgB i.b)&&eqI ⟨3,i.dst,i.a,i.b,0,0,0,(-1),0,i.fn,false,false,false,0,0,0,false⟩ i))
def Z8p (i:In):Bool:=(((rgB i.dst&&accB i)&&!(i.acq&&i.wk))&&eqI ⟨4,i.dst,(-1),(-1),0,i.loc,i.off,i.ix,i.sz,0,i.acq,i.wk,false,0,0,0,false⟩ i)
def Z42 (i:In):Bool:=(if i.a = -1 then (accB i&&eqI ⟨5,(-1),i.a,(-1),i.imm,i.loc,i.off,i.ix,i.sz,0,false,false,i.rel,0,0,0,false⟩ i) else ((accB i&&rgB i.a)&&eqI ⟨5,(-1),i.a,(-1),0,i.loc,i.off,i.ix,i.sz,0,false,false,i.rel,0,0,0,false⟩ i))
def Z6R (i:In):Bool:=((((rgB i.dst&&rgB i.a)&&accB i)&&(decide (i.fn=6)||decide (i.fn=1)))&&eqI ⟨6,i.dst,i.a,(-1),0,i.loc,i.off,i.ix,i.sz,i.fn,i.acq,false,i.rel,0,0,0,false⟩ i)
def Z8q (i:In):Bool:=((fnB i.pr&&fnB i.su)&&eqI ⟨7,(-1),(-1),(-1),0,0,0,(-1),0,0,false,false,false,i.pr,i.su,0,false⟩ i)
def Zdg (i:In):Bool:=(true&&eqI ⟨8,(-1),(-1),(-1),0,0,0,(-1),0,0,false,false,false,0,0,0,false⟩ i)
def Z5Q (i:In):Bool:=(rgB i.a&&eqI ⟨9,(-1),i.a,(-1),0,0,0,(-1),0,0,false,false,false,0,0,i.to,i.ze⟩ i)
def Zr (i:In):Bool:=
 if i.op=1 then Zde i else
 if i.op=2 then Zdf i else
 if i.op=3 then Z41 i else
 if i.op=4 then Z8p i else
 if i.op=5 then Z42 i else
 if i.op=6 then Z6R i else
 if i.op=7 then Z8q i else
 if i.op=8 then Zdg i else
 if i.op=9 then Z5Q i else
 false
theorem ZeO (i:In):CtrV Tryz.prog 128 [.agg (ienc i)] (.b (Zr i)):=by
 obtain ⟨op,dst,a,b,imm,loc,off,ix,sz,fn,acq,wk,rel,pr,su,to,ze⟩:=i
 by_cases h1:op=1
 ·subst h1
  exact Zga dst a b imm loc off ix sz fn pr su to acq wk rel ze
 by_cases h2:op=2
 ·subst h2
  exact Zgb dst a b imm loc off ix sz fn pr su to acq wk rel ze
 by_cases h3:op=3
 ·subst h3
  by_cases hb:b = -1
  ·have:=ZeK dst a b imm loc off ix sz fn pr su to acq wk rel ze hb
   show CtrV _ _ _ (.b (Z41 ⟨3,dst,a,b,imm,loc,off,ix,sz,fn,acq,wk,rel,pr,su,to,ze⟩))
   unfold Z41
   rw [if_pos (show b = -1 from hb)];exact this
  ·have:=ZeL dst a b imm loc off ix sz fn pr su to acq wk rel ze hb
   show CtrV _ _ _ (.b (Z41 ⟨3,dst,a,b,imm,loc,off,ix,sz,fn,acq,wk,rel,pr,su,to,ze⟩))
   unfold Z41
   rw [if_neg (show ¬ b = -1 from hb)];exact this
 by_cases h4:op=4
 ·subst h4
  exact Zgc dst a b imm loc off ix sz fn pr su to acq wk rel ze
 by_cases h5:op=5
 ·subst h5
  by_cases hb:a = -1
  ·have:=ZeM dst a b imm loc off ix sz fn pr su to acq wk rel ze hb
   show CtrV _ _ _ (.b (Z42 ⟨5,dst,a,b,imm,loc,off,ix,sz,fn,acq,wk,rel,pr,su,to,ze⟩))
   unfold Z42
   rw [if_pos (show a = -1 from hb)];exact this
  ·have:=ZeN dst a b imm loc off ix sz fn pr su to acq wk rel ze hb
   show CtrV _ _ _ (.b (Z42 ⟨5,dst,a,b,imm,loc,off,ix,sz,fn,acq,wk,rel,pr,su,to,ze⟩))
   unfold Z42
   rw [if_neg (show ¬ a = -1 from hb)];exact this
 by_cases h6:op=6
 ·subst h6
  exact Zgd dst a b imm loc off ix sz fn pr su to acq wk rel ze
 by_cases h7:op=7
 ·subst h7
  exact Zge dst a b imm loc off ix sz fn pr su to acq wk rel ze
 by_cases h8:op=8
 ·subst h8
  exact Zgf dst a b imm loc off ix sz fn pr su to acq wk rel ze
 by_cases h9:op=9
 ·subst h9
  exact Zgg dst a b imm loc off ix sz fn pr su to acq wk rel ze
 have:=Zgh op dst a b imm loc off ix sz fn pr su to acq wk rel ze h1 h2 h3 h4 h5 h6 h7 h8 h9
 unfold Zr
 simp only [if_neg h1,if_neg h2,if_neg h3,if_neg h4,if_neg h5,if_neg h6,if_neg h7,if_neg h8,if_neg h9]
 exact this
def z0:In:=⟨0,(-1),(-1),(-1),0,0,0,(-1),0,0,false,false,false,0,0,0,false⟩
def none_ (op:Int):In:=⟨op,-1,-1,-1,0,0,0,-1,0,0,false,false,false,0,0,0,false⟩
theorem Z2n {x y:In} (h:eqI x y=true):x=y:=by
 obtain ⟨op,dst,a,b,imm,loc,off,ix,sz,fn,acq,wk,rel,pr,su,to,ze⟩:=x
 obtain ⟨op',dst',a',b',imm',loc',off',ix',sz',fn',acq',wk',rel',pr',su',to',ze'⟩:=y
 simp only [eqI,Bool.and_eq_true,decide_eq_true_eq,beq_iff_eq] at h
 obtain ⟨rfl,rfl,rfl,rfl,rfl,rfl,rfl,rfl,rfl,rfl,rfl,rfl,rfl,rfl,rfl,rfl,rfl⟩:=h
 rfl
theorem Z1X {n:Int} (h:rgB n=true):0≤n∧n < 8:=by
 unfold rgB at h
 simpa using h
theorem fm1 {i:In} (hf:Zr i=true) (h:i.op=1):(0≤i.dst∧i.dst < 8)∧i={ none_ 1 with dst:=i.dst,imm:=i.imm }:=by
 have hf:Zde i=true:=by unfold Zr at hf;rwa [if_pos h] at hf
 simp only [Zde,Bool.and_eq_true] at hf
 exact ⟨Z1X hf.1,(Z2n hf.2).symm⟩
theorem fm2 {i:In} (hf:Zr i=true) (h:i.op=2):(0≤i.dst∧i.dst < 8)∧(0≤i.a∧i.a < 8)∧i={ none_ 2 with dst:=i.dst,a:=i.a }:=by
 have hf:Zdf i=true:=by unfold Zr at hf;rw [if_neg (by omega),if_pos h] at hf;exact hf
 simp only [Zdf,Bool.and_eq_true] at hf
 exact ⟨Z1X hf.1.1,Z1X hf.1.2,(Z2n hf.2).symm⟩
theorem fm3 {i:In} (hf:Zr i=true) (h:i.op=3):(0≤i.dst∧i.dst < 8)∧(0≤i.a∧i.a < 8)∧(i.fn=1∨i.fn=2∨i.fn=3∨i.fn=4∨i.fn=5)∧(i.b = -1∨(0≤i.b∧i.b < 8)∧i.imm=0)∧i={ none_ 3 with dst:=i.dst,a:=i.a,b:=i.b,imm:=i.imm,fn:=i.fn }:=by
 have hf:Z41 i=true:=by unfold Zr at hf;rw [if_neg (by omega),if_neg (by omega),if_pos h] at hf;exact hf
 unfold Z41 at hf
 split at hf
 ·rename_i hb
  simp only [Bool.and_eq_true,decide_eq_true_eq] at hf
  obtain ⟨⟨⟨⟨h1,h2⟩,h3⟩,h4⟩,h5⟩:=hf
  exact ⟨Z1X h1,Z1X h2,by omega,.inl hb,(Z2n h5).symm⟩
 ·simp only [Bool.and_eq_true,decide_eq_true_eq] at hf
  obtain ⟨⟨⟨⟨⟨h1,h2⟩,h3⟩,h4⟩,h6⟩,h5⟩:=hf
  have e:=Z2n h5
  have e0:i.imm=0:=by have:=congrArg In.imm e;exact this.symm
  refine ⟨Z1X h1,Z1X h2,by omega,.inr ⟨Z1X h6,e0⟩,?_⟩
  rw [e0];exact e.symm
theorem fm4 {i:In} (hf:Zr i=true) (h:i.op=4):(0≤i.dst∧i.dst < 8)∧accB i=true∧¬ (i.acq=true∧i.wk=true)∧i={ none_ 4 with dst:=i.dst,loc:=i.loc,off:=i.off,ix:=i.ix,sz:=i.sz,acq:=i.acq,wk:=i.wk }:=by
 have hf:Z8p i=true:=by unfold Zr at hf;rw [if_neg (by omega),if_neg (by omega),if_neg (by omega),if_pos h] at hf;exact hf
 simp only [Z8p,Bool.and_eq_true] at hf
 obtain ⟨⟨⟨h1,h2⟩,h3⟩,h5⟩:=hf
 exact ⟨Z1X h1,h2,(fun ⟨x,y⟩=>by rw [x,y] at h3;cases h3),(Z2n h5).symm⟩
theorem fm5 {i:In} (hf:Zr i=true) (h:i.op=5):accB i=true∧(i.a = -1∨(0≤i.a∧i.a < 8)∧i.imm=0)∧i={ none_ 5 with a:=i.a,imm:=i.imm,loc:=i.loc,off:=i.off,ix:=i.ix,sz:=i.sz,rel:=i.rel }:=by
 have hf:Z42 i=true:=by unfold Zr at hf;rw [if_neg (by omega),if_neg (by omega),if_neg (by omega),if_neg (by omega),if_pos h] at hf;exact hf
 unfold Z42 at hf
 split at hf
 ·rename_i hb
  simp only [Bool.and_eq_true] at hf
  exact ⟨hf.1,.inl hb,(Z2n hf.2).symm⟩
 ·simp only [Bool.and_eq_true] at hf
  obtain ⟨⟨h1,h2⟩,h5⟩:=hf
  have e:=Z2n h5
  have e0:i.imm=0:=by have:=congrArg In.imm e;exact this.symm
  refine ⟨h1,.inr ⟨Z1X h2,e0⟩,?_⟩
  rw [e0];exact e.symm
theorem fm6 {i:In} (hf:Zr i=true) (h:i.op=6):(0≤i.dst∧i.dst < 8)∧(0≤i.a∧i.a < 8)∧accB i=true∧(i.fn=6∨i.fn=1)∧i={ none_ 6 with dst:=i.dst,a:=i.a,loc:=i.loc,off:=i.off,ix:=i.ix,sz:=i.sz,fn:=i.fn,acq:=i.acq,rel:=i.rel }:=by
 have hf:Z6R i=true:=by unfold Zr at hf;rw [if_neg (by omega),if_neg (by omega),if_neg (by omega),if_neg (by omega),if_neg (by omega),if_pos h] at hf;exact hf
 simp only [Z6R,Bool.and_eq_true,Bool.or_eq_true,decide_eq_true_eq] at hf
 obtain ⟨⟨⟨⟨h1,h2⟩,h3⟩,h4⟩,h5⟩:=hf
 exact ⟨Z1X h1,Z1X h2,h3,h4,(Z2n h5).symm⟩
theorem fm7 {i:In} (hf:Zr i=true) (h:i.op=7):(i.pr=1∨i.pr=2∨i.pr=3)∧(i.su=1∨i.su=2∨i.su=3)∧i={ none_ 7 with pr:=i.pr,su:=i.su }:=by
 have hf:Z8q i=true:=by unfold Zr at hf;rw [if_neg (by omega),if_neg (by omega),if_neg (by omega),if_neg (by omega),if_neg (by omega),if_neg (by omega),if_pos h] at hf;exact hf
 simp only [Z8q,fnB,Bool.and_eq_true,decide_eq_true_eq] at hf
 exact ⟨by omega,by omega,(Z2n hf.2).symm⟩
theorem fm8 {i:In} (hf:Zr i=true) (h:i.op=8):i=none_ 8:=by
 have hf:Zdg i=true:=by unfold Zr at hf;rw [if_neg (by omega),if_neg (by omega),if_neg (by omega),if_neg (by omega),if_neg (by omega),if_neg (by omega),if_neg (by omega),if_pos h] at hf;exact hf
 simp only [Zdg,Bool.and_eq_true] at hf
 exact (Z2n hf.2).symm
theorem fm9 {i:In} (hf:Zr i=true) (h:i.op=9):(0≤i.a∧i.a < 8)∧i={ none_ 9 with a:=i.a,to:=i.to,ze:=i.ze }:=by
 have hf:Z5Q i=true:=by unfold Zr at hf;rw [if_neg (by omega),if_neg (by omega),if_neg (by omega),if_neg (by omega),if_neg (by omega),if_neg (by omega),if_neg (by omega),if_neg (by omega),if_pos h] at hf;exact hf
 simp only [Z5Q,Bool.and_eq_true] at hf
 exact ⟨Z1X hf.1,(Z2n hf.2).symm⟩
theorem fm_op {i:In} (hf:Zr i=true):i.op=1∨i.op=2∨i.op=3∨i.op=4∨i.op=5∨i.op=6∨i.op=7∨i.op=8∨i.op=9:=by
 unfold Zr at hf
 repeat' split at hf
 all_goals first | omega | cases hf
def toX (i:In) (lo hi:Int):Bool:=decide (i.op=9)&&(decide (i.to≤lo)||decide (hi < i.to))
def rgtF (i:In) (lo hi:Int):Int:=if Zr i=true then (if toX i lo hi=true then 35 else 0) else 34
theorem Z4L (i:In) (lo hi:Int):CtrV Tryz.prog 91 [.agg (ienc i),.i .i64 lo,.i .i64 hi] (.i .i64 (rgtF i lo hi)):=by
 refine Z8 Z5 (fn:=Tryz.f91) Z Z Z Z Z Z ?_
 refine Z4 Z Z Z Z Z Z Z (fun _=>ZeO i) ?_
 unfold rgtF
 cases Zr i with
 | false=>
   refine ⟨fun _=>?_,fun h=>Zv h⟩
   exact rfl
 | true=>
   refine ⟨fun h=>Z3 h,fun _=>?_⟩
   refine ⟨fun h=>?_,fun h=>?_⟩
   ·have h:toX i lo hi=true:=h
    rw [if_pos rfl,if_pos h]
    exact rfl
   ·have h:toX i lo hi=false:=h
    rw [if_pos rfl,if_neg (by rw [h];decide)]
    exact rfl
end SX
end Go.Proofs.YtdddpbmcoimgdaaGreatDoor
