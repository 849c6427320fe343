/- A part of SX: symbolic and concrete runs of the program, with contracts of functions; lemmas without further conditions. Shortened by a tool (mini.py). -/
import Derived.Test.YtdddpbmcoimgdaaGreatDoorJAH
import Derived.Test.YtdddpbmcoimgdaaGreatDoorJAU
import Derived.Test.YtdddpbmcoimgdaaGreatDoorJAA
set_option linter.unusedVariables false
set_option linter.unusedSimpArgs false
set_option linter.unusedSectionVars false
set_option maxRecDepth 100000
namespace Go.Proofs.YtdddpbmcoimgdaaGreatDoor
namespace SX
open Go Go.Proofs
theorem uok1 {i:In} (hf:Zr i=true) (hto:i.op=9→i.to=1) (a:Option Addr) (c:Nat):UOk [⟨[i],a,c⟩]:=by
 have hc:∀ p,sumI p [⟨[i],a,c⟩] 1≤1:=fun p=>by
  have e:sumI p [⟨[i],a,c⟩] 1=cntI p [i]:=by
   have:=Z4v (p:=p) (rs:=[⟨[i],a,c⟩]) (k:=0) (Nat.zero_lt_one)
   rw [this];show 0+cntI p [i]=_;omega
  rw [e];exact Z8r p [i]
 refine ⟨Nat.le_refl _,by show 1≤3;decide,fun t ht=>?_,fun t ht k hk=>?_,Nat.le_trans (hc _) (by decide),Nat.le_trans (hc _) (by decide)⟩
 ·have ht:t < 1:=ht
  have:t=0:=by omega
  subst this
  show 1≤8;decide
 ·have h0:t < 1:=ht
  have:t=0:=by omega
  subst this
  have hk:k < 1:=hk
  have:k=0:=by omega
  subst this
  show rgtF i ((0:Nat):Int) ((1:Nat):Int)=0
  unfold rgtF
  rw [if_pos hf,if_neg]
  unfold toX
  intro h
  simp only [Bool.and_eq_true,Bool.or_eq_true,decide_eq_true_eq] at h
  have:=hto h.1
  omega
theorem Zgo (i:In):eqI i i=true:=by
 obtain ⟨op,dst,a,b,imm,loc,off,ix,sz,fn,acq,wk,rel,pr,su,to,ze⟩:=i
 cases acq <;> cases wk <;> cases rel <;> cases ze <;> simp [eqI]
theorem Zgp {i:In} (h:Zr i=true):Zr (plnF i)=true:=by
 unfold plnF
 split
 ·rename_i h9
  obtain ⟨h1,h2⟩:=fm9 h h9
  have hf:Z5Q i=true:=by
   have h3:=h
   unfold Zr at h3
   rw [h9] at h3
   exact h3
  simp only [Z5Q,Bool.and_eq_true] at hf
  rw [h2]
  show Z5Q { none_ 9 with a:=i.a,to:=1,ze:=i.ze }=true
  simp only [Z5Q,Bool.and_eq_true]
  exact ⟨hf.1,Zgo _⟩
 ·exact h
theorem Z5l (r z:Int) (g:List Int) (hr:r = -1∨0≤r∧r < 8):Ctr Tryz.prog 59 [.i .i64 r,.i .i64 z,.ptr 0 1 0 []] [.mem 23 [.ints .i64 8 g] 1 0] (fun r' H=>r'=.i .i64 (if r = -1 then z else rgG g r)∧H=[.mem 23 [.ints .i64 8 g] 1 0]):=by
 refine Ze Zi (fn:=Tryz.f59) Z Z Z Z Z Z ⟨⟨rfl,trivial⟩,trivial⟩ ?_
 refine ⟨fun h=>?_,fun h=>?_⟩
 ·have h:decide (r = -1)=true:=h
  exact ⟨i_cg (by rw [if_pos (of_decide_eq_true h)]),_,rfl⟩
 ·have h:decide (r = -1)=false:=h
  have h:=of_decide_eq_false h
  refine ⟨fun _=>(show 0≤r∧r < 8 by omega),?_⟩
  refine ⟨fun _=>(show r.toNat < 8 by omega),?_⟩
  exact ⟨i_cg (by rw [if_neg h];rfl),_,rfl⟩
def locH (g w:List Int) (k:Nat) (p:List Int):List SB:=[.gone 1,.mem 23 [.ints .i64 8 g] 1 0,.mem 23 [.ints .i64 8 w] 1 0,.gone 1,.mem 3 [.ints .i64 k p] k 1]
theorem Z1C {N k:Nat} {g w p:List Int}:BndH N (locH g w k p):=⟨trivial,⟨rfl,trivial⟩,⟨rfl,trivial⟩,trivial,⟨rfl,trivial⟩,trivial⟩
set_option maxHeartbeats 1000000 in
theorem Zhy (dst a b imm loc off ix sz fn pr su to:Int) (acq wk rel ze:Bool) (g:List Int) (hg:g.length=8) (hd:0≤dst∧dst < 8) (ad:Option Addr) (cp:Nat)
 (hu:∀ ad2 cp2,CtrV Tryz.prog 44 [.imm IRow ir0 1 irenc [⟨[⟨1,dst,a,b,imm,loc,off,ix,sz,fn,acq,wk,rel,pr,su,to,ze⟩],ad,cp⟩] ad2 cp2] (.tup [.i .i64 0,.i .i64 0,.i .i64 0])) :
 Ctr Tryz.prog 17 [.imm In inZ 17 ienc [⟨1,dst,a,b,imm,loc,off,ix,sz,fn,acq,wk,rel,pr,su,to,ze⟩] ad cp,.agg [.ints .i64 8 g],.nils] [.gone 1] (fun r H=>r=.tup [.agg [.ints .i64 8 (g.set dst.toNat imm)],.nils,.sl 4 1 0 1 none 0,.i .i64 0]∧H=locH (g.set dst.toNat imm) (g.set dst.toNat imm) 1 [0]):=by
 refine ZE Zi (fn:=Tryz.f17) Z Z Z Z Z Z Z1C (show 1≤5 by decide) ?_
 refine Z3j (k:=3) 21 ir0 irenc [⟨[⟨1,dst,a,b,imm,loc,off,ix,sz,fn,acq,wk,rel,pr,su,to,ze⟩],ad,cp⟩] Z Z Z (Nat.le_refl _) ir_w (fun E=>rfl) (fun m V h j hj=>?_) (fun ad2=>?_)
 ·have hj:j < 1:=hj
  have:j=0:=by omega
  subst this
  exact Z3p _ m V h
 refine Z4 Z Z Z Z Z Z Z (fun _=>hu (some ad2) 1) ?_
 refine ⟨fun h=>Z3 h,fun _=>?_⟩
 refine WpC.shift (Shift.row (d:=8) rfl 0 3 [.ints .i64 0 []] (fun E=>rfl) (fun m V=>⟨⟨rfl,rfl⟩,trivial⟩)) ?_
 refine WpC.loop Zi (β:=Nat) (fun k=>k≤1) (fun k=>[(14,.i .i64 k),(8,.sl 4 k 0 k none 0),(7,.nils)]) (fun k=>locH (if k=0 then g else g.set dst.toNat imm) tz8 k (List.replicate k 0)) (fun k=>1 - k) 0 50216813883093446110686315385661331328818843555711202870148 (Nat.zero_le _) ?_ ?_
 ·exact ⟨rfl,⟨⟨rfl,rfl,rfl⟩,⟨rfl,rfl,rfl⟩,⟨rfl,rfl,rfl⟩,trivial⟩,⟨[],rfl⟩,Z1C,rfl⟩
 intro k hk
 rcases (show k=0∨k=1 by omega) with rfl | rfl
 ·refine ⟨fun _=>?_,fun h=>Zv h⟩
  refine ⟨fun _=>(show (0:Int)≤0∧(0:Int) < 1 by decide),?_⟩
  refine WpC.dr Zi mixed 1 ?_
  refine Zp Z Z Z Z Z Z Z (fun _=>ZH _) ?_
  refine Zp Z Z Z Z Z Z Z (fun _=>ZG _) ?_
  refine ⟨by kernel_rfl,?_⟩
  refine OpC.yld 0 rfl (ZA Zi Z Z Z Z Z Z Z Z Z (SrcA.sl Z Z Z Z (by decide) rfl) (Joins.ints (xs:=[]) (y:=0)) (by decide) (by decide) (by decide)) (fun d hd=>by cases hd;rfl) ?_
  iterate 2 refine ⟨fun h=>Z3 h,fun _=>?_⟩
  refine ⟨fun _=>?_,fun h=>Zv h⟩
  refine Z4 Z Z Z Z Z Z Z (fun _=>Z19 _) ?_
  refine ⟨fun _=>?_,fun h=>absurd (of_decide_eq_false h) (by show ¬ ¬ (0≤dst);omega)⟩
  refine ⟨fun _=>(show 0≤dst∧dst < 8 by omega),?_⟩
  refine ⟨(show dst.toNat < 8 by omega),?_⟩
  refine ⟨fun h=>Z3 h,fun _=>?_⟩
  refine ⟨1,Nat.le_refl _,by decide,rfl,⟨⟨rfl,rfl,rfl⟩,⟨rfl,rfl,rfl⟩,⟨rfl,rfl,rfl⟩,trivial⟩,⟨_,rfl⟩,Z1C,rfl⟩
 ·refine ⟨fun h=>Z3 h,fun _=>?_⟩
  exact ⟨rfl,_,rfl⟩
set_option maxHeartbeats 1000000 in
theorem Zhz (dst a b imm loc off ix sz fn pr su to:Int) (acq wk rel ze:Bool) (g:List Int) (hg:g.length=8) (hd:0≤dst∧dst < 8) (ha:0≤a∧a < 8) (ad:Option Addr) (cp:Nat)
 (hu:∀ ad2 cp2,CtrV Tryz.prog 44 [.imm IRow ir0 1 irenc [⟨[⟨2,dst,a,b,imm,loc,off,ix,sz,fn,acq,wk,rel,pr,su,to,ze⟩],ad,cp⟩] ad2 cp2] (.tup [.i .i64 0,.i .i64 0,.i .i64 0])) :
 Ctr Tryz.prog 17 [.imm In inZ 17 ienc [⟨2,dst,a,b,imm,loc,off,ix,sz,fn,acq,wk,rel,pr,su,to,ze⟩] ad cp,.agg [.ints .i64 8 g],.nils] [.gone 1] (fun r H=>r=.tup [.agg [.ints .i64 8 (g.set dst.toNat (rgG g a))],.nils,.sl 4 1 0 1 none 0,.i .i64 0]∧H=locH (g.set dst.toNat (rgG g a)) (g.set dst.toNat (rgG g a)) 1 [0]):=by
 refine ZE Zi (fn:=Tryz.f17) Z Z Z Z Z Z Z1C (show 1≤5 by decide) ?_
 refine Z3j (k:=3) 21 ir0 irenc [⟨[⟨2,dst,a,b,imm,loc,off,ix,sz,fn,acq,wk,rel,pr,su,to,ze⟩],ad,cp⟩] Z Z Z (Nat.le_refl _) ir_w (fun E=>rfl) (fun m V h j hj=>?_) (fun ad2=>?_)
 ·have hj:j < 1:=hj
  have:j=0:=by omega
  subst this
  exact Z3p _ m V h
 refine Z4 Z Z Z Z Z Z Z (fun _=>hu (some ad2) 1) ?_
 refine ⟨fun h=>Z3 h,fun _=>?_⟩
 refine WpC.shift (Shift.row (d:=8) rfl 0 3 [.ints .i64 0 []] (fun E=>rfl) (fun m V=>⟨⟨rfl,rfl⟩,trivial⟩)) ?_
 refine WpC.loop Zi (β:=Nat) (fun k=>k≤1) (fun k=>[(14,.i .i64 k),(8,.sl 4 k 0 k none 0),(7,.nils)]) (fun k=>locH (if k=0 then g else g.set dst.toNat (rgG g a)) tz8 k (List.replicate k 0)) (fun k=>1 - k) 0 50216813883093446110686315385661331328818843555711202870148 (Nat.zero_le _) ?_ ?_
 ·exact ⟨rfl,⟨⟨rfl,rfl,rfl⟩,⟨rfl,rfl,rfl⟩,⟨rfl,rfl,rfl⟩,trivial⟩,⟨[],rfl⟩,Z1C,rfl⟩
 intro k hk
 rcases (show k=0∨k=1 by omega) with rfl | rfl
 ·refine ⟨fun _=>?_,fun h=>Zv h⟩
  refine ⟨fun _=>(show (0:Int)≤0∧(0:Int) < 1 by decide),?_⟩
  refine WpC.dr Zi mixed 1 ?_
  refine Zp Z Z Z Z Z Z Z (fun _=>ZH _) ?_
  refine Zp Z Z Z Z Z Z Z (fun _=>ZG _) ?_
  refine ⟨by kernel_rfl,?_⟩
  refine OpC.yld 0 rfl (ZA Zi Z Z Z Z Z Z Z Z Z (SrcA.sl Z Z Z Z (by decide) rfl) (Joins.ints (xs:=[]) (y:=0)) (by decide) (by decide) (by decide)) (fun d hd=>by cases hd;rfl) ?_
  iterate 3 refine ⟨fun h=>Z3 h,fun _=>?_⟩
  refine ⟨fun _=>?_,fun h=>Zv h⟩
  refine ⟨fun _=>(show 0≤a∧a < 8 by omega),?_⟩
  refine ⟨fun _=>(show a.toNat < 8 by omega),?_⟩
  refine Z4 Z Z Z Z Z Z Z (fun _=>Z19 _) ?_
  refine ⟨fun _=>?_,fun h=>absurd (of_decide_eq_false h) (by show ¬ ¬ (0≤dst);omega)⟩
  refine ⟨fun _=>(show 0≤dst∧dst < 8 by omega),?_⟩
  refine ⟨(show dst.toNat < 8 by omega),?_⟩
  refine ⟨fun h=>Z3 h,fun _=>?_⟩
  refine ⟨1,Nat.le_refl _,by decide,rfl,⟨⟨rfl,rfl,rfl⟩,⟨rfl,rfl,rfl⟩,⟨rfl,rfl,rfl⟩,trivial⟩,⟨_,rfl⟩,Z1C,rfl⟩
 ·refine ⟨fun h=>Z3 h,fun _=>?_⟩
  exact ⟨rfl,_,rfl⟩
set_option maxHeartbeats 1000000 in
theorem ZhA (dst a b imm loc off ix sz fn pr su to:Int) (acq wk rel ze:Bool) (g:List Int) (hg:g.length=8) (hd:0≤dst∧dst < 8) (ha:0≤a∧a < 8) (hb:b = -1∨0≤b∧b < 8) (ad:Option Addr) (cp:Nat)
 (hu:∀ ad2 cp2,CtrV Tryz.prog 44 [.imm IRow ir0 1 irenc [⟨[⟨3,dst,a,b,imm,loc,off,ix,sz,fn,acq,wk,rel,pr,su,to,ze⟩],ad,cp⟩] ad2 cp2] (.tup [.i .i64 0,.i .i64 0,.i .i64 0])) :
 Ctr Tryz.prog 17 [.imm In inZ 17 ienc [⟨3,dst,a,b,imm,loc,off,ix,sz,fn,acq,wk,rel,pr,su,to,ze⟩] ad cp,.agg [.ints .i64 8 g],.nils] [.gone 1] (fun r H=>r=.tup [.agg [.ints .i64 8 (g.set dst.toNat (aluF fn (rgG g a) (if b = -1 then imm else rgG g b)))],.nils,.sl 4 1 0 1 none 0,.i .i64 0]∧H=locH (g.set dst.toNat (aluF fn (rgG g a) (if b = -1 then imm else rgG g b))) (g.set dst.toNat (aluF fn (rgG g a) (if b = -1 then imm else rgG g b))) 1 [0]):=by
 refine ZE Zi (fn:=Tryz.f17) Z Z Z Z Z Z Z1C (show 1≤5 by decide) ?_
 refine Z3j (k:=3) 21 ir0 irenc [⟨[⟨3,dst,a,b,imm,loc,off,ix,sz,fn,acq,wk,rel,pr,su,to,ze⟩],ad,cp⟩] Z Z Z (Nat.le_refl _) ir_w (fun E=>rfl) (fun m V h j hj=>?_) (fun ad2=>?_)
 ·have hj:j < 1:=hj
  have:j=0:=by omega
  subst this
  exact Z3p _ m V h
 refine Z4 Z Z Z Z Z Z Z (fun _=>hu (some ad2) 1) ?_
 refine ⟨fun h=>Z3 h,fun _=>?_⟩
 refine WpC.shift (Shift.row (d:=8) rfl 0 3 [.ints .i64 0 []] (fun E=>rfl) (fun m V=>⟨⟨rfl,rfl⟩,trivial⟩)) ?_
 refine WpC.loop Zi (β:=Nat) (fun k=>k≤1) (fun k=>[(14,.i .i64 k),(8,.sl 4 k 0 k none 0),(7,.nils)]) (fun k=>locH (if k=0 then g else g.set dst.toNat (aluF fn (rgG g a) (if b = -1 then imm else rgG g b))) tz8 k (List.replicate k 0)) (fun k=>1 - k) 0 50216813883093446110686315385661331328818843555711202870148 (Nat.zero_le _) ?_ ?_
 ·exact ⟨rfl,⟨⟨rfl,rfl,rfl⟩,⟨rfl,rfl,rfl⟩,⟨rfl,rfl,rfl⟩,trivial⟩,⟨[],rfl⟩,Z1C,rfl⟩
 intro k hk
 rcases (show k=0∨k=1 by omega) with rfl | rfl
 ·refine ⟨fun _=>?_,fun h=>Zv h⟩
  refine ⟨fun _=>(show (0:Int)≤0∧(0:Int) < 1 by decide),?_⟩
  refine WpC.dr Zi mixed 1 ?_
  refine Zp Z Z Z Z Z Z Z (fun _=>ZH _) ?_
  refine Zp Z Z Z Z Z Z Z (fun _=>ZG _) ?_
  refine ⟨by kernel_rfl,?_⟩
  refine OpC.yld 0 rfl (ZA Zi Z Z Z Z Z Z Z Z Z (SrcA.sl Z Z Z Z (by decide) rfl) (Joins.ints (xs:=[]) (y:=0)) (by decide) (by decide) (by decide)) (fun d hd=>by cases hd;rfl) ?_
  iterate 4 refine ⟨fun h=>Z3 h,fun _=>?_⟩
  refine ⟨fun _=>?_,fun h=>Zv h⟩
  refine WpC.dr Zi mixed 0 ?_
  refine ⟨fun _=>(show 0≤a∧a < 8 by omega),?_⟩
  refine ⟨fun _=>(show a.toNat < 8 by omega),?_⟩
  refine Z0 [1] Z Z Z Z Z Z (r:=.i .i64 (if b = -1 then imm else rgG g b)) (fun _ H1 hH=>Z2 (Z5l b imm g hb) (fun _=>rfl) _ [1] Z Z ⟨hH 1 (by simp),trivial⟩ rfl) ?_
  refine Zp Z Z Z Z Z Z Z (fun _=>ZeR fn (rgG g a) (if b = -1 then imm else rgG g b)) ?_
  refine ⟨by kernel_rfl,?_⟩
  refine Z4 Z Z Z Z Z Z Z (fun _=>Z19 _) ?_
  refine ⟨fun _=>?_,fun h=>absurd (of_decide_eq_false h) (by show ¬ ¬ (0≤dst);omega)⟩
  refine ⟨fun _=>(show 0≤dst∧dst < 8 by omega),?_⟩
  refine ⟨(show dst.toNat < 8 by omega),?_⟩
  refine ⟨fun h=>Z3 h,fun _=>?_⟩
  refine ⟨1,Nat.le_refl _,by decide,rfl,⟨⟨rfl,rfl,rfl⟩,⟨rfl,rfl,rfl⟩,⟨rfl,rfl,rfl⟩,trivial⟩,⟨_,rfl⟩,Z1C,rfl⟩
 ·refine ⟨fun h=>Z3 h,fun _=>?_⟩
  exact ⟨rfl,_,rfl⟩
set_option maxHeartbeats 1000000 in
theorem ZhB (dst a b imm loc off ix sz fn pr su to:Int) (acq wk rel ze:Bool) (g:List Int) (hg:g.length=8) (ha:0≤a∧a < 8) (ad:Option Addr) (cp:Nat)
 (hu:∀ ad2 cp2,CtrV Tryz.prog 44 [.imm IRow ir0 1 irenc [⟨[⟨9,dst,a,b,imm,loc,off,ix,sz,fn,acq,wk,rel,pr,su,1,ze⟩],ad,cp⟩] ad2 cp2] (.tup [.i .i64 0,.i .i64 0,.i .i64 0])) :
 Ctr Tryz.prog 17 [.imm In inZ 17 ienc [⟨9,dst,a,b,imm,loc,off,ix,sz,fn,acq,wk,rel,pr,su,1,ze⟩] ad cp,.agg [.ints .i64 8 g],.nils] [.gone 1] (fun r H=>r=.tup [.agg [.ints .i64 8 (g)],.nils,.sl 4 1 0 1 none 0,.i .i64 0]∧H=locH (g) (g) 1 [0]):=by
 refine ZE Zi (fn:=Tryz.f17) Z Z Z Z Z Z Z1C (show 1≤5 by decide) ?_
 refine Z3j (k:=3) 21 ir0 irenc [⟨[⟨9,dst,a,b,imm,loc,off,ix,sz,fn,acq,wk,rel,pr,su,1,ze⟩],ad,cp⟩] Z Z Z (Nat.le_refl _) ir_w (fun E=>rfl) (fun m V h j hj=>?_) (fun ad2=>?_)
 ·have hj:j < 1:=hj
  have:j=0:=by omega
  subst this
  exact Z3p _ m V h
 refine Z4 Z Z Z Z Z Z Z (fun _=>hu (some ad2) 1) ?_
 refine ⟨fun h=>Z3 h,fun _=>?_⟩
 refine WpC.shift (Shift.row (d:=8) rfl 0 3 [.ints .i64 0 []] (fun E=>rfl) (fun m V=>⟨⟨rfl,rfl⟩,trivial⟩)) ?_
 refine WpC.loop Zi (β:=Nat) (fun k=>k≤1) (fun k=>[(14,.i .i64 k),(8,.sl 4 k 0 k none 0),(7,.nils)]) (fun k=>locH (if k=0 then g else g) tz8 k (List.replicate k 0)) (fun k=>1 - k) 0 50216813883093446110686315385661331328818843555711202870148 (Nat.zero_le _) ?_ ?_
 ·exact ⟨rfl,⟨⟨rfl,rfl,rfl⟩,⟨rfl,rfl,rfl⟩,⟨rfl,rfl,rfl⟩,trivial⟩,⟨[],rfl⟩,Z1C,rfl⟩
 intro k hk
 rcases (show k=0∨k=1 by omega) with rfl | rfl
 ·refine ⟨fun _=>?_,fun h=>Zv h⟩
  refine ⟨fun _=>(show (0:Int)≤0∧(0:Int) < 1 by decide),?_⟩
  refine WpC.dr Zi mixed 1 ?_
  refine Zp Z Z Z Z Z Z Z (fun _=>ZH _) ?_
  refine Zp Z Z Z Z Z Z Z (fun _=>ZG _) ?_
  refine ⟨by kernel_rfl,?_⟩
  refine OpC.yld 0 rfl (ZA Zi Z Z Z Z Z Z Z Z Z (SrcA.sl Z Z Z Z (by decide) rfl) (Joins.ints (xs:=[]) (y:=0)) (by decide) (by decide) (by decide)) (fun d hd=>by cases hd;rfl) ?_
  iterate 7 refine ⟨fun h=>Z3 h,fun _=>?_⟩
  refine ⟨fun _=>?_,fun h=>Zv h⟩
  refine WpC.dr Zi mixed 0 ?_
  refine ⟨fun _=>(show 0≤a∧a < 8 by omega),?_⟩
  refine ⟨fun _=>(show a.toNat < 8 by omega),?_⟩
  refine ⟨by kernel_rfl,?_⟩
  refine ⟨fun _=>?_,fun _=>?_⟩
  ·refine Z4 Z Z Z Z Z Z Z (fun _=>Z19 _) ?_
   iterate 2 refine ⟨fun h=>Z3 h,fun _=>?_⟩
   refine ⟨1,Nat.le_refl _,by decide,rfl,⟨⟨rfl,rfl,rfl⟩,⟨rfl,rfl,rfl⟩,⟨rfl,rfl,rfl⟩,trivial⟩,⟨_,rfl⟩,Z1C,rfl⟩
  ·refine Z4 Z Z Z Z Z Z Z (fun _=>Z19 _) ?_
   iterate 2 refine ⟨fun h=>Z3 h,fun _=>?_⟩
   refine ⟨1,Nat.le_refl _,by decide,rfl,⟨⟨rfl,rfl,rfl⟩,⟨rfl,rfl,rfl⟩,⟨rfl,rfl,rfl⟩,trivial⟩,⟨_,rfl⟩,Z1C,rfl⟩
 ·refine ⟨fun h=>Z3 h,fun _=>?_⟩
  exact ⟨rfl,_,rfl⟩
end SX
end Go.Proofs.YtdddpbmcoimgdaaGreatDoor
