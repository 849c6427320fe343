/- A part of SX: symbolic and concrete runs of the program, with contracts of functions; lemmas without further conditions. Shortened by a tool (mini.py). -/
import Derived.Test.YtdddpbmcoimgdaaGreatDoorWBE
import Derived.Test.YtdddpbmcoimgdaaGreatDoorWAA
set_option linter.unusedVariables false
set_option linter.unusedSimpArgs false
set_option linter.unusedSectionVars false
set_option maxRecDepth 100000
namespace Go.Proofs.YtdddpbmcoimgdaaGreatDoor
namespace SX
open Go Go.Proofs
def odF (i:In) (old:Int):Int:=if rdB i=true then getF old 0 i.sz else 0
def nwF (g:List Int) (i:In) (old:Int):Int:=if i.op=5 then getF (rdtm g i) 0 i.sz else if i.op=6 then rmwF i.fn (odF i old) (rdtm g i) i.sz else 0
def Z3v (i:In):Int:=if memB i=true then i.loc else 0
def Z3w (g:List Int) (i:In):Int:=if memB i=true then mskF (plcF i.off (gtV g i.ix) i.sz) i.sz else 0
def evtF (t:Thr) (n:Nat) (old:Int):List SV:=[.i .i64 0,.i .i64 n,.i .i64 t.k,.i .i64 (t.r.xs.getD t.k inZ).op,.i .i64 (Z3v (t.r.xs.getD t.k inZ)),.i .i64 (Z3w t.g (t.r.xs.getD t.k inZ)),.b (rdB (t.r.xs.getD t.k inZ)),.b (wrB (t.r.xs.getD t.k inZ)),.i .i64 (odF (t.r.xs.getD t.k inZ) old),.i .i64 (nwF t.g (t.r.xs.getD t.k inZ) old),.b (t.r.xs.getD t.k inZ).acq,.b (t.r.xs.getD t.k inZ).wk,.b (t.r.xs.getD t.k inZ).rel,.i .i64 (t.r.xs.getD t.k inZ).pr,.i .i64 (t.r.xs.getD t.k inZ).su]
theorem Z6U {A:SV} {ty ty2:TypeId} {x y:Int} {p:List Int} {n m:Nat} {X:List SB} {g g2:List Int} (h:x=y) (hn:n=m) (hg:g=g2):SB.mem ty [A,.ints .i64 8 g,.i .i64 x,.sl 1 n 0 n none 0] 1 0::SB.mem ty2 [.ints .i64 n p] n 1::X=[SB.mem ty [A,.ints .i64 8 g2,.i .i64 y,.sl 1 m 0 m none 0] 1 0,SB.mem ty2 [.ints .i64 m p] m 1]++X:=by subst h hn hg;rfl
set_option maxHeartbeats 2000000 in
theorem step_4 (t:Thr) (p:List Int) (old:Int) (ht:ThOk t) (hp:p.length≤t.k) (hs:stdB t=true) (hop:(t.r.xs.getD t.k inZ).op=4):Ctr Tryz.prog 16 [.ptr 0 1 0 [],.i .i64 old] (rfH t p) (fun r H=>r=.agg (evtF t p.length old)∧H=rfH ⟨t.r,t.k+1,redF t.g (t.r.xs.getD t.k inZ) old⟩ (p++[(t.k:Int)])):=by
 have hkl:t.k < t.r.xs.length:=by unfold stdB at hs;exact of_decide_eq_true hs
 have hk8:=ht.c.l8
 have hf:=ht.c.fm _ hkl
 have hd:=(fm4 hf hop).1
 have hx:=ix8 (fm4 hf hop).2.1
 have hrd:rdB (t.r.xs.getD t.k inZ)=true:=by unfold rdB;rw [hop];rfl
 have hwr:wrB (t.r.xs.getD t.k inZ)=false:=by unfold wrB;rw [hop];rfl
 have hmm:memB (t.r.xs.getD t.k inZ)=true:=by unfold memB;rw [hop];rfl
 have hmr:((decide ((t.r.xs.getD t.k inZ).op=4)||decide ((t.r.xs.getD t.k inZ).op=5))||decide ((t.r.xs.getD t.k inZ).op=6))=true:=by rw [hop];rfl
 have h5:decide ((t.r.xs.getD t.k inZ).op=5)=false:=by rw [hop];rfl
 have h6:decide ((t.r.xs.getD t.k inZ).op=6)=false:=by rw [hop];rfl
 refine Z16 Zc (fn:=Tryz.f16) Z Z Z Z Z Z (Z1D (N:=0)) (Nat.le_refl _) ?_
 refine WpC.dr Zc mixed 1 ?_
 refine ⟨fun _=>(show (0:Int)≤(t.k:Int)∧(t.k:Int) < (t.r.xs.length:Int) by omega),?_⟩
 refine ⟨by kernel_rfl,?_⟩
 refine WpC.dr Zc mixed 1 ?_
 refine Zg Z Z Z Z Z Z Z (fun _=>Z47 (t.r.xs.getD t.k inZ)) ?_
 refine Zg Z Z Z Z Z Z Z (fun _=>Z3u (t.r.xs.getD t.k inZ)) ?_
 refine ⟨by kernel_rfl,?_⟩
 refine Z4 Z Z Z Z Z Z Z (fun _=>Z1i (t.r.xs.getD t.k inZ)) ?_
 refine ⟨fun _=>?_,fun h=>ZH (show ((decide ((t.r.xs.getD t.k inZ).op=4)||decide ((t.r.xs.getD t.k inZ).op=5))||decide ((t.r.xs.getD t.k inZ).op=6))=true from hmr) (show ((decide ((t.r.xs.getD t.k inZ).op=4)||decide ((t.r.xs.getD t.k inZ).op=5))||decide ((t.r.xs.getD t.k inZ).op=6))=false from h)⟩
 refine Z6 Z Z Z Z Z Z (r:=spnV (t.r.xs.getD t.k inZ) (gtV t.g (t.r.xs.getD t.k inZ).ix)) (fun _=>Z0 (Z2b t p (t.r.xs.getD t.k inZ) hx) (fun _=>rfl) _ [0,1] Z Z ⟨rfl,rfl,trivial⟩ rfl) ?_
 refine ⟨fun _=>?_,fun h=>ZH (show rdB (t.r.xs.getD t.k inZ)=true from hrd) (show rdB (t.r.xs.getD t.k inZ)=false from h)⟩
 refine Z4 Z Z Z Z Z Z Z (fun _=>Z20 old 0 (t.r.xs.getD t.k inZ).sz) ?_
 refine ⟨fun h=>ZH (show decide ((t.r.xs.getD t.k inZ).op=5)=true from h) (show decide ((t.r.xs.getD t.k inZ).op=5)=false from h5),fun _=>?_⟩
 refine ⟨fun h=>ZH (show decide ((t.r.xs.getD t.k inZ).op=6)=true from h) (show decide ((t.r.xs.getD t.k inZ).op=6)=false from h6),fun _=>?_⟩
 refine ⟨fun _=>?_,fun h=>ZH (show rdB (t.r.xs.getD t.k inZ)=true from hrd) (show rdB (t.r.xs.getD t.k inZ)=false from h)⟩
 refine WpC.dr Zc mixed 0 ?_
 refine ⟨fun _=>hd,?_⟩
 refine ⟨(show (t.r.xs.getD t.k inZ).dst.toNat < 8 by omega),?_⟩
 refine ⟨by kernel_rfl,?_⟩
 refine WpC.dr Zc mixed 1 ?_
 refine OpD.yld 6 Z Z Z42 (Zx Zc Z Z Z Z Z Z Z Z (by simp only [wdL,wd,Nat.add_zero,Nat.zero_add];exact (Nat.mul_one _).symm) (SrcA.sl Z Z Z Z (by decide) rfl) (Z5G p (t.k:Int)) (by decide) (Z21 (show p.length+1≤1000000 by omega) (Nat.le_refl _)) (by show (p.length+1) * 8≤140737488355328;omega)) ?_
 refine ⟨by kernel_rfl,?_⟩
 refine ⟨?_,_,Z6U (w_at hk8 hkl) (ln1 p (t.k:Int)) ?_⟩
 ·have e1:Z3v (t.r.xs.getD t.k inZ)=(t.r.xs.getD t.k inZ).loc:=by unfold Z3v;rw [hmm];rfl
  have e2:Z3w t.g (t.r.xs.getD t.k inZ)=mskF (plcF (t.r.xs.getD t.k inZ).off (gtV t.g (t.r.xs.getD t.k inZ).ix) (t.r.xs.getD t.k inZ).sz) (t.r.xs.getD t.k inZ).sz:=by unfold Z3w;rw [hmm];rfl
  have e3:odF (t.r.xs.getD t.k inZ) old=getF old 0 (t.r.xs.getD t.k inZ).sz:=by unfold odF;rw [hrd];rfl
  have e4:nwF t.g (t.r.xs.getD t.k inZ) old=0:=by unfold nwF;rw [if_neg (by rw [hop];decide),if_neg (by rw [hop];decide)]
  have hE:evtF t p.length old=[.i .i64 0,.i .i64 p.length,.i .i64 t.k,.i .i64 (t.r.xs.getD t.k inZ).op,.i .i64 ((t.r.xs.getD t.k inZ).loc),.i .i64 (mskF (plcF (t.r.xs.getD t.k inZ).off (gtV t.g (t.r.xs.getD t.k inZ).ix) (t.r.xs.getD t.k inZ).sz) (t.r.xs.getD t.k inZ).sz),.b (rdB (t.r.xs.getD t.k inZ)),.b (wrB (t.r.xs.getD t.k inZ)),.i .i64 (getF old 0 (t.r.xs.getD t.k inZ).sz),.i .i64 (0),.b (t.r.xs.getD t.k inZ).acq,.b (t.r.xs.getD t.k inZ).wk,.b (t.r.xs.getD t.k inZ).rel,.i .i64 (t.r.xs.getD t.k inZ).pr,.i .i64 (t.r.xs.getD t.k inZ).su]:=by
   unfold evtF
   rw [e1,e2,e3,e4]
  rw [hE]
  rfl
 ·unfold redF
  rw [hrd];rfl
set_option maxHeartbeats 2000000 in
theorem step_5 (t:Thr) (p:List Int) (old:Int) (ht:ThOk t) (hp:p.length≤t.k) (hs:stdB t=true) (hop:(t.r.xs.getD t.k inZ).op=5):Ctr Tryz.prog 16 [.ptr 0 1 0 [],.i .i64 old] (rfH t p) (fun r H=>r=.agg (evtF t p.length old)∧H=rfH ⟨t.r,t.k+1,redF t.g (t.r.xs.getD t.k inZ) old⟩ (p++[(t.k:Int)])):=by
 have hkl:t.k < t.r.xs.length:=by unfold stdB at hs;exact of_decide_eq_true hs
 have hk8:=ht.c.l8
 have hf:=ht.c.fm _ hkl
 have hx:=ix8 (fm5 hf hop).1
 have ha:(t.r.xs.getD t.k inZ).a < 8:=by rcases (fm5 hf hop).2.1 with h | h <;> omega
 have hrd:rdB (t.r.xs.getD t.k inZ)=false:=by unfold rdB;rw [hop];rfl
 have hwr:wrB (t.r.xs.getD t.k inZ)=true:=by unfold wrB;rw [hop];rfl
 have hmm:memB (t.r.xs.getD t.k inZ)=true:=by unfold memB;rw [hop];rfl
 have hmr:((decide ((t.r.xs.getD t.k inZ).op=4)||decide ((t.r.xs.getD t.k inZ).op=5))||decide ((t.r.xs.getD t.k inZ).op=6))=true:=by rw [hop];rfl
 have h5:decide ((t.r.xs.getD t.k inZ).op=5)=true:=by rw [hop];rfl
 have h6:decide ((t.r.xs.getD t.k inZ).op=6)=false:=by rw [hop];rfl
 refine Z16 Zc (fn:=Tryz.f16) Z Z Z Z Z Z (Z1D (N:=0)) (Nat.le_refl _) ?_
 refine WpC.dr Zc mixed 1 ?_
 refine ⟨fun _=>(show (0:Int)≤(t.k:Int)∧(t.k:Int) < (t.r.xs.length:Int) by omega),?_⟩
 refine ⟨by kernel_rfl,?_⟩
 refine WpC.dr Zc mixed 1 ?_
 refine Zg Z Z Z Z Z Z Z (fun _=>Z47 (t.r.xs.getD t.k inZ)) ?_
 refine Zg Z Z Z Z Z Z Z (fun _=>Z3u (t.r.xs.getD t.k inZ)) ?_
 refine ⟨by kernel_rfl,?_⟩
 refine Z4 Z Z Z Z Z Z Z (fun _=>Z1i (t.r.xs.getD t.k inZ)) ?_
 refine ⟨fun _=>?_,fun h=>ZH (show ((decide ((t.r.xs.getD t.k inZ).op=4)||decide ((t.r.xs.getD t.k inZ).op=5))||decide ((t.r.xs.getD t.k inZ).op=6))=true from hmr) (show ((decide ((t.r.xs.getD t.k inZ).op=4)||decide ((t.r.xs.getD t.k inZ).op=5))||decide ((t.r.xs.getD t.k inZ).op=6))=false from h)⟩
 refine Z6 Z Z Z Z Z Z (r:=spnV (t.r.xs.getD t.k inZ) (gtV t.g (t.r.xs.getD t.k inZ).ix)) (fun _=>Z0 (Z2b t p (t.r.xs.getD t.k inZ) hx) (fun _=>rfl) _ [0,1] Z Z ⟨rfl,rfl,trivial⟩ rfl) ?_
 refine ⟨fun h=>ZH (show rdB (t.r.xs.getD t.k inZ)=true from h) (show rdB (t.r.xs.getD t.k inZ)=false from hrd),fun _=>?_⟩
 refine ⟨fun _=>?_,fun h=>ZH (show decide ((t.r.xs.getD t.k inZ).op=5)=true from h5) (show decide ((t.r.xs.getD t.k inZ).op=5)=false from h)⟩
 refine WpC.dr Zc mixed 0 ?_
 refine Z1 [0,1] Z Z Z Z Z Z (r:=.i .i64 (rdtm t.g (t.r.xs.getD t.k inZ))) (fun _ H1 hH=>Z0 (Z2x t p (t.r.xs.getD t.k inZ) ha) (fun _=>rfl) _ [0,1] Z Z ⟨hH 0 (by simp),hH 1 (by simp),trivial⟩ rfl) ?_
 refine Zg Z Z Z Z Z Z Z (fun _=>Z20 (rdtm t.g (t.r.xs.getD t.k inZ)) 0 (t.r.xs.getD t.k inZ).sz) ?_
 refine ⟨by kernel_rfl,?_⟩
 refine ⟨fun h=>ZH (show decide ((t.r.xs.getD t.k inZ).op=6)=true from h) (show decide ((t.r.xs.getD t.k inZ).op=6)=false from h6),fun _=>?_⟩
 refine ⟨fun h=>ZH (show rdB (t.r.xs.getD t.k inZ)=true from h) (show rdB (t.r.xs.getD t.k inZ)=false from hrd),fun _=>?_⟩
 refine WpC.dr Zc mixed 1 ?_
 refine OpD.yld 6 Z Z Z42 (Zx Zc Z Z Z Z Z Z Z Z (by simp only [wdL,wd,Nat.add_zero,Nat.zero_add];exact (Nat.mul_one _).symm) (SrcA.sl Z Z Z Z (by decide) rfl) (Z5G p (t.k:Int)) (by decide) (Z21 (show p.length+1≤1000000 by omega) (Nat.le_refl _)) (by show (p.length+1) * 8≤140737488355328;omega)) ?_
 refine ⟨by kernel_rfl,?_⟩
 refine ⟨?_,_,Z6U (w_at hk8 hkl) (ln1 p (t.k:Int)) ?_⟩
 ·have e1:Z3v (t.r.xs.getD t.k inZ)=(t.r.xs.getD t.k inZ).loc:=by unfold Z3v;rw [hmm];rfl
  have e2:Z3w t.g (t.r.xs.getD t.k inZ)=mskF (plcF (t.r.xs.getD t.k inZ).off (gtV t.g (t.r.xs.getD t.k inZ).ix) (t.r.xs.getD t.k inZ).sz) (t.r.xs.getD t.k inZ).sz:=by unfold Z3w;rw [hmm];rfl
  have e3:odF (t.r.xs.getD t.k inZ) old=0:=by unfold odF;rw [hrd];rfl
  have e4:nwF t.g (t.r.xs.getD t.k inZ) old=getF (rdtm t.g (t.r.xs.getD t.k inZ)) 0 (t.r.xs.getD t.k inZ).sz:=by unfold nwF;rw [if_pos hop]
  have hE:evtF t p.length old=[.i .i64 0,.i .i64 p.length,.i .i64 t.k,.i .i64 (t.r.xs.getD t.k inZ).op,.i .i64 ((t.r.xs.getD t.k inZ).loc),.i .i64 (mskF (plcF (t.r.xs.getD t.k inZ).off (gtV t.g (t.r.xs.getD t.k inZ).ix) (t.r.xs.getD t.k inZ).sz) (t.r.xs.getD t.k inZ).sz),.b (rdB (t.r.xs.getD t.k inZ)),.b (wrB (t.r.xs.getD t.k inZ)),.i .i64 (0),.i .i64 (getF (rdtm t.g (t.r.xs.getD t.k inZ)) 0 (t.r.xs.getD t.k inZ).sz),.b (t.r.xs.getD t.k inZ).acq,.b (t.r.xs.getD t.k inZ).wk,.b (t.r.xs.getD t.k inZ).rel,.i .i64 (t.r.xs.getD t.k inZ).pr,.i .i64 (t.r.xs.getD t.k inZ).su]:=by
   unfold evtF
   rw [e1,e2,e3,e4]
  rw [hE]
  rfl
 ·unfold redF
  rw [hrd];rfl
set_option maxHeartbeats 2000000 in
theorem step_6 (t:Thr) (p:List Int) (old:Int) (ht:ThOk t) (hp:p.length≤t.k) (hs:stdB t=true) (hop:(t.r.xs.getD t.k inZ).op=6):Ctr Tryz.prog 16 [.ptr 0 1 0 [],.i .i64 old] (rfH t p) (fun r H=>r=.agg (evtF t p.length old)∧H=rfH ⟨t.r,t.k+1,redF t.g (t.r.xs.getD t.k inZ) old⟩ (p++[(t.k:Int)])):=by
 have hkl:t.k < t.r.xs.length:=by unfold stdB at hs;exact of_decide_eq_true hs
 have hk8:=ht.c.l8
 have hf:=ht.c.fm _ hkl
 have hd:=(fm6 hf hop).1
 have ha:=(fm6 hf hop).2.1
 have hx:=ix8 (fm6 hf hop).2.2.1
 have hrd:rdB (t.r.xs.getD t.k inZ)=true:=by unfold rdB;rw [hop];rfl
 have hwr:wrB (t.r.xs.getD t.k inZ)=true:=by unfold wrB;rw [hop];rfl
 have hmm:memB (t.r.xs.getD t.k inZ)=true:=by unfold memB;rw [hop];rfl
 have hmr:((decide ((t.r.xs.getD t.k inZ).op=4)||decide ((t.r.xs.getD t.k inZ).op=5))||decide ((t.r.xs.getD t.k inZ).op=6))=true:=by rw [hop];rfl
 have h5:decide ((t.r.xs.getD t.k inZ).op=5)=false:=by rw [hop];rfl
 have h6:decide ((t.r.xs.getD t.k inZ).op=6)=true:=by rw [hop];rfl
 refine Z16 Zc (fn:=Tryz.f16) Z Z Z Z Z Z (Z1D (N:=0)) (Nat.le_refl _) ?_
 refine WpC.dr Zc mixed 1 ?_
 refine ⟨fun _=>(show (0:Int)≤(t.k:Int)∧(t.k:Int) < (t.r.xs.length:Int) by omega),?_⟩
 refine ⟨by kernel_rfl,?_⟩
 refine WpC.dr Zc mixed 1 ?_
 refine Zg Z Z Z Z Z Z Z (fun _=>Z47 (t.r.xs.getD t.k inZ)) ?_
 refine Zg Z Z Z Z Z Z Z (fun _=>Z3u (t.r.xs.getD t.k inZ)) ?_
 refine ⟨by kernel_rfl,?_⟩
 refine Z4 Z Z Z Z Z Z Z (fun _=>Z1i (t.r.xs.getD t.k inZ)) ?_
 refine ⟨fun _=>?_,fun h=>ZH (show ((decide ((t.r.xs.getD t.k inZ).op=4)||decide ((t.r.xs.getD t.k inZ).op=5))||decide ((t.r.xs.getD t.k inZ).op=6))=true from hmr) (show ((decide ((t.r.xs.getD t.k inZ).op=4)||decide ((t.r.xs.getD t.k inZ).op=5))||decide ((t.r.xs.getD t.k inZ).op=6))=false from h)⟩
 refine Z6 Z Z Z Z Z Z (r:=spnV (t.r.xs.getD t.k inZ) (gtV t.g (t.r.xs.getD t.k inZ).ix)) (fun _=>Z0 (Z2b t p (t.r.xs.getD t.k inZ) hx) (fun _=>rfl) _ [0,1] Z Z ⟨rfl,rfl,trivial⟩ rfl) ?_
 refine ⟨fun _=>?_,fun h=>ZH (show rdB (t.r.xs.getD t.k inZ)=true from hrd) (show rdB (t.r.xs.getD t.k inZ)=false from h)⟩
 refine Z4 Z Z Z Z Z Z Z (fun _=>Z20 old 0 (t.r.xs.getD t.k inZ).sz) ?_
 refine ⟨fun h=>ZH (show decide ((t.r.xs.getD t.k inZ).op=5)=true from h) (show decide ((t.r.xs.getD t.k inZ).op=5)=false from h5),fun _=>?_⟩
 refine ⟨fun _=>?_,fun h=>ZH (show decide ((t.r.xs.getD t.k inZ).op=6)=true from h6) (show decide ((t.r.xs.getD t.k inZ).op=6)=false from h)⟩
 refine WpC.dr Zc mixed 0 ?_
 refine Z1 [0,1] Z Z Z Z Z Z (r:=.i .i64 (rdtm t.g (t.r.xs.getD t.k inZ))) (fun _ H1 hH=>Z0 (Z2x t p (t.r.xs.getD t.k inZ) ha.2) (fun _=>rfl) _ [0,1] Z Z ⟨hH 0 (by simp),hH 1 (by simp),trivial⟩ rfl) ?_
 refine Zg Z Z Z Z Z Z Z (fun _=>Zif (t.r.xs.getD t.k inZ).fn (getF old 0 (t.r.xs.getD t.k inZ).sz) (rdtm t.g (t.r.xs.getD t.k inZ)) (t.r.xs.getD t.k inZ).sz) ?_
 refine ⟨by kernel_rfl,?_⟩
 refine ⟨fun _=>?_,fun h=>ZH (show rdB (t.r.xs.getD t.k inZ)=true from hrd) (show rdB (t.r.xs.getD t.k inZ)=false from h)⟩
 refine WpC.dr Zc mixed 0 ?_
 refine ⟨fun _=>hd,?_⟩
 refine ⟨(show (t.r.xs.getD t.k inZ).dst.toNat < 8 by omega),?_⟩
 refine ⟨by kernel_rfl,?_⟩
 refine WpC.dr Zc mixed 1 ?_
 refine OpD.yld 6 Z Z Z42 (Zx Zc Z Z Z Z Z Z Z Z (by simp only [wdL,wd,Nat.add_zero,Nat.zero_add];exact (Nat.mul_one _).symm) (SrcA.sl Z Z Z Z (by decide) rfl) (Z5G p (t.k:Int)) (by decide) (Z21 (show p.length+1≤1000000 by omega) (Nat.le_refl _)) (by show (p.length+1) * 8≤140737488355328;omega)) ?_
 refine ⟨by kernel_rfl,?_⟩
 refine ⟨?_,_,Z6U (w_at hk8 hkl) (ln1 p (t.k:Int)) ?_⟩
 ·have e1:Z3v (t.r.xs.getD t.k inZ)=(t.r.xs.getD t.k inZ).loc:=by unfold Z3v;rw [hmm];rfl
  have e2:Z3w t.g (t.r.xs.getD t.k inZ)=mskF (plcF (t.r.xs.getD t.k inZ).off (gtV t.g (t.r.xs.getD t.k inZ).ix) (t.r.xs.getD t.k inZ).sz) (t.r.xs.getD t.k inZ).sz:=by unfold Z3w;rw [hmm];rfl
  have e3:odF (t.r.xs.getD t.k inZ) old=getF old 0 (t.r.xs.getD t.k inZ).sz:=by unfold odF;rw [hrd];rfl
  have e4:nwF t.g (t.r.xs.getD t.k inZ) old=rmwF (t.r.xs.getD t.k inZ).fn (getF old 0 (t.r.xs.getD t.k inZ).sz) (rdtm t.g (t.r.xs.getD t.k inZ)) (t.r.xs.getD t.k inZ).sz:=by unfold nwF;rw [if_neg (by rw [hop];decide),if_pos hop,e3]
  have hE:evtF t p.length old=[.i .i64 0,.i .i64 p.length,.i .i64 t.k,.i .i64 (t.r.xs.getD t.k inZ).op,.i .i64 ((t.r.xs.getD t.k inZ).loc),.i .i64 (mskF (plcF (t.r.xs.getD t.k inZ).off (gtV t.g (t.r.xs.getD t.k inZ).ix) (t.r.xs.getD t.k inZ).sz) (t.r.xs.getD t.k inZ).sz),.b (rdB (t.r.xs.getD t.k inZ)),.b (wrB (t.r.xs.getD t.k inZ)),.i .i64 (getF old 0 (t.r.xs.getD t.k inZ).sz),.i .i64 (rmwF (t.r.xs.getD t.k inZ).fn (getF old 0 (t.r.xs.getD t.k inZ).sz) (rdtm t.g (t.r.xs.getD t.k inZ)) (t.r.xs.getD t.k inZ).sz),.b (t.r.xs.getD t.k inZ).acq,.b (t.r.xs.getD t.k inZ).wk,.b (t.r.xs.getD t.k inZ).rel,.i .i64 (t.r.xs.getD t.k inZ).pr,.i .i64 (t.r.xs.getD t.k inZ).su]:=by
   unfold evtF
   rw [e1,e2,e3,e4]
  rw [hE]
  rfl
 ·unfold redF
  rw [hrd];rfl
set_option maxHeartbeats 2000000 in
theorem step_7 (t:Thr) (p:List Int) (old:Int) (ht:ThOk t) (hp:p.length≤t.k) (hs:stdB t=true) (hop:(t.r.xs.getD t.k inZ).op=7):Ctr Tryz.prog 16 [.ptr 0 1 0 [],.i .i64 old] (rfH t p) (fun r H=>r=.agg (evtF t p.length old)∧H=rfH ⟨t.r,t.k+1,redF t.g (t.r.xs.getD t.k inZ) old⟩ (p++[(t.k:Int)])):=by
 have hkl:t.k < t.r.xs.length:=by unfold stdB at hs;exact of_decide_eq_true hs
 have hk8:=ht.c.l8
 have hf:=ht.c.fm _ hkl
 have hrd:rdB (t.r.xs.getD t.k inZ)=false:=by unfold rdB;rw [hop];rfl
 have hwr:wrB (t.r.xs.getD t.k inZ)=false:=by unfold wrB;rw [hop];rfl
 have hmm:memB (t.r.xs.getD t.k inZ)=false:=by unfold memB;rw [hop];rfl
 have hmr:((decide ((t.r.xs.getD t.k inZ).op=4)||decide ((t.r.xs.getD t.k inZ).op=5))||decide ((t.r.xs.getD t.k inZ).op=6))=false:=by rw [hop];rfl
 have h5:decide ((t.r.xs.getD t.k inZ).op=5)=false:=by rw [hop];rfl
 have h6:decide ((t.r.xs.getD t.k inZ).op=6)=false:=by rw [hop];rfl
 refine Z16 Zc (fn:=Tryz.f16) Z Z Z Z Z Z (Z1D (N:=0)) (Nat.le_refl _) ?_
 refine WpC.dr Zc mixed 1 ?_
 refine ⟨fun _=>(show (0:Int)≤(t.k:Int)∧(t.k:Int) < (t.r.xs.length:Int) by omega),?_⟩
 refine ⟨by kernel_rfl,?_⟩
 refine WpC.dr Zc mixed 1 ?_
 refine Zg Z Z Z Z Z Z Z (fun _=>Z47 (t.r.xs.getD t.k inZ)) ?_
 refine Zg Z Z Z Z Z Z Z (fun _=>Z3u (t.r.xs.getD t.k inZ)) ?_
 refine ⟨by kernel_rfl,?_⟩
 refine Z4 Z Z Z Z Z Z Z (fun _=>Z1i (t.r.xs.getD t.k inZ)) ?_
 refine ⟨fun h=>ZH (show ((decide ((t.r.xs.getD t.k inZ).op=4)||decide ((t.r.xs.getD t.k inZ).op=5))||decide ((t.r.xs.getD t.k inZ).op=6))=true from h) (show ((decide ((t.r.xs.getD t.k inZ).op=4)||decide ((t.r.xs.getD t.k inZ).op=5))||decide ((t.r.xs.getD t.k inZ).op=6))=false from hmr),fun _=>?_⟩
 refine ⟨fun h=>ZH (show rdB (t.r.xs.getD t.k inZ)=true from h) (show rdB (t.r.xs.getD t.k inZ)=false from hrd),fun _=>?_⟩
 refine ⟨fun h=>ZH (show decide ((t.r.xs.getD t.k inZ).op=5)=true from h) (show decide ((t.r.xs.getD t.k inZ).op=5)=false from h5),fun _=>?_⟩
 refine ⟨fun h=>ZH (show decide ((t.r.xs.getD t.k inZ).op=6)=true from h) (show decide ((t.r.xs.getD t.k inZ).op=6)=false from h6),fun _=>?_⟩
 refine ⟨fun h=>ZH (show rdB (t.r.xs.getD t.k inZ)=true from h) (show rdB (t.r.xs.getD t.k inZ)=false from hrd),fun _=>?_⟩
 refine WpC.dr Zc mixed 1 ?_
 refine OpD.yld 6 Z Z Z42 (Zx Zc Z Z Z Z Z Z Z Z (by simp only [wdL,wd,Nat.add_zero,Nat.zero_add];exact (Nat.mul_one _).symm) (SrcA.sl Z Z Z Z (by decide) rfl) (Z5G p (t.k:Int)) (by decide) (Z21 (show p.length+1≤1000000 by omega) (Nat.le_refl _)) (by show (p.length+1) * 8≤140737488355328;omega)) ?_
 refine ⟨by kernel_rfl,?_⟩
 refine ⟨?_,_,Z6U (w_at hk8 hkl) (ln1 p (t.k:Int)) ?_⟩
 ·have e1:Z3v (t.r.xs.getD t.k inZ)=0:=by unfold Z3v;rw [hmm];rfl
  have e2:Z3w t.g (t.r.xs.getD t.k inZ)=0:=by unfold Z3w;rw [hmm];rfl
  have e3:odF (t.r.xs.getD t.k inZ) old=0:=by unfold odF;rw [hrd];rfl
  have e4:nwF t.g (t.r.xs.getD t.k inZ) old=0:=by unfold nwF;rw [if_neg (by rw [hop];decide),if_neg (by rw [hop];decide)]
  have hE:evtF t p.length old=[.i .i64 0,.i .i64 p.length,.i .i64 t.k,.i .i64 (t.r.xs.getD t.k inZ).op,.i .i64 (0),.i .i64 (0),.b (rdB (t.r.xs.getD t.k inZ)),.b (wrB (t.r.xs.getD t.k inZ)),.i .i64 (0),.i .i64 (0),.b (t.r.xs.getD t.k inZ).acq,.b (t.r.xs.getD t.k inZ).wk,.b (t.r.xs.getD t.k inZ).rel,.i .i64 (t.r.xs.getD t.k inZ).pr,.i .i64 (t.r.xs.getD t.k inZ).su]:=by
   unfold evtF
   rw [e1,e2,e3,e4]
  rw [hE]
  rfl
 ·unfold redF
  rw [hrd];rfl
set_option maxHeartbeats 2000000 in
theorem step_8 (t:Thr) (p:List Int) (old:Int) (ht:ThOk t) (hp:p.length≤t.k) (hs:stdB t=true) (hop:(t.r.xs.getD t.k inZ).op=8):Ctr Tryz.prog 16 [.ptr 0 1 0 [],.i .i64 old] (rfH t p) (fun r H=>r=.agg (evtF t p.length old)∧H=rfH ⟨t.r,t.k+1,redF t.g (t.r.xs.getD t.k inZ) old⟩ (p++[(t.k:Int)])):=by
 have hkl:t.k < t.r.xs.length:=by unfold stdB at hs;exact of_decide_eq_true hs
 have hk8:=ht.c.l8
 have hf:=ht.c.fm _ hkl
 have hrd:rdB (t.r.xs.getD t.k inZ)=false:=by unfold rdB;rw [hop];rfl
 have hwr:wrB (t.r.xs.getD t.k inZ)=false:=by unfold wrB;rw [hop];rfl
 have hmm:memB (t.r.xs.getD t.k inZ)=false:=by unfold memB;rw [hop];rfl
 have hmr:((decide ((t.r.xs.getD t.k inZ).op=4)||decide ((t.r.xs.getD t.k inZ).op=5))||decide ((t.r.xs.getD t.k inZ).op=6))=false:=by rw [hop];rfl
 have h5:decide ((t.r.xs.getD t.k inZ).op=5)=false:=by rw [hop];rfl
 have h6:decide ((t.r.xs.getD t.k inZ).op=6)=false:=by rw [hop];rfl
 refine Z16 Zc (fn:=Tryz.f16) Z Z Z Z Z Z (Z1D (N:=0)) (Nat.le_refl _) ?_
 refine WpC.dr Zc mixed 1 ?_
 refine ⟨fun _=>(show (0:Int)≤(t.k:Int)∧(t.k:Int) < (t.r.xs.length:Int) by omega),?_⟩
 refine ⟨by kernel_rfl,?_⟩
 refine WpC.dr Zc mixed 1 ?_
 refine Zg Z Z Z Z Z Z Z (fun _=>Z47 (t.r.xs.getD t.k inZ)) ?_
 refine Zg Z Z Z Z Z Z Z (fun _=>Z3u (t.r.xs.getD t.k inZ)) ?_
 refine ⟨by kernel_rfl,?_⟩
 refine Z4 Z Z Z Z Z Z Z (fun _=>Z1i (t.r.xs.getD t.k inZ)) ?_
 refine ⟨fun h=>ZH (show ((decide ((t.r.xs.getD t.k inZ).op=4)||decide ((t.r.xs.getD t.k inZ).op=5))||decide ((t.r.xs.getD t.k inZ).op=6))=true from h) (show ((decide ((t.r.xs.getD t.k inZ).op=4)||decide ((t.r.xs.getD t.k inZ).op=5))||decide ((t.r.xs.getD t.k inZ).op=6))=false from hmr),fun _=>?_⟩
 refine ⟨fun h=>ZH (show rdB (t.r.xs.getD t.k inZ)=true from h) (show rdB (t.r.xs.getD t.k inZ)=false from hrd),fun _=>?_⟩
 refine ⟨fun h=>ZH (show decide ((t.r.xs.getD t.k inZ).op=5)=true from h) (show decide ((t.r.xs.getD t.k inZ).op=5)=false from h5),fun _=>?_⟩
 refine ⟨fun h=>ZH (show decide ((t.r.xs.getD t.k inZ).op=6)=true from h) (show decide ((t.r.xs.getD t.k inZ).op=6)=false from h6),fun _=>?_⟩
 refine ⟨fun h=>ZH (show rdB (t.r.xs.getD t.k inZ)=true from h) (show rdB (t.r.xs.getD t.k inZ)=false from hrd),fun _=>?_⟩
 refine WpC.dr Zc mixed 1 ?_
 refine OpD.yld 6 Z Z Z42 (Zx Zc Z Z Z Z Z Z Z Z (by simp only [wdL,wd,Nat.add_zero,Nat.zero_add];exact (Nat.mul_one _).symm) (SrcA.sl Z Z Z Z (by decide) rfl) (Z5G p (t.k:Int)) (by decide) (Z21 (show p.length+1≤1000000 by omega) (Nat.le_refl _)) (by show (p.length+1) * 8≤140737488355328;omega)) ?_
 refine ⟨by kernel_rfl,?_⟩
 refine ⟨?_,_,Z6U (w_at hk8 hkl) (ln1 p (t.k:Int)) ?_⟩
 ·have e1:Z3v (t.r.xs.getD t.k inZ)=0:=by unfold Z3v;rw [hmm];rfl
  have e2:Z3w t.g (t.r.xs.getD t.k inZ)=0:=by unfold Z3w;rw [hmm];rfl
  have e3:odF (t.r.xs.getD t.k inZ) old=0:=by unfold odF;rw [hrd];rfl
  have e4:nwF t.g (t.r.xs.getD t.k inZ) old=0:=by unfold nwF;rw [if_neg (by rw [hop];decide),if_neg (by rw [hop];decide)]
  have hE:evtF t p.length old=[.i .i64 0,.i .i64 p.length,.i .i64 t.k,.i .i64 (t.r.xs.getD t.k inZ).op,.i .i64 (0),.i .i64 (0),.b (rdB (t.r.xs.getD t.k inZ)),.b (wrB (t.r.xs.getD t.k inZ)),.i .i64 (0),.i .i64 (0),.b (t.r.xs.getD t.k inZ).acq,.b (t.r.xs.getD t.k inZ).wk,.b (t.r.xs.getD t.k inZ).rel,.i .i64 (t.r.xs.getD t.k inZ).pr,.i .i64 (t.r.xs.getD t.k inZ).su]:=by
   unfold evtF
   rw [e1,e2,e3,e4]
  rw [hE]
  rfl
 ·unfold redF
  rw [hrd];rfl
theorem Z4u (t:Thr) (p:List Int) (old:Int) (ht:ThOk t) (hp:p.length≤t.k) (hs:stdB t=true) (hst:stpB (t.r.xs.getD t.k inZ)=true):Ctr Tryz.prog 16 [.ptr 0 1 0 [],.i .i64 old] (rfH t p) (fun r H=>r=.agg (evtF t p.length old)∧H=rfH ⟨t.r,t.k+1,redF t.g (t.r.xs.getD t.k inZ) old⟩ (p++[(t.k:Int)])):=by
 have h:(t.r.xs.getD t.k inZ).op=4∨(t.r.xs.getD t.k inZ).op=5∨(t.r.xs.getD t.k inZ).op=6∨(t.r.xs.getD t.k inZ).op=7∨(t.r.xs.getD t.k inZ).op=8:=by
  unfold stpB memB at hst
  simp only [Bool.or_eq_true,decide_eq_true_eq] at hst
  omega
 rcases h with h | h | h | h | h
 ·exact step_4 t p old ht hp hs h
 ·exact step_5 t p old ht hp hs h
 ·exact step_6 t p old ht hp hs h
 ·exact step_7 t p old ht hp hs h
 ·exact step_8 t p old ht hp hs h
end SX
end Go.Proofs.YtdddpbmcoimgdaaGreatDoor
