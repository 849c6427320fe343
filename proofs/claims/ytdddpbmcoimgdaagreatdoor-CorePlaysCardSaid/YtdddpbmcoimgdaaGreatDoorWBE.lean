/- A part of SX: symbolic and concrete runs of the program, with contracts of functions; lemmas without further conditions. Shortened by a tool (mini.py). -/
import Derived.Test.YtdddpbmcoimgdaaGreatDoorWBB
import Derived.Test.YtdddpbmcoimgdaaGreatDoorWAA
set_option linter.unusedVariables false
set_option linter.unusedSimpArgs false
set_option linter.unusedSectionVars false
set_option maxRecDepth 100000
namespace Go.Proofs.YtdddpbmcoimgdaaGreatDoor
namespace SX
open Go Go.Proofs
def rfH (t:Thr) (p:List Int):List SB:=[.mem 41 [.imm In inZ 17 ienc t.r.xs t.r.a t.r.cap,.ints .i64 8 t.g,.i .i64 t.k,.sl 1 p.length 0 p.length none 0] 1 0,.mem 3 [.ints .i64 p.length p] p.length 1]
theorem Z1D {N:Nat} {t:Thr} {p:List Int}:BndH (N+2) (rfH t p):=by
 refine ⟨⟨rfl,rfl,rfl,?_,trivial⟩,⟨rfl,trivial⟩,trivial⟩
 show Nat.blt 1 (N+2)=true
 exact Nat.ble_eq_true_of_le (by omega)
def gtV (g:List Int) (r:Int):Int:=if r < 0 then 0 else rgG g r
theorem Zca (t:Thr) (p:List Int) (r:Int) (hr:r < 8):Ctr Tryz.prog 107 [.ptr 0 1 0 [],.i .i64 r] (rfH t p) (fun r' H=>r'=.i .i64 (gtV t.g r)∧H=rfH t p):=by
 refine Za Zc (fn:=Tryz.f107) Z Z Z Z Z Z Z1D ?_
 refine ⟨fun h=>?_,fun h=>?_⟩
 ·have h:decide (r < 0)=true:=h
  exact ⟨i_cg (by unfold gtV;rw [if_pos (of_decide_eq_true h)]),_,rfl⟩
 ·have h:decide (r < 0)=false:=h
  have h:=of_decide_eq_false h
  refine ⟨fun _=>(show 0≤r∧r < 8 by omega),?_⟩
  refine ⟨fun _=>(show r.toNat < 8 by omega),?_⟩
  exact ⟨i_cg (by unfold gtV;rw [if_neg h];rfl),_,rfl⟩
def rdtm (g:List Int) (i:In):Int:=if (decide (i.op=5)&&decide (i.a < 0))=true then i.imm else gtV g i.a
theorem Z2x (t:Thr) (p:List Int) (i:In) (ha:i.a < 8):Ctr Tryz.prog 53 [.ptr 0 1 0 [],.agg (ienc i)] (rfH t p) (fun r' H=>r'=.i .i64 (rdtm t.g i)∧H=rfH t p):=by
 refine Za Zc (fn:=Tryz.f53) Z Z Z Z Z Z Z1D ?_
 refine ⟨fun h=>?_,fun h=>?_⟩
 ·have h:(decide (i.op=5)&&decide (i.a < 0))=true:=h
  exact ⟨i_cg (by unfold rdtm;rw [if_pos h]),_,rfl⟩
 ·have h:(decide (i.op=5)&&decide (i.a < 0))=false:=h
  refine Z6 Z Z Z Z Z Z (r:=.i .i64 (gtV t.g i.a)) (fun _=>Z0 (Zca t p i.a ha) (fun _=>rfl) _ [0,1] Z Z ⟨rfl,rfl,trivial⟩ rfl) ?_
  exact ⟨i_cg (by unfold rdtm;rw [if_neg (by rw [h];decide)]),_,rfl⟩
def spnV (i:In) (ix:Int):SV:=.agg [.i .i64 i.loc,.i .i64 (mskF (plcF i.off ix i.sz) i.sz)]
theorem Zie (i:In) (ix:Int):CtrV Tryz.prog 106 [.agg (ienc i),.i .i64 ix] (spnV i ix):=by
 refine Z8 Zc (fn:=Tryz.f106) Z Z Z Z Z Z ?_
 refine WpC.dr Zc mixed 0 ?_
 refine Zg Z Z Z Z Z Z Z (fun _=>Zi4 i.off ix i.sz) ?_
 refine Zg Z Z Z Z Z Z Z (fun _=>Zc2 (plcF i.off ix i.sz) i.sz) ?_
 exact ⟨by kernel_rfl,rfl⟩
theorem Z2b (t:Thr) (p:List Int) (i:In) (hx:i.ix < 8):Ctr Tryz.prog 51 [.ptr 0 1 0 [],.agg (ienc i)] (rfH t p) (fun r' H=>r'=spnV i (gtV t.g i.ix)∧H=rfH t p):=by
 refine Za Zc (fn:=Tryz.f51) Z Z Z Z Z Z Z1D ?_
 refine WpC.dr Zc mixed 0 ?_
 refine Z1 [0,1] Z Z Z Z Z Z (r:=.i .i64 (gtV t.g i.ix)) (fun _ H1 hH=>Z0 (Zca t p i.ix hx) (fun _=>rfl) _ [0,1] Z Z ⟨hH 0 (by simp),hH 1 (by simp),trivial⟩ rfl) ?_
 refine Zg Z Z Z Z Z Z Z (fun _=>Zie i (gtV t.g i.ix)) ?_
 exact ⟨by kernel_rfl,rfl,_,rfl⟩
theorem Z47 (i:In):CtrV Tryz.prog 56 [.agg (ienc i)] (.b (rdB i)):=by
 refine Z8 Zc (fn:=Tryz.f56) Z Z Z Z Z Z ?_
 exact rfl
def wrB (i:In):Bool:=decide (i.op=5)||decide (i.op=6)
theorem Z3u (i:In):CtrV Tryz.prog 57 [.agg (ienc i)] (.b (wrB i)):=by
 refine Z8 Zc (fn:=Tryz.f57) Z Z Z Z Z Z ?_
 exact rfl
def rmwF (fn old a n:Int):Int:=if fn=6 then getF a 0 n else if fn=1 then getF (IntKind.i64.wrap (old+a)) 0 n else 0
theorem Zif (fn old a n:Int):CtrV Tryz.prog 58 [.i .i64 fn,.i .i64 old,.i .i64 a,.i .i64 n] (.i .i64 (rmwF fn old a n)):=by
 refine Z8 Zc (fn:=Tryz.f58) Z Z Z Z Z Z ?_
 refine ⟨fun h=>?_,fun h=>?_⟩
 ·have h:decide (fn=6)=true:=h
  refine Z4 Z Z Z Z Z Z Z (fun _=>Z20 a 0 n) ?_
  exact i_cg (by unfold rmwF;rw [if_pos (of_decide_eq_true h)])
 have h:decide (fn=6)=false:=h
 refine ⟨fun h2=>?_,fun h2=>?_⟩
 ·have h2:decide (fn=1)=true:=h2
  refine Z4 Z Z Z Z Z Z Z (fun _=>Z20 (IntKind.i64.wrap (old+a)) 0 n) ?_
  exact i_cg (by unfold rmwF;rw [if_neg (of_decide_eq_false h),if_pos (of_decide_eq_true h2)])
 ·have h2:decide (fn=1)=false:=h2
  exact i_cg (by unfold rmwF;rw [if_neg (of_decide_eq_false h),if_neg (of_decide_eq_false h2)])
theorem ln1 (p:List Int) (x:Int):p.length+1=(p++[x]).length:=by simp
theorem ix8 {i:In} (h:accB i=true):i.ix < 8:=by
 unfold accB at h
 simp only [Bool.and_eq_true] at h
 have:=h.2
 unfold ixB rgB at this
 simp only [Bool.or_eq_true,Bool.and_eq_true,decide_eq_true_eq] at this
 omega
theorem Z5G (p:List Int) (y:Int):Joins [.ints .i64 p.length p] [.ints .i64 1 [y]] [.ints .i64 (p.length+1) (p++[y])]:=by
 have:=Joins.ints (k:=.i64) (xs:=p) (y:=y)
 rw [List.length_append] at this;exact this
theorem Z7s {A B:SV} {ty ty2:TypeId} {x y:Int} {p:List Int} {n m:Nat} {X:List SB} (h:x=y) (hn:n=m):SB.mem ty [A,B,.i .i64 x,.sl 1 n 0 n none 0] 1 0::SB.mem ty2 [.ints .i64 n p] n 1::X=[SB.mem ty [A,B,.i .i64 y,.sl 1 m 0 m none 0] 1 0,SB.mem ty2 [.ints .i64 m p] m 1]++X:=by subst h hn;rfl
theorem w_at {n k:Nat} (h8:n≤8) (hk:k < n):IntKind.i64.wrap ((k:Int)+1)=((k+1:Nat):Int):=by rw [w64 (by omega) (by omega)];rfl
theorem opB_is {i:In} (hf:Zw i=true) (h:i.op=3) (g:List Int):(if 0≤i.b then rgG g i.b else i.imm)=opB g i:=by
 have:=(fm3 hf h).2.2.2.1
 unfold opB
 rcases this with h1 | h1
 ·rw [if_neg (by omega),if_pos h1]
 ·rw [if_pos (by omega),if_neg (by omega)]
set_option maxHeartbeats 2000000 in
theorem Z1u (t0:Thr) (p0:List Int) (h0:ThOk t0) (hp0:p0.length≤t0.k):Ctr Tryz.prog 13 [.ptr 0 1 0 []] (rfH t0 p0) (fun r H=>∃ p,(r=.b (stdB (thrN t0))∧p.length≤(thrN t0).k)∧H=rfH (thrN t0) p):=by
 refine Cp.trim Z11 (K:=fun r H=>∃ p,(r=.b (stdB (thrN t0))∧p.length≤(thrN t0).k)∧∃ X,H=rfH (thrN t0) p++X) ?_ (fun r H1 hk=>?_)
 rotate_left
 ·obtain ⟨p,⟨rfl,h2⟩,X,rfl⟩:=hk
  exact ⟨_,X,rfl,Nat.le_refl _,Z1D (N:=0),rfl,p,⟨rfl,h2⟩,rfl⟩
 refine Ctr.enter Zc (fn:=Tryz.f13) Z Z Z Z Z ?_
 refine WpC.loop Zc (β:=Thr×List Int) (fun b=>ThW t0 b.1∧b.2.length≤b.1.k) (fun b=>[]) (fun b=>rfH b.1 b.2) (fun b=>t0.r.xs.length - b.1.k) (t0,p0) 10889035741470030830827987437816582766588 ⟨⟨rfl,h0.k,h0.g,rfl⟩,hp0⟩ ?_ ?_
 ·exact ⟨rfl,trivial,⟨[],rfl⟩,Z1D,rfl⟩
 rintro ⟨t,p⟩ ⟨hw,hp⟩
 simp only at hw hp
 have hrr:t.r=t0.r:=hw.1
 have hg8:t.g.length=8:=hw.2.2.1
 have hcc:CodeOk t.r.xs:=by rw [hrr];exact h0.c
 have hk8:=hcc.l8
 have fin:thrT t.r.xs t.k t.g=(t.k,t.g)→t=thrN t0:=fun h=>hw.fin (by rw [← hrr];exact h)
 refine WpC.dr Zc mixed 0 ?_
 refine ⟨by kernel_rfl,?_⟩
 refine ⟨fun h=>?_,fun h=>?_⟩
 rotate_left
 ·have h:decide ((t.k:Int) < (t.r.xs.length:Int))=false:=h
  have h:=of_decide_eq_false h
  have hfin:=fin (Z84 hcc (by omega))
  have hs:stdB t=false:=by unfold stdB;exact decide_eq_false (by omega)
  subst hfin
  exact ⟨p,⟨b_cg hs.symm,hp⟩,_,rfl⟩
 ·have h:decide ((t.k:Int) < (t.r.xs.length:Int))=true:=h
  have h:=of_decide_eq_true h
  have hkl:t.k < t.r.xs.length:=by omega
  have hf:=hcc.fm _ hkl
  have hto:=hcc.to _ hkl
  refine WpC.dr Zc mixed 1 ?_
  refine ⟨fun _=>(show (0:Int)≤(t.k:Int)∧(t.k:Int) < (t.r.xs.length:Int) by omega),?_⟩
  refine ⟨by kernel_rfl,?_⟩
  refine Z4 Z Z Z Z Z Z Z (fun _=>Z1i (t.r.xs.getD t.k inZ)) ?_
  refine ⟨fun h2=>?_,fun h2=>?_⟩
  ·have h2:((((decide ((t.r.xs.getD t.k inZ).op=4)||decide ((t.r.xs.getD t.k inZ).op=5))||decide ((t.r.xs.getD t.k inZ).op=6))||decide ((t.r.xs.getD t.k inZ).op=7))||decide ((t.r.xs.getD t.k inZ).op=8))=true:=h2
   rw [Z2k] at h2
   have hfin:=fin (Z6Q h2)
   have hs:stdB t=true:=by unfold stdB;exact decide_eq_true hkl
   subst hfin
   exact ⟨p,⟨b_cg hs.symm,hp⟩,_,rfl⟩
  have h2:((((decide ((t.r.xs.getD t.k inZ).op=4)||decide ((t.r.xs.getD t.k inZ).op=5))||decide ((t.r.xs.getD t.k inZ).op=6))||decide ((t.r.xs.getD t.k inZ).op=7))||decide ((t.r.xs.getD t.k inZ).op=8))=false:=h2
  rw [Z2k] at h2
  have hs:stpB (t.r.xs.getD t.k inZ)=false:=h2
  have hwgo:=hw.go (by rw [← hrr];exact hcc) (by rw [← hrr];exact hkl) (by rw [← hrr];exact hs)
  rw [← hrr] at hwgo
  have hgo:∀ {k2:Nat} {g2:List Int},nxtF t.g (t.r.xs.getD t.k inZ) t.k=k2→givF t.g (t.r.xs.getD t.k inZ)=g2→ThW t0 ⟨t.r,k2,g2⟩:=fun h1 h2=>by rw [← h1,← h2];exact hwgo
  have hno9:(t.r.xs.getD t.k inZ).op≠9→nxtF t.g (t.r.xs.getD t.k inZ) t.k=t.k+1:=fun h=>by
   have e:jmpB t.g (t.r.xs.getD t.k inZ)=false:=by unfold jmpB;rw [decide_eq_false h];rfl
   unfold nxtF;rw [if_neg (by rw [e];decide)]
  refine WpC.dr Zc mixed 1 ?_
  refine OpD.yld 4 Z Z Z42 (Zx Zc Z Z Z Z Z Z Z Z (by simp only [wdL,wd,Nat.add_zero,Nat.zero_add];exact (Nat.mul_one _).symm) (SrcA.sl Z Z Z Z (by decide) rfl) (Z5G p (t.k:Int)) (by decide) (Z21 (show p.length+1≤1000000 by omega) (Nat.le_refl _)) (by show (p.length+1) * 8≤140737488355328;omega)) ?_
  refine ⟨by kernel_rfl,?_⟩
  refine ⟨fun h1=>?_,fun h1=>?_⟩
  ·have h1:(t.r.xs.getD t.k inZ).op=1:=of_decide_eq_true h1
   have hd:=(fm1 hf h1).1
   refine WpC.dr Zc mixed 0 ?_
   refine ⟨fun _=>hd,?_⟩
   refine ⟨(show (t.r.xs.getD t.k inZ).dst.toNat < 8 by omega),?_⟩
   refine ⟨by kernel_rfl,?_⟩
   refine ⟨(⟨t.r,(t.k+1),(t.g.set (t.r.xs.getD t.k inZ).dst.toNat (t.r.xs.getD t.k inZ).imm)⟩,p++[(t.k:Int)]),⟨hgo (hno9 (by rw [h1];decide)) (by unfold givF;rw [if_pos h1]),by rw [List.length_append];exact Nat.le_trans (Nat.succ_le_succ hp) (by show t.k+1≤(t.k+1);omega)⟩,?_,rfl,trivial,⟨_,Z7s (w_at hk8 hkl) (ln1 p (t.k:Int))⟩,Z1D,rfl⟩
   show t0.r.xs.length - (t.k+1) < t0.r.xs.length - t.k
   rw [← hrr];omega
  have h1:(t.r.xs.getD t.k inZ).op≠1:=of_decide_eq_false h1
  refine ⟨fun h2=>?_,fun h2=>?_⟩
  ·have h2:(t.r.xs.getD t.k inZ).op=2:=of_decide_eq_true h2
   have hd:=(fm2 hf h2).1
   have ha:=(fm2 hf h2).2.1
   refine WpC.dr Zc mixed 0 ?_
   refine ⟨fun _=>ha,?_⟩
   refine ⟨fun _=>(show (t.r.xs.getD t.k inZ).a.toNat < 8 by omega),?_⟩
   refine ⟨fun _=>hd,?_⟩
   refine ⟨(show (t.r.xs.getD t.k inZ).dst.toNat < 8 by omega),?_⟩
   refine ⟨by kernel_rfl,?_⟩
   refine ⟨(⟨t.r,(t.k+1),(t.g.set (t.r.xs.getD t.k inZ).dst.toNat (rgG t.g (t.r.xs.getD t.k inZ).a))⟩,p++[(t.k:Int)]),⟨hgo (hno9 (by rw [h2];decide)) (by unfold givF;rw [if_neg h1,if_pos h2]),by rw [List.length_append];exact Nat.le_trans (Nat.succ_le_succ hp) (by show t.k+1≤(t.k+1);omega)⟩,?_,rfl,trivial,⟨_,Z7s (w_at hk8 hkl) (ln1 p (t.k:Int))⟩,Z1D,rfl⟩
   show t0.r.xs.length - (t.k+1) < t0.r.xs.length - t.k
   rw [← hrr];omega
  have h2:(t.r.xs.getD t.k inZ).op≠2:=of_decide_eq_false h2
  refine ⟨fun h3=>?_,fun h3=>?_⟩
  ·have h3:(t.r.xs.getD t.k inZ).op=3:=of_decide_eq_true h3
   have hx:=fm3 hf h3
   have hd:=hx.1
   have ha:=hx.2.1
   have hB:=opB_is hf h3 t.g
   refine ⟨fun hb=>?_,fun hb=>?_⟩
   ·have hb:0≤(t.r.xs.getD t.k inZ).b:=of_decide_eq_true hb
    have hb8:(t.r.xs.getD t.k inZ).b < 8:=by rcases hx.2.2.2.1 with h | h <;> omega
    rw [if_pos hb] at hB
    refine WpC.dr Zc mixed 0 ?_
    refine ⟨fun _=>⟨hb,hb8⟩,?_⟩
    refine ⟨fun _=>(show (t.r.xs.getD t.k inZ).b.toNat < 8 by omega),?_⟩
    refine ⟨by kernel_rfl,?_⟩
    refine WpC.dr Zc mixed 0 ?_
    refine ⟨fun _=>ha,?_⟩
    refine ⟨fun _=>(show (t.r.xs.getD t.k inZ).a.toNat < 8 by omega),?_⟩
    refine Zg Z Z Z Z Z Z Z (fun _=>Zd7 (t.r.xs.getD t.k inZ).fn (rgG t.g (t.r.xs.getD t.k inZ).a) (rgG t.g (t.r.xs.getD t.k inZ).b)) ?_
    refine ⟨fun _=>hd,?_⟩
    refine ⟨(show (t.r.xs.getD t.k inZ).dst.toNat < 8 by omega),?_⟩
    refine ⟨by kernel_rfl,?_⟩
    refine ⟨(⟨t.r,(t.k+1),(t.g.set (t.r.xs.getD t.k inZ).dst.toNat (aluF (t.r.xs.getD t.k inZ).fn (rgG t.g (t.r.xs.getD t.k inZ).a) (rgG t.g (t.r.xs.getD t.k inZ).b)))⟩,p++[(t.k:Int)]),⟨hgo (hno9 (by rw [h3];decide)) (by unfold givF;rw [if_neg h1,if_neg h2,if_pos h3,← hB]),by rw [List.length_append];exact Nat.le_trans (Nat.succ_le_succ hp) (by show t.k+1≤(t.k+1);omega)⟩,?_,rfl,trivial,⟨_,Z7s (w_at hk8 hkl) (ln1 p (t.k:Int))⟩,Z1D,rfl⟩
    show t0.r.xs.length - (t.k+1) < t0.r.xs.length - t.k
    rw [← hrr];omega
   ·have hb:¬ 0≤(t.r.xs.getD t.k inZ).b:=of_decide_eq_false hb
    rw [if_neg hb] at hB
    refine WpC.dr Zc mixed 0 ?_
    refine ⟨fun _=>ha,?_⟩
    refine ⟨fun _=>(show (t.r.xs.getD t.k inZ).a.toNat < 8 by omega),?_⟩
    refine Zg Z Z Z Z Z Z Z (fun _=>Zd7 (t.r.xs.getD t.k inZ).fn (rgG t.g (t.r.xs.getD t.k inZ).a) (t.r.xs.getD t.k inZ).imm) ?_
    refine ⟨fun _=>hd,?_⟩
    refine ⟨(show (t.r.xs.getD t.k inZ).dst.toNat < 8 by omega),?_⟩
    refine ⟨by kernel_rfl,?_⟩
    refine ⟨(⟨t.r,(t.k+1),(t.g.set (t.r.xs.getD t.k inZ).dst.toNat (aluF (t.r.xs.getD t.k inZ).fn (rgG t.g (t.r.xs.getD t.k inZ).a) (t.r.xs.getD t.k inZ).imm))⟩,p++[(t.k:Int)]),⟨hgo (hno9 (by rw [h3];decide)) (by unfold givF;rw [if_neg h1,if_neg h2,if_pos h3,← hB]),by rw [List.length_append];exact Nat.le_trans (Nat.succ_le_succ hp) (by show t.k+1≤(t.k+1);omega)⟩,?_,rfl,trivial,⟨_,Z7s (w_at hk8 hkl) (ln1 p (t.k:Int))⟩,Z1D,rfl⟩
    show t0.r.xs.length - (t.k+1) < t0.r.xs.length - t.k
    rw [← hrr];omega
  have h3:(t.r.xs.getD t.k inZ).op≠3:=of_decide_eq_false h3
  have h9:(t.r.xs.getD t.k inZ).op=9:=by rcases Zfw hf hs with h | h | h | h <;> first | exact absurd h h1 | exact absurd h h2 | exact absurd h h3 | exact h
  have ha:=(fm9 hf h9).1
  have hg9:givF t.g (t.r.xs.getD t.k inZ)=t.g:=by unfold givF;rw [if_neg h1,if_neg h2,if_neg h3]
  refine ⟨fun _=>?_,fun h=>absurd h9 (of_decide_eq_false h)⟩
  refine WpC.dr Zc mixed 0 ?_
  refine ⟨fun _=>ha,?_⟩
  refine ⟨fun _=>(show (t.r.xs.getD t.k inZ).a.toNat < 8 by omega),?_⟩
  refine ⟨by kernel_rfl,?_⟩
  refine ⟨fun hj=>?_,fun hj=>?_⟩
  ·have hj:(decide (rgG t.g (t.r.xs.getD t.k inZ).a=0) == (t.r.xs.getD t.k inZ).ze)=true:=hj
   have hj2:jmpB t.g (t.r.xs.getD t.k inZ)=true:=by unfold jmpB;rw [h9,hj];rfl
   have h11:=hto h9
   have hnx:nxtF t.g (t.r.xs.getD t.k inZ) t.k=(t.r.xs.getD t.k inZ).to.toNat:=by unfold nxtF;rw [if_pos hj2]
   refine ⟨(⟨t.r,(t.r.xs.getD t.k inZ).to.toNat,t.g⟩,p++[(t.k:Int)]),⟨hgo hnx hg9,by rw [List.length_append];exact Nat.le_trans (Nat.succ_le_succ hp) (by show t.k+1≤(t.r.xs.getD t.k inZ).to.toNat;omega)⟩,?_,rfl,trivial,⟨_,Z7s (show (t.r.xs.getD t.k inZ).to=((t.r.xs.getD t.k inZ).to.toNat:Int) by omega) (ln1 p (t.k:Int))⟩,Z1D,rfl⟩
   show t0.r.xs.length - (t.r.xs.getD t.k inZ).to.toNat < t0.r.xs.length - t.k
   rw [← hrr];omega
  ·have hj:(decide (rgG t.g (t.r.xs.getD t.k inZ).a=0) == (t.r.xs.getD t.k inZ).ze)=false:=hj
   have hj2:jmpB t.g (t.r.xs.getD t.k inZ)=false:=by unfold jmpB;rw [h9,hj];rfl
   have hnx:nxtF t.g (t.r.xs.getD t.k inZ) t.k=t.k+1:=by unfold nxtF;rw [if_neg (by rw [hj2];decide)]
   refine ⟨(⟨t.r,(t.k+1),t.g⟩,p++[(t.k:Int)]),⟨hgo hnx hg9,by rw [List.length_append];exact Nat.le_trans (Nat.succ_le_succ hp) (by show t.k+1≤(t.k+1);omega)⟩,?_,rfl,trivial,⟨_,Z7s (w_at hk8 hkl) (ln1 p (t.k:Int))⟩,Z1D,rfl⟩
   show t0.r.xs.length - (t.k+1) < t0.r.xs.length - t.k
   rw [← hrr];omega
end SX
end Go.Proofs.YtdddpbmcoimgdaaGreatDoor
