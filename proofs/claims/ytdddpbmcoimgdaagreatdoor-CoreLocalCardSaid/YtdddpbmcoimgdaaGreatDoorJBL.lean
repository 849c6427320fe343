/- A part of SX: symbolic and concrete runs of the program, with contracts of functions; lemmas without further conditions. Shortened by a tool (mini.py). -/
import Derived.Test.YtdddpbmcoimgdaaGreatDoorJAH
import Derived.Test.YtdddpbmcoimgdaaGreatDoorJAX
import Derived.Test.YtdddpbmcoimgdaaGreatDoorJBI
import Derived.Test.YtdddpbmcoimgdaaGreatDoorJAA
set_option linter.unusedVariables false
set_option linter.unusedSimpArgs false
set_option linter.unusedSectionVars false
set_option maxRecDepth 100000
namespace Go.Proofs.YtdddpbmcoimgdaaGreatDoor
namespace SX
open Go Go.Proofs
structure Ev where
 pos:Int
 k:Int
 op:Int
 loc:Int
 msk:Int
 rd:Bool
 wr:Bool
 old:Int
 new:Int
 acq:Bool
 wk:Bool
 rel:Bool
 pr:Int
 su:Int
def ev0:Ev:=⟨0,0,0,0,0,false,false,0,0,false,false,false,0,0⟩
def Zah (e:Ev):List SV:=[.i .i64 0,.i .i64 e.pos,.i .i64 e.k,.i .i64 e.op,.i .i64 e.loc,.i .i64 e.msk,.b e.rd,.b e.wr,.i .i64 e.old,.i .i64 e.new,.b e.acq,.b e.wk,.b e.rel,.i .i64 e.pr,.i .i64 e.su]
theorem ev_w (e:Ev):wdL (Zah e)=15:=rfl
def i1e (x:Int):List SV:=[.i .i64 x]
theorem JoinsM {p:List Int} {M:Nat} (h:p.length=M) (y:Int):Joins [.ints .i64 M p] [.ints .i64 1 [y]] [.ints .i64 (M+1) (p++[y])]:=by subst h;exact JoinsN p y
def locG (g w:List Int) (N:Nat) (ev:List Ev) (M:Nat) (p:List Int):List SB:=[.gone 1,.gone 1,.mem 23 [.ints .i64 8 g] 1 0,.mem 23 [.ints .i64 8 w] 1 0,.gone 1,.mem 49 [.arr N Ev ev0 15 Zah ev] N 15,.mem 3 [.ints .i64 M p] M 1]
theorem Z1v {N M:Nat} {g w p:List Int} {ev:List Ev} {n:Nat}:BndH n (locG g w N ev M p):=⟨trivial,trivial,⟨rfl,trivial⟩,⟨rfl,trivial⟩,trivial,⟨fun _=>rfl,trivial⟩,⟨rfl,trivial⟩,trivial⟩
def locK (xs:List In) (g0 rd0:List Int) (r:SV) (H:List SB):Prop:=
 (∃ g N ev M p,lclT xs 0 g0 rd0=some g∧r=.tup [.agg [.ints .i64 8 g],.sl 5 N 0 N none 0,.sl 6 M 0 M none 0,.i .i64 0]∧∃ X,H=locG g g N ev M p++X) ∨
 (lclT xs 0 g0 rd0=none∧r=.tup [.agg [.ints .i64 8 tz8],.nils,.nils,.i .i64 24]∧∃ X,H=[.gone 1,.gone 1]++X)
theorem Zbz {i:In} (h:accB i=true):i.ix = -1∨0≤i.ix∧i.ix < 8:=by
 unfold accB at h
 simp only [Bool.and_eq_true] at h
 have:=h.2
 unfold ixB rgB at this
 simp only [Bool.or_eq_true,Bool.and_eq_true,decide_eq_true_eq] at this
 exact this
structure LcI (xs:List In) (g0 rd0:List Int) (k:Nat) (g rd:List Int) (N:Nat) (ev:List Ev) (M:Nat) (p:List Int):Prop where
 hk:k≤xs.length
 hg:g.length=8
 hu:lclT xs k g rd=lclT xs 0 g0 rd0
 hp:M≤k
 he:N≤k
 lp:p.length=M
 le:ev.length=N
theorem Zcw (v:Int) (r:List Int):((v::r).take (v::r).length).drop 1=r:=by simp
abbrev LcB:=Nat×List Int×List Int×Option Addr×Nat×Nat×List Ev×Nat×List Int
set_option maxHeartbeats 8000000 in
theorem ZeX (xs:List In) (hc:CodeOk xs) (g0 rd0:List Int) (hg0:g0.length=8) (ad:Option Addr) (cp:Nat) (ra:Option Addr) (rc:Nat)
 (hu:∀ ad2 cp2,CtrV Tryz.prog 44 [.imm IRow ir0 1 irenc [⟨xs,ad,cp⟩] ad2 cp2] (.tup [.i .i64 0,.i .i64 0,.i .i64 0])) :
 Ctr Tryz.prog 17 [.imm In inZ 17 ienc xs ad cp,.agg [.ints .i64 8 g0],.imm Int 0 1 i1e rd0 ra rc] [.gone 1,.gone 1] (locK xs g0 rd0):=by
 have hk8:=hc.l8
 refine Ctr.enter Zi (fn:=Tryz.f17) Z Z Z Z Z ?_
 refine Z3j (k:=4) 21 ir0 irenc [⟨xs,ad,cp⟩] Z Z Z (Nat.le_refl _) ir_w (fun E=>rfl) (fun m V h j hj=>?_) (fun ad2=>?_)
 ·have hj:j < 1:=hj
  have:j=0:=by omega
  subst this
  exact Z3p _ m V h
 refine Z4 Z Z Z Z Z Z Z (fun _=>hu (some ad2) 1) ?_
 refine ⟨fun h=>Z3 h,fun _=>?_⟩
 refine WpC.shift (Shift.row (d:=7) rfl 14 49 [.arr 0 Ev ev0 15 Zah []] (fun E=>rfl) (fun m V=>⟨⟨rfl,by simp only [Ok];exact ⟨rfl,ev_w,fun j hj=>absurd hj (Nat.not_lt_zero _)⟩⟩,trivial⟩)) ?_
 refine WpC.shift (Shift.row (d:=8) rfl 0 3 [.ints .i64 0 []] (fun E=>rfl) (fun m V=>⟨⟨rfl,rfl⟩,trivial⟩)) ?_
 refine WpC.loop Zi (β:=LcB) (fun b=>LcI xs g0 rd0 b.1 b.2.1 b.2.2.1 b.2.2.2.2.2.1 b.2.2.2.2.2.2.1 b.2.2.2.2.2.2.2.1 b.2.2.2.2.2.2.2.2) (fun b=>[(14,.i .i64 b.1),(7,.sl 5 b.2.2.2.2.2.1 0 b.2.2.2.2.2.1 none 0),(8,.sl 6 b.2.2.2.2.2.2.2.1 0 b.2.2.2.2.2.2.2.1 none 0),(2,.imm Int 0 1 i1e b.2.2.1 b.2.2.2.1 b.2.2.2.2.1)]) (fun b=>locG b.2.1 tz8 b.2.2.2.2.2.1 b.2.2.2.2.2.2.1 b.2.2.2.2.2.2.2.1 b.2.2.2.2.2.2.2.2) (fun b=>xs.length - b.1) (0,g0,rd0,ra,rc,0,[],0,[]) 50216813883093446110686315385661331328818843555711202870148 ⟨Nat.zero_le _,hg0,rfl,Nat.zero_le _,Nat.zero_le _,rfl,rfl⟩ ?_ ?_
 ·exact ⟨rfl,⟨⟨rfl,rfl,rfl⟩,⟨rfl,rfl,rfl⟩,⟨rfl,rfl,rfl⟩,⟨rfl,rfl,rfl⟩,trivial⟩,⟨[],rfl⟩,Z1v,rfl⟩
 rintro ⟨k,g,rd,ra2,rc2,N,ev,M,p⟩ hI
 have hI:LcI xs g0 rd0 k g rd N ev M p:=hI
 have hIp:=hI.hp
 have hIe:=hI.he
 have hIk:=hI.hk
 refine ⟨fun h=>?_,fun h=>?_⟩
 rotate_left
 ·have h:decide ((k:Int) < (xs.length:Int))=false:=h
  have h:=of_decide_eq_false h
  exact .inl ⟨g,N,ev,M,p,by rw [← hI.hu];exact Zbt hc (by omega),rfl,_,rfl⟩
 have h:decide ((k:Int) < (xs.length:Int))=true:=h
 have h:=of_decide_eq_true h
 have hkl:k < xs.length:=by omega
 have hf:=hc.fm k hkl
 have hto:=hc.to k hkl
 refine ⟨fun _=>(show (0:Int)≤(k:Int)∧(k:Int) < (xs.length:Int) by omega),?_⟩
 refine WpC.dr Zi mixed 1 ?_
 refine Zp Z Z Z Z Z Z Z (fun _=>ZH (xs.getD k inZ)) ?_
 refine Zp Z Z Z Z Z Z Z (fun _=>ZG (xs.getD k inZ)) ?_
 refine ⟨by kernel_rfl,?_⟩
 refine OpC.yld 0 rfl (ZA Zi Z Z Z Z Z Z Z Z (by simp only [wdL,wd,Nat.add_zero,Nat.zero_add];exact (Nat.mul_one _).symm) (SrcA.sl Z Z Z Z (by decide) rfl) (JoinsM hI.lp (k:Int)) (by decide) (Z1D (show M+1≤1000000 by omega) (Nat.le_refl _)) (by show (M+1) * 8≤140737488355328;omega)) (fun d hd=>by cases hd;rfl) ?_
 rcases fm_op hf with hop | hop | hop | hop | hop | hop | hop | hop | hop
 ·have hrd:rdB (xs.getD k inZ)=false:=by unfold rdB;rw [hop];rfl
  have hwr:wrB (xs.getD k inZ)=false:=by unfold wrB;rw [hop];rfl
  have hmm:memB (xs.getD k inZ)=false:=by unfold memB;rw [hop];rfl
  have hst:stpB (xs.getD k inZ)=false:=by unfold stpB;rw [hmm,hop];rfl
  have o1:decide ((xs.getD k inZ).op=1)=true:=by rw [hop];rfl
  have o2:decide ((xs.getD k inZ).op=2)=false:=by rw [hop];rfl
  have o3:decide ((xs.getD k inZ).op=3)=false:=by rw [hop];rfl
  have o5:decide ((xs.getD k inZ).op=5)=false:=by rw [hop];rfl
  have o6:decide ((xs.getD k inZ).op=6)=false:=by rw [hop];rfl
  have o9:decide ((xs.getD k inZ).op=9)=false:=by rw [hop];rfl
  have hfm:=fm1 hf hop
  have hd:0≤(xs.getD k inZ).dst∧(xs.getD k inZ).dst < 8:=hfm.1
  refine ⟨fun h=>Zd (show memB (xs.getD k inZ)=true from h) (show memB (xs.getD k inZ)=false from hmm),fun _=>?_⟩
  refine ⟨fun h=>Zd (show rdB (xs.getD k inZ)=true from h) (show rdB (xs.getD k inZ)=false from hrd),fun _=>?_⟩
  refine ⟨fun _=>?_,fun h=>Zd (show decide ((xs.getD k inZ).op=1)=true from o1) (show decide ((xs.getD k inZ).op=1)=false from h)⟩
  refine Z4 Z Z Z Z Z Z Z (fun _=>Z19 (xs.getD k inZ)) ?_
  have hgv:gvsB (xs.getD k inZ)=true:=by unfold gvsB;rw [hop];rfl
  rw [hgv]
  refine ⟨fun _=>?_,fun h=>absurd (of_decide_eq_false h) (by show ¬ ¬ (0≤(xs.getD k inZ).dst);omega)⟩
  refine ⟨fun _=>hd,?_⟩
  refine ⟨(show (xs.getD k inZ).dst.toNat < 8 by omega),?_⟩
  refine ⟨fun h=>Zd (show stpB (xs.getD k inZ)=true from h) (show stpB (xs.getD k inZ)=false from hst),fun _=>?_⟩
  have hnx:nxtF g (xs.getD k inZ) k=(k+1):=by unfold nxtF jmpB;rw [o9];rfl
  have hgx:givF g (xs.getD k inZ)=(g.set (xs.getD k inZ).dst.toNat (xs.getD k inZ).imm):=by unfold givF;rw [if_pos hop]
  have hI2:LcI xs g0 rd0 (k+1) (g.set (xs.getD k inZ).dst.toNat (xs.getD k inZ).imm) rd N ev (M+1) (p++[(k:Int)]):=by
   have hup:=Z1H hc (g:=g) hkl
   rw [hnx] at hup
   refine ⟨hup.2,by rw [List.length_set];exact hI.hg,?_,Nat.le_trans (Nat.succ_le_succ hI.hp) hup.1,Nat.le_trans hI.he (Nat.le_of_lt hup.1),by rw [List.length_append,hI.lp];rfl,hI.le⟩
   rw [← hI.hu,Z2c hc hkl hrd,hnx,hgx]
  refine ⟨(((k+1),(g.set (xs.getD k inZ).dst.toNat (xs.getD k inZ).imm),rd,_,_,N,ev,M+1,p++[(k:Int)]):LcB),hI2,?_,rfl,⟨⟨i_cg (w_at hk8 hkl),rfl,rfl⟩,⟨rfl,rfl,rfl⟩,⟨rfl,rfl,rfl⟩,⟨rfl,rfl,rfl⟩,trivial⟩,⟨_,rfl⟩,Z1v,rfl⟩
  have:=hI2.hk
  show xs.length - (k+1) < xs.length - k
  omega
 ·have hrd:rdB (xs.getD k inZ)=false:=by unfold rdB;rw [hop];rfl
  have hwr:wrB (xs.getD k inZ)=false:=by unfold wrB;rw [hop];rfl
  have hmm:memB (xs.getD k inZ)=false:=by unfold memB;rw [hop];rfl
  have hst:stpB (xs.getD k inZ)=false:=by unfold stpB;rw [hmm,hop];rfl
  have o1:decide ((xs.getD k inZ).op=1)=false:=by rw [hop];rfl
  have o2:decide ((xs.getD k inZ).op=2)=true:=by rw [hop];rfl
  have o3:decide ((xs.getD k inZ).op=3)=false:=by rw [hop];rfl
  have o5:decide ((xs.getD k inZ).op=5)=false:=by rw [hop];rfl
  have o6:decide ((xs.getD k inZ).op=6)=false:=by rw [hop];rfl
  have o9:decide ((xs.getD k inZ).op=9)=false:=by rw [hop];rfl
  have hfm:=fm2 hf hop
  have hd:0≤(xs.getD k inZ).dst∧(xs.getD k inZ).dst < 8:=hfm.1
  have ha:0≤(xs.getD k inZ).a∧(xs.getD k inZ).a < 8:=hfm.2.1
  refine ⟨fun h=>Zd (show memB (xs.getD k inZ)=true from h) (show memB (xs.getD k inZ)=false from hmm),fun _=>?_⟩
  refine ⟨fun h=>Zd (show rdB (xs.getD k inZ)=true from h) (show rdB (xs.getD k inZ)=false from hrd),fun _=>?_⟩
  refine ⟨fun h=>Zd (show decide ((xs.getD k inZ).op=1)=true from h) (show decide ((xs.getD k inZ).op=1)=false from o1),fun _=>?_⟩
  refine ⟨fun _=>?_,fun h=>Zd (show decide ((xs.getD k inZ).op=2)=true from o2) (show decide ((xs.getD k inZ).op=2)=false from h)⟩
  refine ⟨fun _=>ha,?_⟩
  refine ⟨fun _=>(show (xs.getD k inZ).a.toNat < 8 by omega),?_⟩
  refine Z4 Z Z Z Z Z Z Z (fun _=>Z19 (xs.getD k inZ)) ?_
  have hgv:gvsB (xs.getD k inZ)=true:=by unfold gvsB;rw [hop];rfl
  rw [hgv]
  refine ⟨fun _=>?_,fun h=>absurd (of_decide_eq_false h) (by show ¬ ¬ (0≤(xs.getD k inZ).dst);omega)⟩
  refine ⟨fun _=>hd,?_⟩
  refine ⟨(show (xs.getD k inZ).dst.toNat < 8 by omega),?_⟩
  refine ⟨fun h=>Zd (show stpB (xs.getD k inZ)=true from h) (show stpB (xs.getD k inZ)=false from hst),fun _=>?_⟩
  have hnx:nxtF g (xs.getD k inZ) k=(k+1):=by unfold nxtF jmpB;rw [o9];rfl
  have hgx:givF g (xs.getD k inZ)=(g.set (xs.getD k inZ).dst.toNat (rgG g (xs.getD k inZ).a)):=by unfold givF;rw [if_neg (show ¬ (xs.getD k inZ).op=1 by omega),if_pos hop]
  have hI2:LcI xs g0 rd0 (k+1) (g.set (xs.getD k inZ).dst.toNat (rgG g (xs.getD k inZ).a)) rd N ev (M+1) (p++[(k:Int)]):=by
   have hup:=Z1H hc (g:=g) hkl
   rw [hnx] at hup
   refine ⟨hup.2,by rw [List.length_set];exact hI.hg,?_,Nat.le_trans (Nat.succ_le_succ hI.hp) hup.1,Nat.le_trans hI.he (Nat.le_of_lt hup.1),by rw [List.length_append,hI.lp];rfl,hI.le⟩
   rw [← hI.hu,Z2c hc hkl hrd,hnx,hgx]
  refine ⟨(((k+1),(g.set (xs.getD k inZ).dst.toNat (rgG g (xs.getD k inZ).a)),rd,_,_,N,ev,M+1,p++[(k:Int)]):LcB),hI2,?_,rfl,⟨⟨i_cg (w_at hk8 hkl),rfl,rfl⟩,⟨rfl,rfl,rfl⟩,⟨rfl,rfl,rfl⟩,⟨rfl,rfl,rfl⟩,trivial⟩,⟨_,rfl⟩,Z1v,rfl⟩
  have:=hI2.hk
  show xs.length - (k+1) < xs.length - k
  omega
 ·have hrd:rdB (xs.getD k inZ)=false:=by unfold rdB;rw [hop];rfl
  have hwr:wrB (xs.getD k inZ)=false:=by unfold wrB;rw [hop];rfl
  have hmm:memB (xs.getD k inZ)=false:=by unfold memB;rw [hop];rfl
  have hst:stpB (xs.getD k inZ)=false:=by unfold stpB;rw [hmm,hop];rfl
  have o1:decide ((xs.getD k inZ).op=1)=false:=by rw [hop];rfl
  have o2:decide ((xs.getD k inZ).op=2)=false:=by rw [hop];rfl
  have o3:decide ((xs.getD k inZ).op=3)=true:=by rw [hop];rfl
  have o5:decide ((xs.getD k inZ).op=5)=false:=by rw [hop];rfl
  have o6:decide ((xs.getD k inZ).op=6)=false:=by rw [hop];rfl
  have o9:decide ((xs.getD k inZ).op=9)=false:=by rw [hop];rfl
  have hfm:=fm3 hf hop
  have hd:0≤(xs.getD k inZ).dst∧(xs.getD k inZ).dst < 8:=hfm.1
  have ha:0≤(xs.getD k inZ).a∧(xs.getD k inZ).a < 8:=hfm.2.1
  have hb:(xs.getD k inZ).b = -1∨0≤(xs.getD k inZ).b∧(xs.getD k inZ).b < 8:=hfm.2.2.2.1.imp id (·.1)
  refine ⟨fun h=>Zd (show memB (xs.getD k inZ)=true from h) (show memB (xs.getD k inZ)=false from hmm),fun _=>?_⟩
  refine ⟨fun h=>Zd (show rdB (xs.getD k inZ)=true from h) (show rdB (xs.getD k inZ)=false from hrd),fun _=>?_⟩
  refine ⟨fun h=>Zd (show decide ((xs.getD k inZ).op=1)=true from h) (show decide ((xs.getD k inZ).op=1)=false from o1),fun _=>?_⟩
  refine ⟨fun h=>Zd (show decide ((xs.getD k inZ).op=2)=true from h) (show decide ((xs.getD k inZ).op=2)=false from o2),fun _=>?_⟩
  refine ⟨fun _=>?_,fun h=>Zd (show decide ((xs.getD k inZ).op=3)=true from o3) (show decide ((xs.getD k inZ).op=3)=false from h)⟩
  refine WpC.dr Zi mixed 0 ?_
  refine ⟨fun _=>ha,?_⟩
  refine ⟨fun _=>(show (xs.getD k inZ).a.toNat < 8 by omega),?_⟩
  refine Z0 [2] Z Z Z Z Z Z (r:=.i .i64 (if (xs.getD k inZ).b = -1 then (xs.getD k inZ).imm else rgG g (xs.getD k inZ).b)) (fun _ H1 hH=>Z2 (Z5l (xs.getD k inZ).b (xs.getD k inZ).imm g hb) (fun _=>rfl) _ [2] Z Z ⟨hH 2 (by simp),trivial⟩ rfl) ?_
  refine Zp Z Z Z Z Z Z Z (fun _=>ZeR (xs.getD k inZ).fn (rgG g (xs.getD k inZ).a) (if (xs.getD k inZ).b = -1 then (xs.getD k inZ).imm else rgG g (xs.getD k inZ).b)) ?_
  refine ⟨by kernel_rfl,?_⟩
  refine Z4 Z Z Z Z Z Z Z (fun _=>Z19 (xs.getD k inZ)) ?_
  have hgv:gvsB (xs.getD k inZ)=true:=by unfold gvsB;rw [hop];rfl
  rw [hgv]
  refine ⟨fun _=>?_,fun h=>absurd (of_decide_eq_false h) (by show ¬ ¬ (0≤(xs.getD k inZ).dst);omega)⟩
  refine ⟨fun _=>hd,?_⟩
  refine ⟨(show (xs.getD k inZ).dst.toNat < 8 by omega),?_⟩
  refine ⟨fun h=>Zd (show stpB (xs.getD k inZ)=true from h) (show stpB (xs.getD k inZ)=false from hst),fun _=>?_⟩
  have hnx:nxtF g (xs.getD k inZ) k=(k+1):=by unfold nxtF jmpB;rw [o9];rfl
  have hgx:givF g (xs.getD k inZ)=(g.set (xs.getD k inZ).dst.toNat (aluF (xs.getD k inZ).fn (rgG g (xs.getD k inZ).a) (if (xs.getD k inZ).b = -1 then (xs.getD k inZ).imm else rgG g (xs.getD k inZ).b))):=by unfold givF opB;rw [if_neg (show ¬ (xs.getD k inZ).op=1 by omega),if_neg (show ¬ (xs.getD k inZ).op=2 by omega),if_pos hop]
  have hI2:LcI xs g0 rd0 (k+1) (g.set (xs.getD k inZ).dst.toNat (aluF (xs.getD k inZ).fn (rgG g (xs.getD k inZ).a) (if (xs.getD k inZ).b = -1 then (xs.getD k inZ).imm else rgG g (xs.getD k inZ).b))) rd N ev (M+1) (p++[(k:Int)]):=by
   have hup:=Z1H hc (g:=g) hkl
   rw [hnx] at hup
   refine ⟨hup.2,by rw [List.length_set];exact hI.hg,?_,Nat.le_trans (Nat.succ_le_succ hI.hp) hup.1,Nat.le_trans hI.he (Nat.le_of_lt hup.1),by rw [List.length_append,hI.lp];rfl,hI.le⟩
   rw [← hI.hu,Z2c hc hkl hrd,hnx,hgx]
  refine ⟨(((k+1),(g.set (xs.getD k inZ).dst.toNat (aluF (xs.getD k inZ).fn (rgG g (xs.getD k inZ).a) (if (xs.getD k inZ).b = -1 then (xs.getD k inZ).imm else rgG g (xs.getD k inZ).b))),rd,_,_,N,ev,M+1,p++[(k:Int)]):LcB),hI2,?_,rfl,⟨⟨i_cg (w_at hk8 hkl),rfl,rfl⟩,⟨rfl,rfl,rfl⟩,⟨rfl,rfl,rfl⟩,⟨rfl,rfl,rfl⟩,trivial⟩,⟨_,rfl⟩,Z1v,rfl⟩
  have:=hI2.hk
  show xs.length - (k+1) < xs.length - k
  omega
 ·have hrd:rdB (xs.getD k inZ)=true:=by unfold rdB;rw [hop];rfl
  have hwr:wrB (xs.getD k inZ)=false:=by unfold wrB;rw [hop];rfl
  have hmm:memB (xs.getD k inZ)=true:=by unfold memB;rw [hop];rfl
  have hst:stpB (xs.getD k inZ)=true:=by unfold stpB;rw [hmm,hop];rfl
  have o1:decide ((xs.getD k inZ).op=1)=false:=by rw [hop];rfl
  have o2:decide ((xs.getD k inZ).op=2)=false:=by rw [hop];rfl
  have o3:decide ((xs.getD k inZ).op=3)=false:=by rw [hop];rfl
  have o5:decide ((xs.getD k inZ).op=5)=false:=by rw [hop];rfl
  have o6:decide ((xs.getD k inZ).op=6)=false:=by rw [hop];rfl
  have o9:decide ((xs.getD k inZ).op=9)=false:=by rw [hop];rfl
  have hfm:=fm4 hf hop
  have hd:0≤(xs.getD k inZ).dst∧(xs.getD k inZ).dst < 8:=hfm.1
  have hx:=Zbz hfm.2.1
  refine ⟨fun _=>?_,fun h=>Zd (show memB (xs.getD k inZ)=true from hmm) (show memB (xs.getD k inZ)=false from h)⟩
  refine WpC.dr Zi mixed 0 ?_
  refine Z0 [2] Z Z Z Z Z Z (r:=.i .i64 (if (xs.getD k inZ).ix = -1 then 0 else rgG g (xs.getD k inZ).ix)) (fun _ H1 hH=>Z2 (Z5l (xs.getD k inZ).ix 0 g hx) (fun _=>rfl) _ [2] Z Z ⟨hH 2 (by simp),trivial⟩ rfl) ?_
  refine Zp Z Z Z Z Z Z Z (fun _=>Z7s (xs.getD k inZ).off (if (xs.getD k inZ).ix = -1 then 0 else rgG g (xs.getD k inZ).ix) (xs.getD k inZ).sz) ?_
  refine Zp Z Z Z Z Z Z Z (fun _=>ZX (plcF (xs.getD k inZ).off (if (xs.getD k inZ).ix = -1 then 0 else rgG g (xs.getD k inZ).ix) (xs.getD k inZ).sz) (xs.getD k inZ).sz) ?_
  refine ⟨by kernel_rfl,?_⟩
  refine ⟨fun _=>?_,fun h=>Zd (show rdB (xs.getD k inZ)=true from hrd) (show rdB (xs.getD k inZ)=false from h)⟩
  cases rd with
  | nil=>
    refine ⟨fun _=>?_,fun h=>Zv h⟩
    exact .inr ⟨by rw [← hI.hu];exact Z6m hkl hrd,rfl,_,rfl⟩
  | cons v rest=>
    refine ⟨fun h=>absurd (of_decide_eq_true h) (by show ¬ ((rest.length+1:Nat):Int)=0;omega),fun _=>?_⟩
    refine WpC.dr Zi mixed 0 ?_
    refine ⟨fun _=>(show (0:Int)≤0∧(0:Int) < ((rest.length+1:Nat):Int) by omega),?_⟩
    refine Zp Z Z Z Z Z Z Z (fun _=>Z5k v 0 (xs.getD k inZ).sz) ?_
    refine ⟨by kernel_rfl,?_⟩
    refine ⟨fun _=>(show (0:Int)≤1∧(1:Int)≤((rest.length+1:Nat):Int) by omega),?_⟩
    refine ⟨fun h=>Zd (show decide ((xs.getD k inZ).op=1)=true from h) (show decide ((xs.getD k inZ).op=1)=false from o1),fun _=>?_⟩
    refine ⟨fun h=>Zd (show decide ((xs.getD k inZ).op=2)=true from h) (show decide ((xs.getD k inZ).op=2)=false from o2),fun _=>?_⟩
    refine ⟨fun h=>Zd (show decide ((xs.getD k inZ).op=3)=true from h) (show decide ((xs.getD k inZ).op=3)=false from o3),fun _=>?_⟩
    refine ⟨fun h=>Zd (show decide ((xs.getD k inZ).op=5)=true from h) (show decide ((xs.getD k inZ).op=5)=false from o5),fun _=>?_⟩
    refine ⟨fun h=>Zd (show decide ((xs.getD k inZ).op=6)=true from h) (show decide ((xs.getD k inZ).op=6)=false from o6),fun _=>?_⟩
    refine ⟨fun h=>Zd (show decide ((xs.getD k inZ).op=9)=true from h) (show decide ((xs.getD k inZ).op=9)=false from o9),fun _=>?_⟩
    refine Z4 Z Z Z Z Z Z Z (fun _=>Z19 (xs.getD k inZ)) ?_
    have hgv:gvsB (xs.getD k inZ)=true:=by unfold gvsB;rw [hop];rfl
    rw [hgv]
    refine ⟨fun _=>?_,fun h=>absurd (of_decide_eq_false h) (by show ¬ ¬ (0≤(xs.getD k inZ).dst);omega)⟩
    refine ⟨fun _=>hd,?_⟩
    refine ⟨(show (xs.getD k inZ).dst.toNat < 8 by omega),?_⟩
    refine ⟨fun _=>?_,fun h=>Zd (show stpB (xs.getD k inZ)=true from hst) (show stpB (xs.getD k inZ)=false from h)⟩
    refine OpC.yld 0 rfl (ZA Zi Z Z Z Z Z Z Z Z Z (SrcA.sl Z Z Z Z (by decide) rfl) (Z18 (y:=(⟨M,k,(xs.getD k inZ).op,(xs.getD k inZ).loc,mskF (plcF (xs.getD k inZ).off (if (xs.getD k inZ).ix = -1 then 0 else rgG g (xs.getD k inZ).ix) (xs.getD k inZ).sz) (xs.getD k inZ).sz,rdB (xs.getD k inZ),wrB (xs.getD k inZ),getF v 0 (xs.getD k inZ).sz,0,(xs.getD k inZ).acq,(xs.getD k inZ).wk,(xs.getD k inZ).rel,(xs.getD k inZ).pr,(xs.getD k inZ).su⟩:Ev)) hI.le rfl ev_w) (by decide) (Z1D (show N+1≤1000000 by omega) (Nat.le_refl _)) (by show (N+1) * 96≤140737488355328;omega)) (fun d hd=>by cases hd;rfl) ?_
    have hI2:LcI xs g0 rd0 (k+1) (g.set (xs.getD k inZ).dst.toNat (getF v 0 (xs.getD k inZ).sz)) (((v::rest).take (v::rest).length).drop 1) (N+1) (ev++[(⟨M,k,(xs.getD k inZ).op,(xs.getD k inZ).loc,mskF (plcF (xs.getD k inZ).off (if (xs.getD k inZ).ix = -1 then 0 else rgG g (xs.getD k inZ).ix) (xs.getD k inZ).sz) (xs.getD k inZ).sz,rdB (xs.getD k inZ),wrB (xs.getD k inZ),getF v 0 (xs.getD k inZ).sz,0,(xs.getD k inZ).acq,(xs.getD k inZ).wk,(xs.getD k inZ).rel,(xs.getD k inZ).pr,(xs.getD k inZ).su⟩:Ev)]) (M+1) (p++[(k:Int)]):=by
     refine ⟨hkl,by rw [List.length_set];exact hI.hg,?_,Nat.succ_le_succ hI.hp,Nat.succ_le_succ hI.he,by rw [List.length_append,hI.lp];rfl,by rw [List.length_append,hI.le];rfl⟩
     rw [Zcw,← hI.hu,Z6n hc hkl hrd]
     unfold redF;rw [if_pos hrd]
    refine ⟨(((k+1),(g.set (xs.getD k inZ).dst.toNat (getF v 0 (xs.getD k inZ).sz)),(((v::rest).take (v::rest).length).drop 1),_,_,N+1,ev++[(⟨M,k,(xs.getD k inZ).op,(xs.getD k inZ).loc,mskF (plcF (xs.getD k inZ).off (if (xs.getD k inZ).ix = -1 then 0 else rgG g (xs.getD k inZ).ix) (xs.getD k inZ).sz) (xs.getD k inZ).sz,rdB (xs.getD k inZ),wrB (xs.getD k inZ),getF v 0 (xs.getD k inZ).sz,0,(xs.getD k inZ).acq,(xs.getD k inZ).wk,(xs.getD k inZ).rel,(xs.getD k inZ).pr,(xs.getD k inZ).su⟩:Ev)],M+1,p++[(k:Int)]):LcB),hI2,?_,rfl,⟨⟨i_cg (w_at hk8 hkl),rfl,rfl⟩,⟨rfl,rfl,rfl⟩,⟨rfl,rfl,rfl⟩,⟨rfl,rfl,rfl⟩,trivial⟩,⟨_,rfl⟩,Z1v,rfl⟩
    have:=hI2.hk
    show xs.length - (k+1) < xs.length - k
    omega
 ·have hrd:rdB (xs.getD k inZ)=false:=by unfold rdB;rw [hop];rfl
  have hwr:wrB (xs.getD k inZ)=true:=by unfold wrB;rw [hop];rfl
  have hmm:memB (xs.getD k inZ)=true:=by unfold memB;rw [hop];rfl
  have hst:stpB (xs.getD k inZ)=true:=by unfold stpB;rw [hmm,hop];rfl
  have o1:decide ((xs.getD k inZ).op=1)=false:=by rw [hop];rfl
  have o2:decide ((xs.getD k inZ).op=2)=false:=by rw [hop];rfl
  have o3:decide ((xs.getD k inZ).op=3)=false:=by rw [hop];rfl
  have o5:decide ((xs.getD k inZ).op=5)=true:=by rw [hop];rfl
  have o6:decide ((xs.getD k inZ).op=6)=false:=by rw [hop];rfl
  have o9:decide ((xs.getD k inZ).op=9)=false:=by rw [hop];rfl
  have hfm:=fm5 hf hop
  have ha:(xs.getD k inZ).a = -1∨0≤(xs.getD k inZ).a∧(xs.getD k inZ).a < 8:=hfm.2.1.imp id (·.1)
  have hx:=Zbz hfm.1
  refine ⟨fun _=>?_,fun h=>Zd (show memB (xs.getD k inZ)=true from hmm) (show memB (xs.getD k inZ)=false from h)⟩
  refine WpC.dr Zi mixed 0 ?_
  refine Z0 [2] Z Z Z Z Z Z (r:=.i .i64 (if (xs.getD k inZ).ix = -1 then 0 else rgG g (xs.getD k inZ).ix)) (fun _ H1 hH=>Z2 (Z5l (xs.getD k inZ).ix 0 g hx) (fun _=>rfl) _ [2] Z Z ⟨hH 2 (by simp),trivial⟩ rfl) ?_
  refine Zp Z Z Z Z Z Z Z (fun _=>Z7s (xs.getD k inZ).off (if (xs.getD k inZ).ix = -1 then 0 else rgG g (xs.getD k inZ).ix) (xs.getD k inZ).sz) ?_
  refine Zp Z Z Z Z Z Z Z (fun _=>ZX (plcF (xs.getD k inZ).off (if (xs.getD k inZ).ix = -1 then 0 else rgG g (xs.getD k inZ).ix) (xs.getD k inZ).sz) (xs.getD k inZ).sz) ?_
  refine ⟨by kernel_rfl,?_⟩
  refine ⟨fun h=>Zd (show rdB (xs.getD k inZ)=true from h) (show rdB (xs.getD k inZ)=false from hrd),fun _=>?_⟩
  refine ⟨fun h=>Zd (show decide ((xs.getD k inZ).op=1)=true from h) (show decide ((xs.getD k inZ).op=1)=false from o1),fun _=>?_⟩
  refine ⟨fun h=>Zd (show decide ((xs.getD k inZ).op=2)=true from h) (show decide ((xs.getD k inZ).op=2)=false from o2),fun _=>?_⟩
  refine ⟨fun h=>Zd (show decide ((xs.getD k inZ).op=3)=true from h) (show decide ((xs.getD k inZ).op=3)=false from o3),fun _=>?_⟩
  refine ⟨fun _=>?_,fun h=>Zd (show decide ((xs.getD k inZ).op=5)=true from o5) (show decide ((xs.getD k inZ).op=5)=false from h)⟩
  refine WpC.dr Zi mixed 0 ?_
  refine Z0 [2] Z Z Z Z Z Z (r:=.i .i64 (if (xs.getD k inZ).a = -1 then (xs.getD k inZ).imm else rgG g (xs.getD k inZ).a)) (fun _ H1 hH=>Z2 (Z5l (xs.getD k inZ).a (xs.getD k inZ).imm g ha) (fun _=>rfl) _ [2] Z Z ⟨hH 2 (by simp),trivial⟩ rfl) ?_
  refine Zp Z Z Z Z Z Z Z (fun _=>Z5k (if (xs.getD k inZ).a = -1 then (xs.getD k inZ).imm else rgG g (xs.getD k inZ).a) 0 (xs.getD k inZ).sz) ?_
  refine ⟨by kernel_rfl,?_⟩
  refine Z4 Z Z Z Z Z Z Z (fun _=>Z19 (xs.getD k inZ)) ?_
  have hgv:gvsB (xs.getD k inZ)=false:=by unfold gvsB;rw [hop];rfl
  rw [hgv]
  refine ⟨fun h=>Z3 h,fun _=>?_⟩
  refine ⟨fun _=>?_,fun h=>Zd (show stpB (xs.getD k inZ)=true from hst) (show stpB (xs.getD k inZ)=false from h)⟩
  refine OpC.yld 0 rfl (ZA Zi Z Z Z Z Z Z Z Z Z (SrcA.sl Z Z Z Z (by decide) rfl) (Z18 (y:=(⟨M,k,(xs.getD k inZ).op,(xs.getD k inZ).loc,mskF (plcF (xs.getD k inZ).off (if (xs.getD k inZ).ix = -1 then 0 else rgG g (xs.getD k inZ).ix) (xs.getD k inZ).sz) (xs.getD k inZ).sz,rdB (xs.getD k inZ),wrB (xs.getD k inZ),0,getF (if (xs.getD k inZ).a = -1 then (xs.getD k inZ).imm else rgG g (xs.getD k inZ).a) 0 (xs.getD k inZ).sz,(xs.getD k inZ).acq,(xs.getD k inZ).wk,(xs.getD k inZ).rel,(xs.getD k inZ).pr,(xs.getD k inZ).su⟩:Ev)) hI.le rfl ev_w) (by decide) (Z1D (show N+1≤1000000 by omega) (Nat.le_refl _)) (by show (N+1) * 96≤140737488355328;omega)) (fun d hd=>by cases hd;rfl) ?_
  have hnx:nxtF g (xs.getD k inZ) k=(k+1):=by unfold nxtF jmpB;rw [o9];rfl
  have hgx:givF g (xs.getD k inZ)=g:=by unfold givF;rw [if_neg (show ¬ (xs.getD k inZ).op=1 by omega),if_neg (show ¬ (xs.getD k inZ).op=2 by omega),if_neg (show ¬ (xs.getD k inZ).op=3 by omega)]
  have hI2:LcI xs g0 rd0 (k+1) g rd (N+1) (ev++[(⟨M,k,(xs.getD k inZ).op,(xs.getD k inZ).loc,mskF (plcF (xs.getD k inZ).off (if (xs.getD k inZ).ix = -1 then 0 else rgG g (xs.getD k inZ).ix) (xs.getD k inZ).sz) (xs.getD k inZ).sz,rdB (xs.getD k inZ),wrB (xs.getD k inZ),0,getF (if (xs.getD k inZ).a = -1 then (xs.getD k inZ).imm else rgG g (xs.getD k inZ).a) 0 (xs.getD k inZ).sz,(xs.getD k inZ).acq,(xs.getD k inZ).wk,(xs.getD k inZ).rel,(xs.getD k inZ).pr,(xs.getD k inZ).su⟩:Ev)]) (M+1) (p++[(k:Int)]):=by
   have hup:=Z1H hc (g:=g) hkl
   rw [hnx] at hup
   refine ⟨hup.2,hI.hg,?_,Nat.le_trans (Nat.succ_le_succ hI.hp) hup.1,Nat.le_trans (Nat.succ_le_succ hI.he) hup.1,by rw [List.length_append,hI.lp];rfl,by rw [List.length_append,hI.le];rfl⟩
   rw [← hI.hu,Z2c hc hkl hrd,hnx,hgx]
  refine ⟨(((k+1),g,rd,_,_,N+1,ev++[(⟨M,k,(xs.getD k inZ).op,(xs.getD k inZ).loc,mskF (plcF (xs.getD k inZ).off (if (xs.getD k inZ).ix = -1 then 0 else rgG g (xs.getD k inZ).ix) (xs.getD k inZ).sz) (xs.getD k inZ).sz,rdB (xs.getD k inZ),wrB (xs.getD k inZ),0,getF (if (xs.getD k inZ).a = -1 then (xs.getD k inZ).imm else rgG g (xs.getD k inZ).a) 0 (xs.getD k inZ).sz,(xs.getD k inZ).acq,(xs.getD k inZ).wk,(xs.getD k inZ).rel,(xs.getD k inZ).pr,(xs.getD k inZ).su⟩:Ev)],M+1,p++[(k:Int)]):LcB),hI2,?_,rfl,⟨⟨i_cg (w_at hk8 hkl),rfl,rfl⟩,⟨rfl,rfl,rfl⟩,⟨rfl,rfl,rfl⟩,⟨rfl,rfl,rfl⟩,trivial⟩,⟨_,rfl⟩,Z1v,rfl⟩
  have:=hI2.hk
  show xs.length - (k+1) < xs.length - k
  omega
 ·have hrd:rdB (xs.getD k inZ)=true:=by unfold rdB;rw [hop];rfl
  have hwr:wrB (xs.getD k inZ)=true:=by unfold wrB;rw [hop];rfl
  have hmm:memB (xs.getD k inZ)=true:=by unfold memB;rw [hop];rfl
  have hst:stpB (xs.getD k inZ)=true:=by unfold stpB;rw [hmm,hop];rfl
  have o1:decide ((xs.getD k inZ).op=1)=false:=by rw [hop];rfl
  have o2:decide ((xs.getD k inZ).op=2)=false:=by rw [hop];rfl
  have o3:decide ((xs.getD k inZ).op=3)=false:=by rw [hop];rfl
  have o5:decide ((xs.getD k inZ).op=5)=false:=by rw [hop];rfl
  have o6:decide ((xs.getD k inZ).op=6)=true:=by rw [hop];rfl
  have o9:decide ((xs.getD k inZ).op=9)=false:=by rw [hop];rfl
  have hfm:=fm6 hf hop
  have hd:0≤(xs.getD k inZ).dst∧(xs.getD k inZ).dst < 8:=hfm.1
  have ha:0≤(xs.getD k inZ).a∧(xs.getD k inZ).a < 8:=hfm.2.1
  have hx:=Zbz hfm.2.2.1
  refine ⟨fun _=>?_,fun h=>Zd (show memB (xs.getD k inZ)=true from hmm) (show memB (xs.getD k inZ)=false from h)⟩
  refine WpC.dr Zi mixed 0 ?_
  refine Z0 [2] Z Z Z Z Z Z (r:=.i .i64 (if (xs.getD k inZ).ix = -1 then 0 else rgG g (xs.getD k inZ).ix)) (fun _ H1 hH=>Z2 (Z5l (xs.getD k inZ).ix 0 g hx) (fun _=>rfl) _ [2] Z Z ⟨hH 2 (by simp),trivial⟩ rfl) ?_
  refine Zp Z Z Z Z Z Z Z (fun _=>Z7s (xs.getD k inZ).off (if (xs.getD k inZ).ix = -1 then 0 else rgG g (xs.getD k inZ).ix) (xs.getD k inZ).sz) ?_
  refine Zp Z Z Z Z Z Z Z (fun _=>ZX (plcF (xs.getD k inZ).off (if (xs.getD k inZ).ix = -1 then 0 else rgG g (xs.getD k inZ).ix) (xs.getD k inZ).sz) (xs.getD k inZ).sz) ?_
  refine ⟨by kernel_rfl,?_⟩
  refine ⟨fun _=>?_,fun h=>Zd (show rdB (xs.getD k inZ)=true from hrd) (show rdB (xs.getD k inZ)=false from h)⟩
  cases rd with
  | nil=>
    refine ⟨fun _=>?_,fun h=>Zv h⟩
    exact .inr ⟨by rw [← hI.hu];exact Z6m hkl hrd,rfl,_,rfl⟩
  | cons v rest=>
    refine ⟨fun h=>absurd (of_decide_eq_true h) (by show ¬ ((rest.length+1:Nat):Int)=0;omega),fun _=>?_⟩
    refine WpC.dr Zi mixed 0 ?_
    refine ⟨fun _=>(show (0:Int)≤0∧(0:Int) < ((rest.length+1:Nat):Int) by omega),?_⟩
    refine Zp Z Z Z Z Z Z Z (fun _=>Z5k v 0 (xs.getD k inZ).sz) ?_
    refine ⟨by kernel_rfl,?_⟩
    refine ⟨fun _=>(show (0:Int)≤1∧(1:Int)≤((rest.length+1:Nat):Int) by omega),?_⟩
    refine ⟨fun h=>Zd (show decide ((xs.getD k inZ).op=1)=true from h) (show decide ((xs.getD k inZ).op=1)=false from o1),fun _=>?_⟩
    refine ⟨fun h=>Zd (show decide ((xs.getD k inZ).op=2)=true from h) (show decide ((xs.getD k inZ).op=2)=false from o2),fun _=>?_⟩
    refine ⟨fun h=>Zd (show decide ((xs.getD k inZ).op=3)=true from h) (show decide ((xs.getD k inZ).op=3)=false from o3),fun _=>?_⟩
    refine ⟨fun h=>Zd (show decide ((xs.getD k inZ).op=5)=true from h) (show decide ((xs.getD k inZ).op=5)=false from o5),fun _=>?_⟩
    refine ⟨fun _=>?_,fun h=>Zd (show decide ((xs.getD k inZ).op=6)=true from o6) (show decide ((xs.getD k inZ).op=6)=false from h)⟩
    refine WpC.dr Zi mixed 0 ?_
    refine ⟨fun _=>ha,?_⟩
    refine ⟨fun _=>(show (xs.getD k inZ).a.toNat < 8 by omega),?_⟩
    refine Zp Z Z Z Z Z Z Z (fun _=>rmw_ok (xs.getD k inZ).fn (getF v 0 (xs.getD k inZ).sz) (rgG g (xs.getD k inZ).a) (xs.getD k inZ).sz) ?_
    refine ⟨by kernel_rfl,?_⟩
    refine Z4 Z Z Z Z Z Z Z (fun _=>Z19 (xs.getD k inZ)) ?_
    have hgv:gvsB (xs.getD k inZ)=true:=by unfold gvsB;rw [hop];rfl
    rw [hgv]
    refine ⟨fun _=>?_,fun h=>absurd (of_decide_eq_false h) (by show ¬ ¬ (0≤(xs.getD k inZ).dst);omega)⟩
    refine ⟨fun _=>hd,?_⟩
    refine ⟨(show (xs.getD k inZ).dst.toNat < 8 by omega),?_⟩
    refine ⟨fun _=>?_,fun h=>Zd (show stpB (xs.getD k inZ)=true from hst) (show stpB (xs.getD k inZ)=false from h)⟩
    refine OpC.yld 0 rfl (ZA Zi Z Z Z Z Z Z Z Z Z (SrcA.sl Z Z Z Z (by decide) rfl) (Z18 (y:=(⟨M,k,(xs.getD k inZ).op,(xs.getD k inZ).loc,mskF (plcF (xs.getD k inZ).off (if (xs.getD k inZ).ix = -1 then 0 else rgG g (xs.getD k inZ).ix) (xs.getD k inZ).sz) (xs.getD k inZ).sz,rdB (xs.getD k inZ),wrB (xs.getD k inZ),getF v 0 (xs.getD k inZ).sz,rmwF (xs.getD k inZ).fn (getF v 0 (xs.getD k inZ).sz) (rgG g (xs.getD k inZ).a) (xs.getD k inZ).sz,(xs.getD k inZ).acq,(xs.getD k inZ).wk,(xs.getD k inZ).rel,(xs.getD k inZ).pr,(xs.getD k inZ).su⟩:Ev)) hI.le rfl ev_w) (by decide) (Z1D (show N+1≤1000000 by omega) (Nat.le_refl _)) (by show (N+1) * 96≤140737488355328;omega)) (fun d hd=>by cases hd;rfl) ?_
    have hI2:LcI xs g0 rd0 (k+1) (g.set (xs.getD k inZ).dst.toNat (getF v 0 (xs.getD k inZ).sz)) (((v::rest).take (v::rest).length).drop 1) (N+1) (ev++[(⟨M,k,(xs.getD k inZ).op,(xs.getD k inZ).loc,mskF (plcF (xs.getD k inZ).off (if (xs.getD k inZ).ix = -1 then 0 else rgG g (xs.getD k inZ).ix) (xs.getD k inZ).sz) (xs.getD k inZ).sz,rdB (xs.getD k inZ),wrB (xs.getD k inZ),getF v 0 (xs.getD k inZ).sz,rmwF (xs.getD k inZ).fn (getF v 0 (xs.getD k inZ).sz) (rgG g (xs.getD k inZ).a) (xs.getD k inZ).sz,(xs.getD k inZ).acq,(xs.getD k inZ).wk,(xs.getD k inZ).rel,(xs.getD k inZ).pr,(xs.getD k inZ).su⟩:Ev)]) (M+1) (p++[(k:Int)]):=by
     refine ⟨hkl,by rw [List.length_set];exact hI.hg,?_,Nat.succ_le_succ hI.hp,Nat.succ_le_succ hI.he,by rw [List.length_append,hI.lp];rfl,by rw [List.length_append,hI.le];rfl⟩
     rw [Zcw,← hI.hu,Z6n hc hkl hrd]
     unfold redF;rw [if_pos hrd]
    refine ⟨(((k+1),(g.set (xs.getD k inZ).dst.toNat (getF v 0 (xs.getD k inZ).sz)),(((v::rest).take (v::rest).length).drop 1),_,_,N+1,ev++[(⟨M,k,(xs.getD k inZ).op,(xs.getD k inZ).loc,mskF (plcF (xs.getD k inZ).off (if (xs.getD k inZ).ix = -1 then 0 else rgG g (xs.getD k inZ).ix) (xs.getD k inZ).sz) (xs.getD k inZ).sz,rdB (xs.getD k inZ),wrB (xs.getD k inZ),getF v 0 (xs.getD k inZ).sz,rmwF (xs.getD k inZ).fn (getF v 0 (xs.getD k inZ).sz) (rgG g (xs.getD k inZ).a) (xs.getD k inZ).sz,(xs.getD k inZ).acq,(xs.getD k inZ).wk,(xs.getD k inZ).rel,(xs.getD k inZ).pr,(xs.getD k inZ).su⟩:Ev)],M+1,p++[(k:Int)]):LcB),hI2,?_,rfl,⟨⟨i_cg (w_at hk8 hkl),rfl,rfl⟩,⟨rfl,rfl,rfl⟩,⟨rfl,rfl,rfl⟩,⟨rfl,rfl,rfl⟩,trivial⟩,⟨_,rfl⟩,Z1v,rfl⟩
    have:=hI2.hk
    show xs.length - (k+1) < xs.length - k
    omega
 ·have hrd:rdB (xs.getD k inZ)=false:=by unfold rdB;rw [hop];rfl
  have hwr:wrB (xs.getD k inZ)=false:=by unfold wrB;rw [hop];rfl
  have hmm:memB (xs.getD k inZ)=false:=by unfold memB;rw [hop];rfl
  have hst:stpB (xs.getD k inZ)=true:=by unfold stpB;rw [hmm,hop];rfl
  have o1:decide ((xs.getD k inZ).op=1)=false:=by rw [hop];rfl
  have o2:decide ((xs.getD k inZ).op=2)=false:=by rw [hop];rfl
  have o3:decide ((xs.getD k inZ).op=3)=false:=by rw [hop];rfl
  have o5:decide ((xs.getD k inZ).op=5)=false:=by rw [hop];rfl
  have o6:decide ((xs.getD k inZ).op=6)=false:=by rw [hop];rfl
  have o9:decide ((xs.getD k inZ).op=9)=false:=by rw [hop];rfl
  have hfm:=fm7 hf hop
  refine ⟨fun h=>Zd (show memB (xs.getD k inZ)=true from h) (show memB (xs.getD k inZ)=false from hmm),fun _=>?_⟩
  refine ⟨fun h=>Zd (show rdB (xs.getD k inZ)=true from h) (show rdB (xs.getD k inZ)=false from hrd),fun _=>?_⟩
  refine ⟨fun h=>Zd (show decide ((xs.getD k inZ).op=1)=true from h) (show decide ((xs.getD k inZ).op=1)=false from o1),fun _=>?_⟩
  refine ⟨fun h=>Zd (show decide ((xs.getD k inZ).op=2)=true from h) (show decide ((xs.getD k inZ).op=2)=false from o2),fun _=>?_⟩
  refine ⟨fun h=>Zd (show decide ((xs.getD k inZ).op=3)=true from h) (show decide ((xs.getD k inZ).op=3)=false from o3),fun _=>?_⟩
  refine ⟨fun h=>Zd (show decide ((xs.getD k inZ).op=5)=true from h) (show decide ((xs.getD k inZ).op=5)=false from o5),fun _=>?_⟩
  refine ⟨fun h=>Zd (show decide ((xs.getD k inZ).op=6)=true from h) (show decide ((xs.getD k inZ).op=6)=false from o6),fun _=>?_⟩
  refine ⟨fun h=>Zd (show decide ((xs.getD k inZ).op=9)=true from h) (show decide ((xs.getD k inZ).op=9)=false from o9),fun _=>?_⟩
  refine Z4 Z Z Z Z Z Z Z (fun _=>Z19 (xs.getD k inZ)) ?_
  have hgv:gvsB (xs.getD k inZ)=false:=by unfold gvsB;rw [hop];rfl
  rw [hgv]
  refine ⟨fun h=>Z3 h,fun _=>?_⟩
  refine ⟨fun _=>?_,fun h=>Zd (show stpB (xs.getD k inZ)=true from hst) (show stpB (xs.getD k inZ)=false from h)⟩
  refine OpC.yld 0 rfl (ZA Zi Z Z Z Z Z Z Z Z Z (SrcA.sl Z Z Z Z (by decide) rfl) (Z18 (y:=(⟨M,k,(xs.getD k inZ).op,0,0,rdB (xs.getD k inZ),wrB (xs.getD k inZ),0,0,(xs.getD k inZ).acq,(xs.getD k inZ).wk,(xs.getD k inZ).rel,(xs.getD k inZ).pr,(xs.getD k inZ).su⟩:Ev)) hI.le rfl ev_w) (by decide) (Z1D (show N+1≤1000000 by omega) (Nat.le_refl _)) (by show (N+1) * 96≤140737488355328;omega)) (fun d hd=>by cases hd;rfl) ?_
  have hnx:nxtF g (xs.getD k inZ) k=(k+1):=by unfold nxtF jmpB;rw [o9];rfl
  have hgx:givF g (xs.getD k inZ)=g:=by unfold givF;rw [if_neg (show ¬ (xs.getD k inZ).op=1 by omega),if_neg (show ¬ (xs.getD k inZ).op=2 by omega),if_neg (show ¬ (xs.getD k inZ).op=3 by omega)]
  have hI2:LcI xs g0 rd0 (k+1) g rd (N+1) (ev++[(⟨M,k,(xs.getD k inZ).op,0,0,rdB (xs.getD k inZ),wrB (xs.getD k inZ),0,0,(xs.getD k inZ).acq,(xs.getD k inZ).wk,(xs.getD k inZ).rel,(xs.getD k inZ).pr,(xs.getD k inZ).su⟩:Ev)]) (M+1) (p++[(k:Int)]):=by
   have hup:=Z1H hc (g:=g) hkl
   rw [hnx] at hup
   refine ⟨hup.2,hI.hg,?_,Nat.le_trans (Nat.succ_le_succ hI.hp) hup.1,Nat.le_trans (Nat.succ_le_succ hI.he) hup.1,by rw [List.length_append,hI.lp];rfl,by rw [List.length_append,hI.le];rfl⟩
   rw [← hI.hu,Z2c hc hkl hrd,hnx,hgx]
  refine ⟨(((k+1),g,rd,_,_,N+1,ev++[(⟨M,k,(xs.getD k inZ).op,0,0,rdB (xs.getD k inZ),wrB (xs.getD k inZ),0,0,(xs.getD k inZ).acq,(xs.getD k inZ).wk,(xs.getD k inZ).rel,(xs.getD k inZ).pr,(xs.getD k inZ).su⟩:Ev)],M+1,p++[(k:Int)]):LcB),hI2,?_,rfl,⟨⟨i_cg (w_at hk8 hkl),rfl,rfl⟩,⟨rfl,rfl,rfl⟩,⟨rfl,rfl,rfl⟩,⟨rfl,rfl,rfl⟩,trivial⟩,⟨_,rfl⟩,Z1v,rfl⟩
  have:=hI2.hk
  show xs.length - (k+1) < xs.length - k
  omega
 ·have hrd:rdB (xs.getD k inZ)=false:=by unfold rdB;rw [hop];rfl
  have hwr:wrB (xs.getD k inZ)=false:=by unfold wrB;rw [hop];rfl
  have hmm:memB (xs.getD k inZ)=false:=by unfold memB;rw [hop];rfl
  have hst:stpB (xs.getD k inZ)=true:=by unfold stpB;rw [hmm,hop];rfl
  have o1:decide ((xs.getD k inZ).op=1)=false:=by rw [hop];rfl
  have o2:decide ((xs.getD k inZ).op=2)=false:=by rw [hop];rfl
  have o3:decide ((xs.getD k inZ).op=3)=false:=by rw [hop];rfl
  have o5:decide ((xs.getD k inZ).op=5)=false:=by rw [hop];rfl
  have o6:decide ((xs.getD k inZ).op=6)=false:=by rw [hop];rfl
  have o9:decide ((xs.getD k inZ).op=9)=false:=by rw [hop];rfl
  have hfm:=fm8 hf hop
  refine ⟨fun h=>Zd (show memB (xs.getD k inZ)=true from h) (show memB (xs.getD k inZ)=false from hmm),fun _=>?_⟩
  refine ⟨fun h=>Zd (show rdB (xs.getD k inZ)=true from h) (show rdB (xs.getD k inZ)=false from hrd),fun _=>?_⟩
  refine ⟨fun h=>Zd (show decide ((xs.getD k inZ).op=1)=true from h) (show decide ((xs.getD k inZ).op=1)=false from o1),fun _=>?_⟩
  refine ⟨fun h=>Zd (show decide ((xs.getD k inZ).op=2)=true from h) (show decide ((xs.getD k inZ).op=2)=false from o2),fun _=>?_⟩
  refine ⟨fun h=>Zd (show decide ((xs.getD k inZ).op=3)=true from h) (show decide ((xs.getD k inZ).op=3)=false from o3),fun _=>?_⟩
  refine ⟨fun h=>Zd (show decide ((xs.getD k inZ).op=5)=true from h) (show decide ((xs.getD k inZ).op=5)=false from o5),fun _=>?_⟩
  refine ⟨fun h=>Zd (show decide ((xs.getD k inZ).op=6)=true from h) (show decide ((xs.getD k inZ).op=6)=false from o6),fun _=>?_⟩
  refine ⟨fun h=>Zd (show decide ((xs.getD k inZ).op=9)=true from h) (show decide ((xs.getD k inZ).op=9)=false from o9),fun _=>?_⟩
  refine Z4 Z Z Z Z Z Z Z (fun _=>Z19 (xs.getD k inZ)) ?_
  have hgv:gvsB (xs.getD k inZ)=false:=by unfold gvsB;rw [hop];rfl
  rw [hgv]
  refine ⟨fun h=>Z3 h,fun _=>?_⟩
  refine ⟨fun _=>?_,fun h=>Zd (show stpB (xs.getD k inZ)=true from hst) (show stpB (xs.getD k inZ)=false from h)⟩
  refine OpC.yld 0 rfl (ZA Zi Z Z Z Z Z Z Z Z Z (SrcA.sl Z Z Z Z (by decide) rfl) (Z18 (y:=(⟨M,k,(xs.getD k inZ).op,0,0,rdB (xs.getD k inZ),wrB (xs.getD k inZ),0,0,(xs.getD k inZ).acq,(xs.getD k inZ).wk,(xs.getD k inZ).rel,(xs.getD k inZ).pr,(xs.getD k inZ).su⟩:Ev)) hI.le rfl ev_w) (by decide) (Z1D (show N+1≤1000000 by omega) (Nat.le_refl _)) (by show (N+1) * 96≤140737488355328;omega)) (fun d hd=>by cases hd;rfl) ?_
  have hnx:nxtF g (xs.getD k inZ) k=(k+1):=by unfold nxtF jmpB;rw [o9];rfl
  have hgx:givF g (xs.getD k inZ)=g:=by unfold givF;rw [if_neg (show ¬ (xs.getD k inZ).op=1 by omega),if_neg (show ¬ (xs.getD k inZ).op=2 by omega),if_neg (show ¬ (xs.getD k inZ).op=3 by omega)]
  have hI2:LcI xs g0 rd0 (k+1) g rd (N+1) (ev++[(⟨M,k,(xs.getD k inZ).op,0,0,rdB (xs.getD k inZ),wrB (xs.getD k inZ),0,0,(xs.getD k inZ).acq,(xs.getD k inZ).wk,(xs.getD k inZ).rel,(xs.getD k inZ).pr,(xs.getD k inZ).su⟩:Ev)]) (M+1) (p++[(k:Int)]):=by
   have hup:=Z1H hc (g:=g) hkl
   rw [hnx] at hup
   refine ⟨hup.2,hI.hg,?_,Nat.le_trans (Nat.succ_le_succ hI.hp) hup.1,Nat.le_trans (Nat.succ_le_succ hI.he) hup.1,by rw [List.length_append,hI.lp];rfl,by rw [List.length_append,hI.le];rfl⟩
   rw [← hI.hu,Z2c hc hkl hrd,hnx,hgx]
  refine ⟨(((k+1),g,rd,_,_,N+1,ev++[(⟨M,k,(xs.getD k inZ).op,0,0,rdB (xs.getD k inZ),wrB (xs.getD k inZ),0,0,(xs.getD k inZ).acq,(xs.getD k inZ).wk,(xs.getD k inZ).rel,(xs.getD k inZ).pr,(xs.getD k inZ).su⟩:Ev)],M+1,p++[(k:Int)]):LcB),hI2,?_,rfl,⟨⟨i_cg (w_at hk8 hkl),rfl,rfl⟩,⟨rfl,rfl,rfl⟩,⟨rfl,rfl,rfl⟩,⟨rfl,rfl,rfl⟩,trivial⟩,⟨_,rfl⟩,Z1v,rfl⟩
  have:=hI2.hk
  show xs.length - (k+1) < xs.length - k
  omega
 ·have hrd:rdB (xs.getD k inZ)=false:=by unfold rdB;rw [hop];rfl
  have hwr:wrB (xs.getD k inZ)=false:=by unfold wrB;rw [hop];rfl
  have hmm:memB (xs.getD k inZ)=false:=by unfold memB;rw [hop];rfl
  have hst:stpB (xs.getD k inZ)=false:=by unfold stpB;rw [hmm,hop];rfl
  have o1:decide ((xs.getD k inZ).op=1)=false:=by rw [hop];rfl
  have o2:decide ((xs.getD k inZ).op=2)=false:=by rw [hop];rfl
  have o3:decide ((xs.getD k inZ).op=3)=false:=by rw [hop];rfl
  have o5:decide ((xs.getD k inZ).op=5)=false:=by rw [hop];rfl
  have o6:decide ((xs.getD k inZ).op=6)=false:=by rw [hop];rfl
  have o9:decide ((xs.getD k inZ).op=9)=true:=by rw [hop];rfl
  have hfm:=fm9 hf hop
  have ha:0≤(xs.getD k inZ).a∧(xs.getD k inZ).a < 8:=hfm.1
  refine ⟨fun h=>Zd (show memB (xs.getD k inZ)=true from h) (show memB (xs.getD k inZ)=false from hmm),fun _=>?_⟩
  refine ⟨fun h=>Zd (show rdB (xs.getD k inZ)=true from h) (show rdB (xs.getD k inZ)=false from hrd),fun _=>?_⟩
  refine ⟨fun h=>Zd (show decide ((xs.getD k inZ).op=1)=true from h) (show decide ((xs.getD k inZ).op=1)=false from o1),fun _=>?_⟩
  refine ⟨fun h=>Zd (show decide ((xs.getD k inZ).op=2)=true from h) (show decide ((xs.getD k inZ).op=2)=false from o2),fun _=>?_⟩
  refine ⟨fun h=>Zd (show decide ((xs.getD k inZ).op=3)=true from h) (show decide ((xs.getD k inZ).op=3)=false from o3),fun _=>?_⟩
  refine ⟨fun h=>Zd (show decide ((xs.getD k inZ).op=5)=true from h) (show decide ((xs.getD k inZ).op=5)=false from o5),fun _=>?_⟩
  refine ⟨fun h=>Zd (show decide ((xs.getD k inZ).op=6)=true from h) (show decide ((xs.getD k inZ).op=6)=false from o6),fun _=>?_⟩
  refine ⟨fun _=>?_,fun h=>Zd (show decide ((xs.getD k inZ).op=9)=true from o9) (show decide ((xs.getD k inZ).op=9)=false from h)⟩
  refine WpC.dr Zi mixed 0 ?_
  refine ⟨fun _=>ha,?_⟩
  refine ⟨fun _=>(show (xs.getD k inZ).a.toNat < 8 by omega),?_⟩
  refine ⟨by kernel_rfl,?_⟩
  refine ⟨fun hj=>?_,fun hj=>?_⟩
  ·have hj:(decide (rgG g (xs.getD k inZ).a=0) == (xs.getD k inZ).ze)=true:=hj
   have hjm:jmpB g (xs.getD k inZ)=true:=by unfold jmpB;rw [o9,hj];rfl
   refine Z4 Z Z Z Z Z Z Z (fun _=>Z19 (xs.getD k inZ)) ?_
   have hgv:gvsB (xs.getD k inZ)=false:=by unfold gvsB;rw [hop];rfl
   rw [hgv]
   refine ⟨fun h=>Z3 h,fun _=>?_⟩
   refine ⟨fun h=>Zd (show stpB (xs.getD k inZ)=true from h) (show stpB (xs.getD k inZ)=false from hst),fun _=>?_⟩
   have hnx:nxtF g (xs.getD k inZ) k=(xs.getD k inZ).to.toNat:=by unfold nxtF;rw [if_pos hjm]
   have hgx:givF g (xs.getD k inZ)=g:=by unfold givF;rw [if_neg (show ¬ (xs.getD k inZ).op=1 by omega),if_neg (show ¬ (xs.getD k inZ).op=2 by omega),if_neg (show ¬ (xs.getD k inZ).op=3 by omega)]
   have hI2:LcI xs g0 rd0 (xs.getD k inZ).to.toNat g rd N ev (M+1) (p++[(k:Int)]):=by
    have hup:=Z1H hc (g:=g) hkl
    rw [hnx] at hup
    refine ⟨hup.2,hI.hg,?_,Nat.le_trans (Nat.succ_le_succ hI.hp) hup.1,Nat.le_trans hI.he (Nat.le_of_lt hup.1),by rw [List.length_append,hI.lp];rfl,hI.le⟩
    rw [← hI.hu,Z2c hc hkl hrd,hnx,hgx]
   refine ⟨(((xs.getD k inZ).to.toNat,g,rd,_,_,N,ev,M+1,p++[(k:Int)]):LcB),hI2,?_,rfl,⟨⟨i_cg (show (xs.getD k inZ).to=((xs.getD k inZ).to.toNat:Int) by have:=hto hop;omega),rfl,rfl⟩,⟨rfl,rfl,rfl⟩,⟨rfl,rfl,rfl⟩,⟨rfl,rfl,rfl⟩,trivial⟩,⟨_,rfl⟩,Z1v,rfl⟩
   have:=hI2.hk
   show xs.length - (xs.getD k inZ).to.toNat < xs.length - k
   have:=hto hop
   omega
  ·have hj:(decide (rgG g (xs.getD k inZ).a=0) == (xs.getD k inZ).ze)=false:=hj
   have hjm:jmpB g (xs.getD k inZ)=false:=by unfold jmpB;rw [o9,hj];rfl
   refine Z4 Z Z Z Z Z Z Z (fun _=>Z19 (xs.getD k inZ)) ?_
   have hgv:gvsB (xs.getD k inZ)=false:=by unfold gvsB;rw [hop];rfl
   rw [hgv]
   refine ⟨fun h=>Z3 h,fun _=>?_⟩
   refine ⟨fun h=>Zd (show stpB (xs.getD k inZ)=true from h) (show stpB (xs.getD k inZ)=false from hst),fun _=>?_⟩
   have hnx:nxtF g (xs.getD k inZ) k=(k+1):=by unfold nxtF;rw [if_neg (by rw [hjm];decide)]
   have hgx:givF g (xs.getD k inZ)=g:=by unfold givF;rw [if_neg (show ¬ (xs.getD k inZ).op=1 by omega),if_neg (show ¬ (xs.getD k inZ).op=2 by omega),if_neg (show ¬ (xs.getD k inZ).op=3 by omega)]
   have hI2:LcI xs g0 rd0 (k+1) g rd N ev (M+1) (p++[(k:Int)]):=by
    have hup:=Z1H hc (g:=g) hkl
    rw [hnx] at hup
    refine ⟨hup.2,hI.hg,?_,Nat.le_trans (Nat.succ_le_succ hI.hp) hup.1,Nat.le_trans hI.he (Nat.le_of_lt hup.1),by rw [List.length_append,hI.lp];rfl,hI.le⟩
    rw [← hI.hu,Z2c hc hkl hrd,hnx,hgx]
   refine ⟨(((k+1),g,rd,_,_,N,ev,M+1,p++[(k:Int)]):LcB),hI2,?_,rfl,⟨⟨i_cg (w_at hk8 hkl),rfl,rfl⟩,⟨rfl,rfl,rfl⟩,⟨rfl,rfl,rfl⟩,⟨rfl,rfl,rfl⟩,trivial⟩,⟨_,rfl⟩,Z1v,rfl⟩
   have:=hI2.hk
   show xs.length - (k+1) < xs.length - k
   omega
end SX
end Go.Proofs.YtdddpbmcoimgdaaGreatDoor
