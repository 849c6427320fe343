/- A part of SX: symbolic and concrete runs of the program, with contracts of functions; lemmas without further conditions. Shortened by a tool (mini.py). -/
import Derived.Test.YtdddpbmcoimgdaaGreatDoorJBN
import Derived.Test.YtdddpbmcoimgdaaGreatDoorJBP
import Derived.Test.YtdddpbmcoimgdaaGreatDoorJAA
set_option linter.unusedVariables false
set_option linter.unusedSimpArgs false
set_option linter.unusedSectionVars false
set_option maxRecDepth 100000
namespace Go.Proofs.YtdddpbmcoimgdaaGreatDoor
namespace SX
open Go Go.Proofs
theorem ZhR (o:Option (List Int)):∃ r H,lclR o r H:=by
 cases o with
 | none=>exact ⟨_,_,.inr ⟨rfl,rfl,rfl⟩⟩
 | some g=>exact ⟨_,_,.inl ⟨g,0,[],0,[],rfl,rfl,rfl⟩⟩
structure ClI (xs:List In) (g rd:List Int) (n k i c:Nat) (ts:List Thr):Prop where
 l:ts.length=n
 ok:ThOk (tg ts k)
 x:(tg ts k).r.xs=xs
 i1:i≤(tg ts k).k
 i2:i≤xs.length
 c2:c≤rd.length
 u:lclT xs (tg ts k).k (tg ts k).g (rd.drop c)=some g
 st:stdB (tg ts k)=true→stpB (tI (tg ts k))=true
theorem Zfv {rd:List Int} {c:Nat} {v:Int} {r:List Int} (h:rd.drop c=v::r):c < rd.length∧v=rd.getD c 0∧r=rd.drop (c+1):=by
 have hc:c < rd.length:=by
  by_cases hc:c < rd.length
  ·exact hc
  ·rw [List.drop_eq_nil_of_le (by omega)] at h;cases h
 rw [List.drop_eq_getElem_cons hc] at h
 injection h with h1 h2
 refine ⟨hc,?_,h2.symm⟩
 rw [← h1,List.getD_eq_getElem?_getD,List.getElem?_eq_getElem hc];rfl
theorem ClI.go {xs:List In} {g rd:List Int} {n k i c:Nat} {ts:List Thr} (h:ClI xs g rd n k i c ts) (hk:k < n) (hs:stdB (tg ts k)=true) :
 (rdB (tI (tg ts k))=true→c < rd.length∧ClI xs g rd n k (i+1) (c+1) (ts.set k (pasN (tg ts k) (rd.getD c 0))))∧(rdB (tI (tg ts k))=false→ClI xs g rd n k (i+1) c (ts.set k (pasN (tg ts k) 0))):=by
 have hkl:(tg ts k).k < xs.length:=by have:=hs;unfold stdB at this;have:=of_decide_eq_true this;rw [h.x] at this;exact this
 have hc:CodeOk xs:=by have:=h.ok.c;rw [h.x] at this;exact this
 have hst:=h.st hs
 have hI:tI (tg ts k)=xs.getD (tg ts k).k inZ:=by unfold tI;rw [h.x]
 rw [hI] at hst ⊢
 obtain ⟨p1,p2⟩:=Zgm hc hkl hst h.u
 have hset:∀ x,tg (ts.set k x) k=x:=fun x=>Z2W (by rw [h.l];exact hk)
 have hup:∀ old,(tg ts k).k+1≤(pasN (tg ts k) old).k:=fun old=>by
  have h2:ThOk ⟨(tg ts k).r,(tg ts k).k+1,redF (tg ts k).g ((tg ts k).r.xs.getD (tg ts k).k inZ) old⟩:=⟨h.ok.c,by show (redF _ _ _).length=8;rw [Z5j];exact h.ok.g,by show (tg ts k).k+1≤(tg ts k).r.xs.length;rw [h.x];exact hkl⟩
  exact thrN_k _ h2
 have hst2:∀ old,stdB (pasN (tg ts k) old)=true→stpB (tI (pasN (tg ts k) old))=true:=fun old=>by
  have h2:ThOk ⟨(tg ts k).r,(tg ts k).k+1,redF (tg ts k).g ((tg ts k).r.xs.getD (tg ts k).k inZ) old⟩:=⟨h.ok.c,by show (redF _ _ _).length=8;rw [Z5j];exact h.ok.g,by show (tg ts k).k+1≤(tg ts k).r.xs.length;rw [h.x];exact hkl⟩
  exact Zcv _ h2
 have hpas:∀ old,(pasN (tg ts k) old).k=(Z44 xs (tg ts k).k (tg ts k).g old).1∧(pasN (tg ts k) old).g=(Z44 xs (tg ts k).k (tg ts k).g old).2:=fun old=>by
  unfold pasN Z44 thrN
  simp only [h.x]
  exact ⟨trivial,trivial⟩
 have hx2:∀ old,(pasN (tg ts k) old).r.xs=xs:=fun old=>h.x
 have hi:=h.i1
 refine ⟨fun hr=>?_,fun hr=>?_⟩
 ·obtain ⟨v,r,e1,e2⟩:=p1 hr
  obtain ⟨d1,d2,d3⟩:=Zfv e1
  subst d2 d3
  refine ⟨d1,by rw [List.length_set];exact h.l,?_,?_,?_,by omega,d1,?_,?_⟩
  ·rw [hset];exact h.ok.pas hs _
  ·rw [hset];exact hx2 _
  ·rw [hset];have:=hup (rd.getD c 0);omega
  ·rw [hset,(hpas _).1,(hpas _).2];exact e2
  ·rw [hset];exact hst2 _
 ·have e2:=p2 hr 0
  refine ⟨by rw [List.length_set];exact h.l,?_,?_,?_,by omega,h.c2,?_,?_⟩
  ·rw [hset];exact h.ok.pas hs _
  ·rw [hset];exact hx2 _
  ·rw [hset];have:=hup 0;omega
  ·rw [hset,(hpas _).1,(hpas _).2];exact e2
  ·rw [hset];exact hst2 _
theorem ClI.fin {xs:List In} {g rd:List Int} {n k i c:Nat} {ts:List Thr} (h:ClI xs g rd n k i c ts) (hs:stdB (tg ts k)=false):(tg ts k).k=xs.length∧(tg ts k).g=g:=by
 have hkl:(tg ts k).k=xs.length:=by
  have h1:=hs
  unfold stdB at h1
  have h1:=of_decide_eq_false h1
  have h2:=h.ok.k
  rw [h.x] at h1 h2
  omega
 have hc:CodeOk xs:=by have:=h.ok.c;rw [h.x] at this;exact this
 have:=h.u
 rw [Zbt hc (by omega)] at this
 exact ⟨hkl,by injection this⟩
def clH (t t2:Tst) (m n:Nat) (ts:List Thr) (g:List Int) (N:Nat) (ev:List Ev) (M:Nat) (p:List Int):List SB:=[.mem 28 (tsenc t) 1 0,.mem 28 (tsenc t) 1 0,.mem 28 (tsenc t2) 1 0,.mem 28 (tsenc t2) 1 0,.gone m,.gone 1,.gone 1,.mem 28 (tsenc t2) 1 0,.mem 106 [.sl 9 n 0 n none 0] 1 0,.mem 109 [.arr n Thr thr0 10 Z25 ts] n 10,.gone 1,.gone 1,.gone 1,.gone 1,.mem 23 [.ints .i64 8 g] 1 0,.mem 23 [.ints .i64 8 g] 1 0,.gone 1,.mem 49 [.arr N Ev ev0 15 Zah ev] N 15,.mem 3 [.ints .i64 M p] M 1,.mem 23 [.ints .i64 8 g] 1 0]
theorem ZbD {t t2:Tst} {m n:Nat} {ts:List Thr} {g:List Int} {N:Nat} {ev:List Ev} {M:Nat} {p:List Int}:BndH 20 (clH t t2 m n ts g N ev M p):=⟨Z1N _,Z1N _,Z1N _,Z1N _,trivial,trivial,trivial,Z1N _,⟨rfl,trivial⟩,⟨fun _=>rfl,trivial⟩,trivial,trivial,trivial,trivial,⟨rfl,trivial⟩,⟨rfl,trivial⟩,trivial,⟨fun _=>rfl,trivial⟩,⟨rfl,trivial⟩,⟨rfl,trivial⟩,trivial⟩
set_option maxHeartbeats 8000000 in
theorem clocal_ok (t:Tst) (kk:Int) (rd:List Int) (ra:Option Addr) (rc:Nat) (hw:TsW t):CtrV Tryz.prog 4 [.agg (tsenc t),.i .i64 kk,.imm Int 0 1 i1enc rd ra rc] (.b true):=by
 refine Z8 Z3h (fn:=Tryz.f4) Z Z Z Z Z Z ?_
 refine Z4 Z Z Z Z Z Z Z (fun _=>Zez) ?_
 refine ⟨fun h=>Z3 h,fun _=>?_⟩
 refine Z9 Z Z Z Z Z Z (r:=.i .i64 (chkT t)) (fun _=>Z2 (ZgB t hw) (fun _=>rfl) _ [] Z Z trivial rfl) ?_
 refine ⟨fun _=>rfl,fun h=>?_⟩
 have h:(!decide (chkT t=0)||decide ((100:Int) < (rd.length:Int)))=false:=h
 simp only [Bool.or_eq_false_iff,Bool.not_eq_false',decide_eq_true_eq,decide_eq_false_iff_not] at h
 have hR:=Zft h.1
 have hrd:rd.length≤100:=by omega
 have hu:=hR.u
 have hl1:=hu.l1
 have hl3:=hu.l3
 have hr8:∀ k,k < 3→(t.regs.getD k tz8).length=8:=fun k hk=>hw.r8 hk
 refine WpC.dr Z3h mixed 0 ?_
 iterate 2 refine ⟨fun _=>(show (t.code.length:Int)≠0 by omega),?_⟩
 refine ⟨by kernel_rfl,?_⟩
 obtain ⟨k,hk,hkk⟩:∃ k:Nat,k < t.code.length∧(IntKind.i64.wrap (kk.tmod (t.code.length:Int)+(t.code.length:Int))).tmod (t.code.length:Int)=(k:Int):=by
  have h1:=Int.tmod_lt_of_pos kk (show (0:Int) < (t.code.length:Int) by omega)
  have h2 : -(t.code.length:Int) < kk.tmod (t.code.length:Int):=by
   have:=Int.neg_tmod kk (t.code.length:Int)
   have h3:=Int.tmod_lt_of_pos (-kk) (show (0:Int) < (t.code.length:Int) by omega)
   omega
  rw [w64 (by omega) (by omega)]
  have h4:=Int.tmod_lt_of_pos (kk.tmod (t.code.length:Int)+(t.code.length:Int)) (show (0:Int) < (t.code.length:Int) by omega)
  have h5:=Int.tmod_nonneg (t.code.length:Int) (show 0≤kk.tmod (t.code.length:Int)+(t.code.length:Int) by omega)
  exact ⟨((kk.tmod (t.code.length:Int)+(t.code.length:Int)).tmod (t.code.length:Int)).toNat,by omega,by omega⟩
 refine OpC.shift (ZeY 1 (b:=(k:Int)) rfl hkk rfl) ?_
 refine Z1k Z Z Z Z [] 6 Z Z Z (twin14 t hu.l1 (by omega) (fun k hk=>Nat.le_trans (hu.sh k hk) (by decide)) (condL hR.cond)) Z Z Z Z trivial rfl (fun r H' hk=>?_) ?_
 ·obtain ⟨qs,ca,cc,da,dc,_,rfl⟩:=hk
  exact ⟨Nat.zero_le _,Nat.le_refl _⟩
 rintro r H' ⟨qs,ca,cc,da,dc,⟨rfl,hsm,hcc⟩,rfl⟩
 have hqn:(twT t qs ca cc da dc).code.length=t.code.length:=hsm.n
 have hnc:=Zdi (twT t qs ca cc da dc) (hsm.uok hu) (fun k hk=>(hsm.x k (by rw [← hsm.n];exact hk)).2) hw.regs.1 hr8
 simp only [hqn] at hnc
 generalize hn:t.code.length=n at *
 refine Z1k Z Z Z Z [] 3 Z Z Z hnc Z Z Z Z trivial rfl (fun r H' hk=>?_) ?_
 ·obtain ⟨ts,_,rfl⟩:=hk
  exact ⟨Nat.zero_le _,Nat.le_refl _⟩
 rintro r H' ⟨ts,⟨rfl,hfr⟩,rfl⟩
 have hck:=hu.code (t:=k) (by omega)
 have hsh:=hck.l8
 have hlc:=Zfu (t.code.getD k ir0).xs hck (fun ad cp=>hu.one (by omega) ad cp) (t.regs.getD k tz8) rd (hr8 k (by omega))
 refine Zh2 Z3h mixed 10 [false,false,false,false,false,false,false,false,false,false,false,false,false,false,true] [20] (Fl:=[some ⟨some 8,.ptr 19 1 0 [],[],[19],[(19,.mem 23 [.ints .i64 8 tz8] 1 0)]⟩]) (by kernel_rfl) ?_
 refine ⟨fun _=>(show (0:Int)≤(k:Int)∧(k:Int) < (t.code.length:Int) by omega),?_⟩
 refine OpD.yld 12 Z Z ZaI (Z2P Z3h Z Z Z Z Z Z Z Z (fun E=>rfl) (SrcA.imm Z Z Z) (p:=11) rfl Joins.nil (Z1D (show (t.code.getD k ir0).xs.length≤1000000 by omega) (Nat.le_refl _)) (by show (t.code.getD k ir0).xs.length * 120≤140737488355328;omega)) ?_
 refine ⟨fun _=>(show (0:Int)≤(k:Int)∧(k:Int) < 3 by omega),?_⟩
 refine ⟨fun _=>(show k < 3 by omega),?_⟩
 refine OpD.yld 14 Z Z ZaI (Z2P Z3h Z Z Z Z Z Z Z Z (fun E=>rfl) (SrcA.imm Z Z Z) (p:=13) rfl Joins.nil (Z1D (show rd.length≤1000000 by omega) (Nat.le_refl _)) (by show rd.length * 8≤140737488355328;omega)) ?_
 refine Ze7 rfl rfl rfl rfl [11,13] 5 rfl rfl hlc rfl rfl rfl rfl ⟨rfl,rfl,trivial⟩ rfl (fun r H' hk=>by rcases hk with ⟨g,N,ev,M,p,_,rfl,rfl⟩ | ⟨_,rfl,rfl⟩ <;> exact ⟨⟨Nat.le_of_ble_eq_true rfl,Nat.le_of_ble_eq_true rfl⟩,rfl⟩) (ZhR _) ?_
 rintro r H' (⟨g,N,ev,M,p,hg,rfl,rfl⟩ | ⟨hg,rfl,rfl⟩)
 rotate_left
 ·refine ⟨by kernel_rfl,rfl,?_⟩
  exact ⟨fun _=>rfl,fun h=>Zv h⟩
 refine ⟨by kernel_rfl,rfl,?_⟩
 refine ⟨fun h=>Z3 h,fun _=>?_⟩
 have hI0:ClI (t.code.getD k ir0).xs g rd n k 0 0 ts:=by
  obtain ⟨ad,c,he⟩:=hfr.2 k hk
  have he:ts.getD k thr0=thrN ⟨⟨(qs.getD k ir0).xs,some ad,c⟩,0,t.regs.getD k tz8⟩:=he
  rw [(hsm.x k (by omega)).1] at he
  have h2:ThOk ⟨⟨(t.code.getD k ir0).xs,some ad,c⟩,0,t.regs.getD k tz8⟩:=⟨hck,hr8 k (by omega),Nat.zero_le _⟩
  refine ⟨hfr.1,?_,?_,Nat.zero_le _,Nat.zero_le _,Nat.zero_le _,?_,?_⟩
  ·unfold tg;rw [he];exact h2.run
  ·unfold tg;rw [he];rfl
  ·unfold tg;rw [he]
   show lclT (t.code.getD k ir0).xs (thrT (t.code.getD k ir0).xs 0 (t.regs.getD k tz8)).1 (thrT (t.code.getD k ir0).xs 0 (t.regs.getD k tz8)).2 rd=some g
   rw [Z7r hck (Nat.zero_le _)];exact hg
  ·unfold tg;rw [he];exact Zcv _ h2
 clear hfr hnc hlc hg
 refine WpC.loop Z3h (β:=Nat×Nat×List Thr) (fun b=>ClI (t.code.getD k ir0).xs g rd n k b.1 b.2.1 b.2.2) (fun b=>[(13,.i .i64 b.1),(12,.i .i64 b.2.1)]) (fun b=>clH t (twT t qs ca cc da dc) t.code.length n b.2.2 g N ev M p) (fun b=>(t.code.getD k ir0).xs.length+1 - b.1) (0,0,ts) 79228162440477361298705870848 hI0 ?_ ?_
 ·exact ⟨rfl,⟨⟨rfl,rfl,rfl⟩,⟨rfl,rfl,rfl⟩,trivial⟩,⟨[],rfl⟩,ZbD,rfl⟩
 clear hI0
 rintro ⟨i,c,ts⟩ hI
 have hI:ClI (t.code.getD k ir0).xs g rd n k i c ts:=hI
 have hi2:=hI.i2
 have hcl:=hI.c2
 refine ⟨fun _=>(show (0:Int)≤(k:Int)∧(k:Int) < (t.code.length:Int) by omega),?_⟩
 refine ⟨fun _=>?_,fun h=>absurd (of_decide_eq_false h) (by show ¬ ¬ ((i:Int)≤((t.code.getD k ir0).xs.length:Int));omega)⟩
 have hn0:n≠0:=by omega
 cases hs:stdB (tg ts k) with
 | true=>
   obtain ⟨g1,g2⟩:=hI.go hk hs
   have hkl:(tg ts k).k < (t.code.getD k ir0).xs.length:=by have:=hs;unfold stdB at this;have:=of_decide_eq_true this;rw [hI.x] at this;exact this
   have hi3:i < (t.code.getD k ir0).xs.length:=by have:=hI.i1;omega
   refine Z9 Z Z Z Z Z Z (r:=.tup [.agg (ienc (tI (tg ts k))),.b true]) (fun _=>Z2 (Z9A hk hn0 hs) (fun _=>rfl) _ [8,9] Z Z ⟨rfl,rfl,trivial⟩ rfl) ?_
   refine ⟨fun h=>Z3 h,fun _=>?_⟩
   refine Z4 Z Z Z Z Z Z Z (fun _=>ZH (tI (tg ts k))) ?_
   refine ⟨fun hr=>?_,fun hr=>?_⟩
   ·obtain ⟨hc1,hI2⟩:=g1 hr
    refine ⟨fun _=>(show (0:Int)≤(c:Int)∧(c:Int) < (rd.length:Int) by omega),?_⟩
    refine Z1x Z Z Z Z [8,9] rfl (Zbw n n ts k (rd.getD c 0) hk hI.l hn0 hI.ok hs) Z Z Z Z ⟨rfl,rfl,trivial⟩ rfl ?_
    exact ⟨(i+1,c+1,ts.set k (pasN (tg ts k) (rd.getD c 0))),hI2,by show (t.code.getD k ir0).xs.length+1 - (i+1) < (t.code.getD k ir0).xs.length+1 - i;omega,rfl,⟨⟨Z16 hi3 (by omega),rfl,rfl⟩,⟨Z16 hc1 (by omega),rfl,rfl⟩,trivial⟩,⟨_,rfl⟩,ZbD,rfl⟩
   ·have hI2:=g2 hr
    refine Z1x Z Z Z Z [8,9] rfl (Zbw n n ts k 0 hk hI.l hn0 hI.ok hs) Z Z Z Z ⟨rfl,rfl,trivial⟩ rfl ?_
    exact ⟨(i+1,c,ts.set k (pasN (tg ts k) 0)),hI2,by show (t.code.getD k ir0).xs.length+1 - (i+1) < (t.code.getD k ir0).xs.length+1 - i;omega,rfl,⟨⟨Z16 hi3 (by omega),rfl,rfl⟩,⟨rfl,rfl,rfl⟩,trivial⟩,⟨_,rfl⟩,ZbD,rfl⟩
 | false=>
   obtain ⟨f1,f2⟩:=hI.fin hs
   refine Z9 Z Z Z Z Z Z (r:=.tup [.agg (ienc inZ),.b false]) (fun _=>Z2 (ZeU hk hn0 hs) (fun _=>rfl) _ [8,9] Z Z ⟨rfl,rfl,trivial⟩ rfl) ?_
   refine ⟨fun _=>?_,fun h=>Zv h⟩
   have hreg:∀ r:Nat,r < 8→Ctr Tryz.prog 20 [.ptr 0 1 0 [],.i .i64 k,.i .i64 r] (Z1w n n ts) (fun r' H=>r'=.i .i64 (rgG g r)∧H=Z1w n n ts):=fun r hr=>by
    have:=ZhG n n ts k r hk hr hn0
    rw [f2] at this;exact this
   have hat:=at_in n n ts k hk hn0
   rw [f1] at hat
   refine WpC.loop Z3h (β:=Nat) (fun r=>r≤8) (fun r=>[(17,.i .i64 r)]) (fun _=>clH t (twT t qs ca cc da dc) t.code.length n ts g N ev M p++[.mem 56 (ienc inZ) 1 0]) (fun r=>8 - r) 0 324439325495912462445562476757056 (Nat.zero_le _) ?_ ?_
   ·exact ⟨rfl,⟨⟨rfl,rfl,rfl⟩,trivial⟩,⟨[],rfl⟩,⟨Z1N _,Z1N _,Z1N _,Z1N _,trivial,trivial,trivial,Z1N _,⟨rfl,trivial⟩,⟨fun _=>rfl,trivial⟩,trivial,trivial,trivial,trivial,⟨rfl,trivial⟩,⟨rfl,trivial⟩,trivial,⟨fun _=>rfl,trivial⟩,⟨rfl,trivial⟩,⟨rfl,trivial⟩,⟨rfl,rfl,rfl,rfl,rfl,rfl,rfl,rfl,rfl,rfl,rfl,rfl,rfl,rfl,rfl,rfl,rfl,trivial⟩,trivial⟩,rfl⟩
   intro r hr
   refine ⟨fun h=>?_,fun h=>?_⟩
   ·have h:decide ((r:Int) < 8)=true:=h
    have hr8:r < 8:=by have:=of_decide_eq_true h;omega
    refine WpC.dr Z3h mixed 0 ?_
    refine Z0 [8,9] Z Z Z Z Z Z (r:=.i .i64 (rgG g r)) (fun _ H1 hH=>Z2 (hreg r hr8) (fun _=>rfl) _ [8,9] Z Z ⟨hH 8 (by simp),hH 9 (by simp),trivial⟩ rfl) ?_
    refine ⟨fun _=>(show (0:Int)≤(r:Int)∧(r:Int) < 8 by omega),?_⟩
    refine ⟨fun _=>(show r < 8 from hr8),?_⟩
    refine ⟨by kernel_rfl,?_⟩
    refine ⟨fun h=>?_,fun _=>?_⟩
    ·have h:(!decide (rgG g r=g.getD r 0))=true:=h
     have e:rgG g r=g.getD r 0:=rfl
     rw [e] at h
     simp at h
    ·exact ⟨r+1,hr8,by omega,rfl,⟨⟨Z16 hr8 (by omega),rfl,rfl⟩,trivial⟩,⟨_,rfl⟩,⟨Z1N _,Z1N _,Z1N _,Z1N _,trivial,trivial,trivial,Z1N _,⟨rfl,trivial⟩,⟨fun _=>rfl,trivial⟩,trivial,trivial,trivial,trivial,⟨rfl,trivial⟩,⟨rfl,trivial⟩,trivial,⟨fun _=>rfl,trivial⟩,⟨rfl,trivial⟩,⟨rfl,trivial⟩,⟨rfl,rfl,rfl,rfl,rfl,rfl,rfl,rfl,rfl,rfl,rfl,rfl,rfl,rfl,rfl,rfl,rfl,trivial⟩,trivial⟩,rfl⟩
   ·refine WpC.dr Z3h mixed 0 ?_
    refine Z0 [8,9] Z Z Z Z Z Z (r:=.i .i64 ((t.code.getD k ir0).xs.length:Int)) (fun _ H1 hH=>Z2 hat (fun _=>rfl) _ [8,9] Z Z ⟨hH 8 (by simp),hH 9 (by simp),trivial⟩ rfl) ?_
    refine ⟨fun _=>(show (0:Int)≤(k:Int)∧(k:Int) < (t.code.length:Int) by omega),?_⟩
    refine ⟨by kernel_rfl,?_⟩
    exact congrArg SV.b (decide_eq_true rfl)
end SX
end Go.Proofs.YtdddpbmcoimgdaaGreatDoor
