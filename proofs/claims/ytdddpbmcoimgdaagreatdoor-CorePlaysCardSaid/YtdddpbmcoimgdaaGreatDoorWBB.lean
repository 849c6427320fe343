/- A part of SX: symbolic and concrete runs of the program, with contracts of functions; lemmas without further conditions. Shortened by a tool (mini.py). -/
import Derived.Test.YtdddpbmcoimgdaaGreatDoorWAC
import Derived.Test.YtdddpbmcoimgdaaGreatDoorWAD
import Derived.Test.YtdddpbmcoimgdaaGreatDoorWAX
import Derived.Test.YtdddpbmcoimgdaaGreatDoorWAA
set_option linter.unusedVariables false
set_option linter.unusedSimpArgs false
set_option linter.unusedSectionVars false
set_option maxRecDepth 100000
namespace Go.Proofs.YtdddpbmcoimgdaaGreatDoor
namespace SX
open Go Go.Proofs
def pasN (t:Thr) (old:Int):Thr:=thrN ⟨t.r,t.k+1,redF t.g (t.r.xs.getD t.k inZ) old⟩
structure ThOk (t:Thr):Prop where
 c:CodeOk t.r.xs
 g:t.g.length=8
 k:t.k≤t.r.xs.length
theorem ThOk.run {t:Thr} (h:ThOk t):ThOk (thrN t):=by
 have:=Zd6 h.c t.k t.g h.k
 exact ⟨h.c,by show (thrT t.r.xs t.k t.g).2.length=8;rw [this.2.2.1];exact h.g,this.2.1⟩
theorem ThOk.pas {t:Thr} (h:ThOk t) (hs:stdB t=true) (old:Int):ThOk (pasN t old):=by
 unfold stdB at hs
 have hs:=of_decide_eq_true hs
 have h2:ThOk ⟨t.r,t.k+1,redF t.g (t.r.xs.getD t.k inZ) old⟩:=⟨h.c,by show (redF _ _ _).length=8;rw [Z5E];exact h.g,hs⟩
 exact h2.run
theorem Z3F (v n:Nat) (ts:List Thr) (k:Nat) (old:Int) (hk:k < n) (hv:v≠0) (h:stdB (ts.getD k thr0)=false):Ctr Tryz.prog 15 [.ptr 0 1 0 [],.i .i64 k,.i .i64 old] (ZC v n ts) (fun r H=>r=.b false∧H=ZC v n ts):=by
 refine Za Zc (fn:=Tryz.f15) Z Z Z Z Z Z (Z1a hv) ?_
 refine Zs Z Z Z Z [0,1] rfl (Zac hk hv h) Z Z Z Z ⟨rfl,rfl,trivial⟩ rfl ?_
 exact ⟨fun _=>⟨rfl,_,rfl⟩,fun h=>Zl h⟩
theorem Z85 (v n:Nat) (ts:List Thr) (k old:Int) (hk:outR k n) (hv:v≠0):Ctr Tryz.prog 15 [.ptr 0 1 0 [],.i .i64 k,.i .i64 old] (ZC v n ts) (fun r H=>r=.b false∧H=ZC v n ts):=by
 refine Za Zc (fn:=Tryz.f15) Z Z Z Z Z Z (Z1a hv) ?_
 refine Zs Z Z Z Z [0,1] rfl (Z24 v n ts k hk hv) Z Z Z Z ⟨rfl,rfl,trivial⟩ rfl ?_
 exact ⟨fun _=>⟨rfl,_,rfl⟩,fun h=>Zl h⟩
theorem rd_dst {i:In} (hf:Zw i=true) (h:rdB i=true):0≤i.dst∧i.dst < 8:=by
 unfold rdB at h
 simp only [Bool.or_eq_true,decide_eq_true_eq] at h
 rcases h with h | h
 ·exact (fm4 hf h).1
 ·exact (fm6 hf h).1
theorem Zic {g:List Int} {i:In} {old:Int} (h:rdB i=true):redF g i old=g.set i.dst.toNat (getF old 0 i.sz):=by unfold redF;rw [if_pos h]
theorem red_no {g:List Int} {i:In} {old:Int} (h:rdB i=false):redF g i old=g:=by unfold redF;rw [if_neg (by rw [h];decide)]
theorem Zda {A:SB} {ty:TypeId} {n v:Nat} {X:List SB} {a b:List Thr} (h:a=b):A::SB.mem ty [.arr n Thr thr0 10 Z1Q a] v 10::X=[A,SB.mem ty [.arr n Thr thr0 10 Z1Q b] v 10]++X:=by subst h;rfl
set_option maxHeartbeats 1000000 in
theorem Z3G (v n:Nat) (ts:List Thr) (k:Nat) (old:Int) (hk:k < n) (hn:ts.length=n) (hv:v≠0) (ht:ThOk (ts.getD k thr0)) (h:stdB (ts.getD k thr0)=true):Ctr Tryz.prog 15 [.ptr 0 1 0 [],.i .i64 k,.i .i64 old] (ZC v n ts) (fun r H=>r=.b true∧H=ZC v n (ts.set k (pasN (ts.getD k thr0) old))):=by
 have h2:(ts.getD k thr0).k < (ts.getD k thr0).r.xs.length:=by unfold stdB at h;exact of_decide_eq_true h
 have h8:=ht.c.l8
 have hf:=ht.c.fm _ h2
 refine Z16 Zc (fn:=Tryz.f15) Z Z Z Z Z Z (Z1a hv) (Nat.le_refl _) ?_
 refine Zs Z Z Z Z [0,1] rfl (Z6T hk hv h) Z Z Z Z ⟨rfl,rfl,trivial⟩ rfl ?_
 refine ⟨fun h=>Z3 h,fun _=>?_⟩
 refine Zs Z Z Z Z [0,1] rfl (Z57 v n ts k hk hv) Z Z Z Z ⟨rfl,rfl,trivial⟩ rfl ?_
 refine Z4 Z Z Z Z Z Z Z (fun _=>ZT _) ?_
 refine ⟨fun h3=>?_,fun h3=>?_⟩
 ·have hrd:rdB ((ts.getD k thr0).r.xs.getD (ts.getD k thr0).k inZ)=true:=h3
  have hd:0≤((ts.getD k thr0).r.xs.getD (ts.getD k thr0).k inZ).dst∧((ts.getD k thr0).r.xs.getD (ts.getD k thr0).k inZ).dst < 8:=rd_dst hf hrd
  refine WpC.dr Zc mixed 0 ?_
  refine Zg Z Z Z Z Z Z Z (fun _=>Z6R old 0 ((ts.getD k thr0).r.xs.getD (ts.getD k thr0).k inZ).sz) ?_
  refine ⟨fun _=>hd,?_⟩
  refine ⟨rfl,?_⟩
  refine ⟨hk,?_⟩
  refine ⟨(show ((ts.getD k thr0).r.xs.getD (ts.getD k thr0).k inZ).dst.toNat < 8 by omega),?_⟩
  refine ⟨⟨(ts.getD k thr0).r,(ts.getD k thr0).k,(ts.getD k thr0).g.set ((ts.getD k thr0).r.xs.getD (ts.getD k thr0).k inZ).dst.toNat (getF old 0 ((ts.getD k thr0).r.xs.getD (ts.getD k thr0).k inZ).sz)⟩,rfl,?_⟩
  refine ⟨by kernel_rfl,?_⟩
  have htb:(ts.set k ⟨(ts.getD k thr0).r,(ts.getD k thr0).k,(ts.getD k thr0).g.set ((ts.getD k thr0).r.xs.getD (ts.getD k thr0).k inZ).dst.toNat (getF old 0 ((ts.getD k thr0).r.xs.getD (ts.getD k thr0).k inZ).sz)⟩).getD k thr0=⟨(ts.getD k thr0).r,(ts.getD k thr0).k,(ts.getD k thr0).g.set ((ts.getD k thr0).r.xs.getD (ts.getD k thr0).k inZ).dst.toNat (getF old 0 ((ts.getD k thr0).r.xs.getD (ts.getD k thr0).k inZ).sz)⟩:=ZW (by omega)
  refine ⟨fun _=>⟨rfl,hk⟩,?_⟩
  refine ⟨rfl,?_⟩
  refine ⟨hk,?_⟩
  refine ⟨⟨((ts.set k ⟨(ts.getD k thr0).r,(ts.getD k thr0).k,(ts.getD k thr0).g.set ((ts.getD k thr0).r.xs.getD (ts.getD k thr0).k inZ).dst.toNat (getF old 0 ((ts.getD k thr0).r.xs.getD (ts.getD k thr0).k inZ).sz)⟩).getD k thr0).r,(ts.getD k thr0).k+1,((ts.set k ⟨(ts.getD k thr0).r,(ts.getD k thr0).k,(ts.getD k thr0).g.set ((ts.getD k thr0).r.xs.getD (ts.getD k thr0).k inZ).dst.toNat (getF old 0 ((ts.getD k thr0).r.xs.getD (ts.getD k thr0).k inZ).sz)⟩).getD k thr0).g⟩,Z9b (show ((((ts.getD k thr0).k+1:Nat):Int))=IntKind.i64.wrap ((((ts.set k ⟨(ts.getD k thr0).r,(ts.getD k thr0).k,(ts.getD k thr0).g.set ((ts.getD k thr0).r.xs.getD (ts.getD k thr0).k inZ).dst.toNat (getF old 0 ((ts.getD k thr0).r.xs.getD (ts.getD k thr0).k inZ).sz)⟩).getD k thr0).k:Int)+1) by rw [htb];show _=IntKind.i64.wrap (((ts.getD k thr0).k:Int)+1);rw [w64 (by omega) (by omega)];rfl),?_⟩
  have hL:((ts.set k ⟨(ts.getD k thr0).r,(ts.getD k thr0).k,(ts.getD k thr0).g.set ((ts.getD k thr0).r.xs.getD (ts.getD k thr0).k inZ).dst.toNat (getF old 0 ((ts.getD k thr0).r.xs.getD (ts.getD k thr0).k inZ).sz)⟩).set k ⟨((ts.set k ⟨(ts.getD k thr0).r,(ts.getD k thr0).k,(ts.getD k thr0).g.set ((ts.getD k thr0).r.xs.getD (ts.getD k thr0).k inZ).dst.toNat (getF old 0 ((ts.getD k thr0).r.xs.getD (ts.getD k thr0).k inZ).sz)⟩).getD k thr0).r,(ts.getD k thr0).k+1,((ts.set k ⟨(ts.getD k thr0).r,(ts.getD k thr0).k,(ts.getD k thr0).g.set ((ts.getD k thr0).r.xs.getD (ts.getD k thr0).k inZ).dst.toNat (getF old 0 ((ts.getD k thr0).r.xs.getD (ts.getD k thr0).k inZ).sz)⟩).getD k thr0).g⟩).getD k thr0=⟨(ts.getD k thr0).r,(ts.getD k thr0).k+1,redF (ts.getD k thr0).g ((ts.getD k thr0).r.xs.getD (ts.getD k thr0).k inZ) old⟩:=by
   rw [ZW (by rw [List.length_set];omega)]
   rw [htb,Zic hrd]
  refine Zs Z Z Z Z [1] rfl (Zd9 v n ((ts.set k ⟨(ts.getD k thr0).r,(ts.getD k thr0).k,(ts.getD k thr0).g.set ((ts.getD k thr0).r.xs.getD (ts.getD k thr0).k inZ).dst.toNat (getF old 0 ((ts.getD k thr0).r.xs.getD (ts.getD k thr0).k inZ).sz)⟩).set k ⟨((ts.set k ⟨(ts.getD k thr0).r,(ts.getD k thr0).k,(ts.getD k thr0).g.set ((ts.getD k thr0).r.xs.getD (ts.getD k thr0).k inZ).dst.toNat (getF old 0 ((ts.getD k thr0).r.xs.getD (ts.getD k thr0).k inZ).sz)⟩).getD k thr0).r,(ts.getD k thr0).k+1,((ts.set k ⟨(ts.getD k thr0).r,(ts.getD k thr0).k,(ts.getD k thr0).g.set ((ts.getD k thr0).r.xs.getD (ts.getD k thr0).k inZ).dst.toNat (getF old 0 ((ts.getD k thr0).r.xs.getD (ts.getD k thr0).k inZ).sz)⟩).getD k thr0).g⟩) k hk (by simp;omega) hv (by rw [hL];exact ht.c) (by rw [hL];show (redF _ _ _).length=8;rw [Z5E];exact ht.g) (by rw [hL];exact h2)) Z Z Z Z ⟨rfl,trivial⟩ rfl ?_
  have hF:((ts.set k ⟨(ts.getD k thr0).r,(ts.getD k thr0).k,(ts.getD k thr0).g.set ((ts.getD k thr0).r.xs.getD (ts.getD k thr0).k inZ).dst.toNat (getF old 0 ((ts.getD k thr0).r.xs.getD (ts.getD k thr0).k inZ).sz)⟩).set k ⟨((ts.set k ⟨(ts.getD k thr0).r,(ts.getD k thr0).k,(ts.getD k thr0).g.set ((ts.getD k thr0).r.xs.getD (ts.getD k thr0).k inZ).dst.toNat (getF old 0 ((ts.getD k thr0).r.xs.getD (ts.getD k thr0).k inZ).sz)⟩).getD k thr0).r,(ts.getD k thr0).k+1,((ts.set k ⟨(ts.getD k thr0).r,(ts.getD k thr0).k,(ts.getD k thr0).g.set ((ts.getD k thr0).r.xs.getD (ts.getD k thr0).k inZ).dst.toNat (getF old 0 ((ts.getD k thr0).r.xs.getD (ts.getD k thr0).k inZ).sz)⟩).getD k thr0).g⟩).set k (thrN (((ts.set k ⟨(ts.getD k thr0).r,(ts.getD k thr0).k,(ts.getD k thr0).g.set ((ts.getD k thr0).r.xs.getD (ts.getD k thr0).k inZ).dst.toNat (getF old 0 ((ts.getD k thr0).r.xs.getD (ts.getD k thr0).k inZ).sz)⟩).set k ⟨((ts.set k ⟨(ts.getD k thr0).r,(ts.getD k thr0).k,(ts.getD k thr0).g.set ((ts.getD k thr0).r.xs.getD (ts.getD k thr0).k inZ).dst.toNat (getF old 0 ((ts.getD k thr0).r.xs.getD (ts.getD k thr0).k inZ).sz)⟩).getD k thr0).r,(ts.getD k thr0).k+1,((ts.set k ⟨(ts.getD k thr0).r,(ts.getD k thr0).k,(ts.getD k thr0).g.set ((ts.getD k thr0).r.xs.getD (ts.getD k thr0).k inZ).dst.toNat (getF old 0 ((ts.getD k thr0).r.xs.getD (ts.getD k thr0).k inZ).sz)⟩).getD k thr0).g⟩).getD k thr0))=ts.set k (pasN (ts.getD k thr0) old):=by
   rw [hL]
   simp only [List.set_set]
   rfl
  exact ⟨rfl,_,Zda hF⟩
 ·have hrd:rdB ((ts.getD k thr0).r.xs.getD (ts.getD k thr0).k inZ)=false:=h3
  have htb:ts.getD k thr0=ts.getD k thr0:=rfl
  refine ⟨fun _=>⟨rfl,hk⟩,?_⟩
  refine ⟨rfl,?_⟩
  refine ⟨hk,?_⟩
  refine ⟨⟨(ts.getD k thr0).r,(ts.getD k thr0).k+1,(ts.getD k thr0).g⟩,Z9b (show ((((ts.getD k thr0).k+1:Nat):Int))=IntKind.i64.wrap (((ts.getD k thr0).k:Int)+1) by rw [htb];show _=IntKind.i64.wrap (((ts.getD k thr0).k:Int)+1);rw [w64 (by omega) (by omega)];rfl),?_⟩
  have hL:(ts.set k ⟨(ts.getD k thr0).r,(ts.getD k thr0).k+1,(ts.getD k thr0).g⟩).getD k thr0=⟨(ts.getD k thr0).r,(ts.getD k thr0).k+1,redF (ts.getD k thr0).g ((ts.getD k thr0).r.xs.getD (ts.getD k thr0).k inZ) old⟩:=by
   rw [ZW (by omega)]
   rw [red_no hrd]
  refine Zs Z Z Z Z [1] rfl (Zd9 v n (ts.set k ⟨(ts.getD k thr0).r,(ts.getD k thr0).k+1,(ts.getD k thr0).g⟩) k hk (by simp;omega) hv (by rw [hL];exact ht.c) (by rw [hL];show (redF _ _ _).length=8;rw [Z5E];exact ht.g) (by rw [hL];exact h2)) Z Z Z Z ⟨rfl,trivial⟩ rfl ?_
  have hF:(ts.set k ⟨(ts.getD k thr0).r,(ts.getD k thr0).k+1,(ts.getD k thr0).g⟩).set k (thrN ((ts.set k ⟨(ts.getD k thr0).r,(ts.getD k thr0).k+1,(ts.getD k thr0).g⟩).getD k thr0))=ts.set k (pasN (ts.getD k thr0) old):=by
   rw [hL]
   simp only [List.set_set]
   rfl
  exact ⟨rfl,_,Zda hF⟩
theorem Joins.app (olds news:List SV):Joins olds news (olds++news):=⟨fun E=>by rw [Zr],fun m V h1 h2=>OkL_append.2 ⟨h1,h2⟩⟩
theorem Z21 {n k:Nat} (h:n≤k) (hk:k≤1000000):n≤maxLen:=Nat.le_trans h (Nat.le_trans hk (by decide))
theorem ZgU (xs:List In) (ad:Addr) (cap:Nat) (hl:xs.length≤1000000):Ctr Tryz.prog 47 [.imm In inZ 17 ienc xs (some ad) cap] [] (fun r H=>r=.sl 1 1 0 xs.length none 0∧H=[.gone 1,.mem 56 [.arr xs.length In inZ 17 ienc xs] 1 17]):=by
 refine Z16 Zc (fn:=Tryz.f47) Z Z Z Z Z Z ⟨trivial,⟨fun _=>rfl,trivial⟩,trivial⟩ (Nat.zero_le _) ?_
 refine ⟨fun h=>Z3 h,fun _=>?_⟩
 refine OpC.yld 1 rfl (Z5g Zc Z Z Z Z Z Z Z Z (fun E=>rfl) (SrcA.imm Z Z Z) (p:=1) rfl Joins.nil (Z21 hl (Nat.le_refl _)) (by show xs.length * 120≤140737488355328;omega)) (fun d hd=>by cases hd;rfl) ?_
 exact ⟨rfl,_,rfl⟩
structure Same (rs qs:List IRow):Prop where
 n:qs.length=rs.length
 x:∀ k,k < rs.length→(qs.getD k ir0).xs=(rs.getD k ir0).xs∧∃ ad,(qs.getD k ir0).a=some ad
theorem Same.step {rs qs:List IRow} {j:Nat} (hj:j < rs.length) (hq:qs.length=j) (h:∀ k,k < j→(qs.getD k ir0).xs=(rs.getD k ir0).xs∧∃ ad,(qs.getD k ir0).a=some ad) {r:IRow} (hr:r.xs=(rs.getD j ir0).xs) (ha:∃ ad,r.a=some ad) :
 ∀ k,k < j+1→((qs++[r]).getD k ir0).xs=(rs.getD k ir0).xs∧∃ ad,((qs++[r]).getD k ir0).a=some ad:=fun k hk=>by
 rcases Nat.lt_succ_iff_lt_or_eq.1 hk with h1 | rfl
 ·have e:(qs++[r]).getD k ir0=qs.getD k ir0:=by simp only [List.getD_eq_getElem?_getD,List.getElem?_append_left (show k < qs.length by omega)]
  rw [e];exact h k h1
 ·have e:(qs++[r]).getD k ir0=r:=by simp [List.getD_eq_getElem?_getD,List.getElem?_append_right (show qs.length≤k by omega),hq]
  rw [e];exact ⟨hr,ha⟩
theorem Zq {N:Nat} (t:Tst):BndL N (tsenc t):=⟨rfl,rfl,rfl,fun _=>rfl,rfl,rfl,rfl,trivial⟩
theorem ZdV (E:Env) (n:Nat) (qs:List IRow) (r:IRow) (hq:qs.length=n):cellsL E [.arr (n+1) IRow ir0 1 irenc (qs++[r])]=cellsL E ([.arr n IRow ir0 1 irenc qs]++[.imm In inZ 17 ienc r.xs r.a r.cap]):=by
 have:=(Z28 (d:=ir0) (n:=1) (enc:=irenc) (y:=r) (new:=irenc r) hq rfl ir_w).cells E
 rw [this,Zr];rfl
theorem Zid (m:Mem) (V:List Nat) (n:Nat) (qs:List IRow) (r:IRow) (hq:qs.length=n) (h:OkL m V ([.arr n IRow ir0 1 irenc qs]++[.imm In inZ 17 ienc r.xs r.a r.cap])):OkL m V [.arr (n+1) IRow ir0 1 irenc (qs++[r])]:=by
 have:=OkL_append.1 h
 exact (Z28 (d:=ir0) (n:=1) (enc:=irenc) (y:=r) (new:=irenc r) hq rfl ir_w).ok m V this.1 this.2
def twT (t:Tst) (qs:List IRow) (ca:Option Addr) (cc:Nat) (da:Option Addr) (dc:Nat):Tst:={ t with code:=qs,ca:=ca,cc:=cc,da:=da,dc:=dc }
def twF (t:Tst) (qs:List IRow) (ca:Option Addr) (cc:Nat) (da:Option Addr) (dc:Nat):List SB:=[.mem 28 (tsenc t) 1 0,.mem 28 (tsenc (twT t qs ca cc da dc)) 1 0,.mem 28 (tsenc (twT t qs ca cc da dc)) 1 0,.gone t.code.length,.gone 1,.gone 1]
def twH (t:Tst) (j:Nat) (qs:List IRow):List SB:=[.mem 28 (tsenc t) 1 0,.mem 28 ti28.zero 1 0,.mem 28 [.i .i64 t.arch,.s t.name,.ints .i64 3 t.init,.arr 3 (List Int) tz8 8 te8 t.regs,.sl 3 j 0 j none 0,.i .i64 t.qu,.imm Cn cn0 5 cenc t.cond t.da t.dc] 1 0,.mem 38 [.arr j IRow ir0 1 irenc qs] j 1]
theorem Zfy {N j:Nat} {t:Tst} {qs:List IRow}:BndH (N+4) (twH t j qs):=by
 refine ⟨Zq t,?_,⟨rfl,rfl,rfl,fun _=>rfl,?_,rfl,rfl,trivial⟩,⟨fun _=>rfl,trivial⟩,trivial⟩
 ·exact ⟨rfl,rfl,rfl,fun _=>rfl,rfl,rfl,rfl,trivial⟩
 ·show Nat.blt 3 (N+4)=true
  exact Nat.ble_eq_true_of_le (by omega)
set_option maxHeartbeats 1000000 in
theorem Zc8 (t:Tst) (h1:1≤t.code.length) (hn:t.code.length≤1000000) (hl:∀ k,k < t.code.length→(t.code.getD k ir0).xs.length≤1000000) (hc:t.cond.length≤1000000):Ctr Tryz.prog 12 [.agg (tsenc t)] [] (fun r H=>∃ qs ca cc da dc,(r=.agg (tsenc (twT t qs ca cc da dc))∧Same t.code qs∧qs.length≤cc)∧H=twF t qs ca cc da dc):=by
 refine Ctr.enter Zc (fn:=Tryz.f12) Z Z Z Z Z ?_
 refine WpC.shift (Z1E (i:=2) (pre:=[.i .i64 t.arch,.s t.name,.ints .i64 3 t.init,.arr 3 (List Int) tz8 8 te8 t.regs]) (post:=[.i .i64 t.qu,.imm Cn cn0 5 cenc t.cond t.da t.dc]) rfl 0 38 [.arr 0 IRow ir0 1 irenc []] (fun E=>rfl) (fun m V=>⟨⟨rfl,by simp only [Ok];exact ⟨rfl,ir_w,fun j hj=>absurd hj (Nat.not_lt_zero _)⟩⟩,trivial⟩) rfl) ?_
 refine WpC.loop Zc (β:=Nat×List IRow) (fun b=>b.1≤t.code.length∧b.2.length=b.1∧∀ k,k < b.1→(b.2.getD k ir0).xs=(t.code.getD k ir0).xs∧∃ ad,(b.2.getD k ir0).a=some ad) (fun b=>[(4,.i .i64 b.1)]) (fun b=>twH t b.1 b.2) (fun b=>t.code.length - b.1) (0,[]) 67108752 ⟨Nat.zero_le _,rfl,fun k hk=>absurd hk (Nat.not_lt_zero _)⟩ ?_ ?_
 ·exact ⟨rfl,⟨⟨rfl,rfl,rfl⟩,trivial⟩,⟨[],rfl⟩,Zfy,rfl⟩
 rintro ⟨j,qs⟩ ⟨hj,hq,hs⟩
 simp only at hj hq hs
 refine ⟨fun h=>?_,fun h=>?_⟩
 ·have h:decide ((j:Int) < (t.code.length:Int))=true:=h
  have h:=of_decide_eq_true h
  have hjl:j < t.code.length:=by omega
  have hlj:=hl j hjl
  refine WpC.after ?_
  refine WpC.dr Zc mixed 3 ?_
  refine ⟨fun _=>(show (0:Int)≤(j:Int)∧(j:Int) < (t.code.length:Int) by omega),?_⟩
  refine OpD.yld 6 Z Z litE_w (Z5g Zc Z Z Z Z Z Z Z Z (fun E=>rfl) (SrcA.imm Z Z Z) (p:=5) rfl Joins.nil (Z21 hlj (Nat.le_refl _)) (by show (t.code.getD j ir0).xs.length * 120≤140737488355328;omega)) ?_
  refine OpD.yld 7 Z Z Z42 (Zx Zc Z Z Z Z Z Z Z Z Z (SrcA.sl Z Z Z Z (by decide) rfl) (Joins.app _ _) (by decide) (Z21 (show j+1≤1000000 by omega) (Nat.le_refl _)) (by show (j+1) * 24≤140737488355328;omega)) ?_
  refine ⟨by kernel_rfl,?_⟩
  refine After.join ?_
  refine Z6O (i:=3) (k:=5) (pre:=[.arr j IRow ir0 1 irenc qs]) (post:=[]) Z Z (by decide) rfl (by decide) rfl ien_w ien_ok (fun ad cap hcap=>?_)
  refine After.recell 3 [.arr (j+1) IRow ir0 1 irenc (qs++[⟨(t.code.getD j ir0).xs,some ad,cap⟩])] rfl (fun E=>ZdV E j qs ⟨(t.code.getD j ir0).xs,some ad,cap⟩ hq) (fun m V hm=>Zid m V j qs ⟨(t.code.getD j ir0).xs,some ad,cap⟩ hq hm) ?_
  refine After.pure ?_
  refine ⟨(j+1,qs++[⟨(t.code.getD j ir0).xs,some ad,cap⟩]),⟨hjl,by simp [hq],Same.step hjl hq hs rfl ⟨ad,rfl⟩⟩,?_,rfl,⟨⟨ZI hjl hn,rfl,rfl⟩,trivial⟩,⟨_,rfl⟩,Zfy,rfl⟩
  show t.code.length - (j+1) < t.code.length - j
  omega
 ·have h:decide ((j:Int) < (t.code.length:Int))=false:=h
  have h:=of_decide_eq_false h
  have hjl:j=t.code.length:=by omega
  subst hjl
  refine OpC.first ?_
  refine Zas (i:=2) (k:=3) (pre:=[.i .i64 t.arch,.s t.name,.ints .i64 3 t.init,.arr 3 (List Int) tz8 8 te8 t.regs]) (post:=[.i .i64 t.qu,.imm Cn cn0 5 cenc t.cond t.da t.dc]) Z Z (by decide) rfl ?_ hq ir_w Z4O (fun ad cap hcap=>?_)
  ·show t.code.length≠0
   omega
  refine OpC.after ?_
  refine OpC.yld 1 rfl (Z5g Zc Z Z Z Z Z Z Z Z (fun E=>rfl) (SrcA.imm Z Z Z) (p:=5) rfl Joins.nil (Z21 hc (Nat.le_refl _)) (by show t.cond.length * 40≤140737488355328;omega)) (fun d hd=>by cases hd;rfl) ?_
  refine After.slot 29 (k:=5) Z Z Z (by decide) rfl (fun _=>rfl) (fun c m=>Zhz c m) (fun ad2 cap2 hcap2=>?_)
  exact ⟨qs,some ad,cap,some ad2,cap2,⟨rfl,⟨hq,hs⟩,by omega⟩,rfl⟩
theorem ZgV (xs:List In) (a:Option Addr) (ha:∃ ad,a=some ad) (cap:Nat) (hl:xs.length≤1000000):Ctr Tryz.prog 47 [.imm In inZ 17 ienc xs a cap] [] (fun r H=>r=.sl 1 1 0 xs.length none 0∧H=[.gone 1,.mem 56 [.arr xs.length In inZ 17 ienc xs] 1 17]):=by
 obtain ⟨ad,rfl⟩:=ha
 exact ZgU xs ad cap hl
def Fresh (rs:List IRow) (regs:List (List Int)) (j:Nat) (ts:List Thr):Prop:=ts.length=j∧∀ k,k < j→∃ ad cap,ts.getD k thr0=thrN ⟨⟨(rs.getD k ir0).xs,some ad,cap⟩,0,regs.getD k tz8⟩
theorem Fresh.step {rs:List IRow} {regs:List (List Int)} {j:Nat} {ts:List Thr} (h:Fresh rs regs j ts) (ad:Addr) (cap:Nat):Fresh rs regs (j+1) (ts++[thrN ⟨⟨(rs.getD j ir0).xs,some ad,cap⟩,0,regs.getD j tz8⟩]):=by
 refine ⟨by simp [h.1],fun k hk=>?_⟩
 rcases Nat.lt_succ_iff_lt_or_eq.1 hk with h1 | rfl
 ·have e:(ts++[thrN ⟨⟨(rs.getD j ir0).xs,some ad,cap⟩,0,regs.getD j tz8⟩]).getD k thr0=ts.getD k thr0:=by simp only [List.getD_eq_getElem?_getD,List.getElem?_append_left (show k < ts.length by rw [h.1];exact h1)]
  rw [e];exact h.2 k h1
 ·refine ⟨ad,cap,?_⟩
  simp [List.getD_eq_getElem?_getD,List.getElem?_append_right (show ts.length≤k by rw [h.1];exact Nat.le_refl _),h.1]
def ncH (t:Tst) (j:Nat) (ts:List Thr):List SB:=[.mem 28 (tsenc t) 1 0,.mem 106 [.sl 2 j 0 j none 0] 1 0,.mem 109 [.arr j Thr thr0 10 Z1Q ts] j 10]
theorem Zc9 {N j:Nat} {t:Tst} {ts:List Thr}:BndH (N+3) (ncH t j ts):=by
 refine ⟨Zq t,⟨?_,trivial⟩,⟨fun _=>rfl,trivial⟩,trivial⟩
 show Nat.blt 2 (N+3)=true
 exact Nat.ble_eq_true_of_le (by omega)
set_option maxHeartbeats 1000000 in
theorem Z6j (t:Tst) (hu:UOk t.code) (ha:∀ k,k < t.code.length→∃ ad,(t.code.getD k ir0).a=some ad) (hr:t.regs.length=3) (hg:∀ k,k < 3→(t.regs.getD k tz8).length=8):Ctr Tryz.prog 11 [.agg (tsenc t)] [] (fun r H=>∃ ts,(r=.ptr 1 1 0 []∧Fresh t.code t.regs t.code.length ts)∧H=ncH t t.code.length ts):=by
 have hn3:=hu.l3
 have hck:CtrV Tryz.prog 44 [.imm IRow ir0 1 irenc t.code t.ca t.cc] (.tup [.i .i64 0,.i .i64 0,.i .i64 0]):=by
  have:=Z3c t.code t.ca t.cc
  rw [Zd3 hu] at this;exact this
 refine Cp.trim Z11 (K:=fun r H=>∃ ts,(r=.ptr 1 1 0 []∧Fresh t.code t.regs t.code.length ts)∧∃ X,H=ncH t t.code.length ts++X) ?_ (fun r H1 hk=>?_)
 rotate_left
 ·obtain ⟨ts,⟨rfl,h2⟩,X,rfl⟩:=hk
  exact ⟨_,X,rfl,Nat.zero_le _,Zc9 (N:=0),rfl,ts,⟨rfl,h2⟩,rfl⟩
 refine Ctr.enter Zc (fn:=Tryz.f11) Z Z Z Z Z ?_
 refine Z4 Z Z Z Z Z Z Z (fun _=>hck) ?_
 refine ⟨fun h=>Z3 h,fun _=>?_⟩
 refine WpC.shift (Z1E (i:=1) (pre:=[]) (post:=[]) rfl 9 109 [.arr 0 Thr thr0 10 Z1Q []] (fun E=>rfl) (fun m V=>⟨⟨rfl,by simp only [Ok];exact ⟨rfl,th_w,fun j hj=>absurd hj (Nat.not_lt_zero _)⟩⟩,trivial⟩) rfl) ?_
 refine WpC.loop Zc (β:=Nat×List Thr) (fun b=>b.1≤t.code.length∧Fresh t.code t.regs b.1 b.2) (fun b=>[(25,.i .i64 b.1)]) (fun b=>ncH t b.1 b.2) (fun b=>t.code.length - b.1) (0,[]) 562949919867776 ⟨Nat.zero_le _,rfl,fun k hk=>absurd hk (Nat.not_lt_zero _)⟩ ?_ ?_
 ·exact ⟨rfl,⟨⟨rfl,rfl,rfl⟩,trivial⟩,⟨[],rfl⟩,Zc9,rfl⟩
 rintro ⟨j,ts⟩ ⟨hj,hf⟩
 simp only at hj hf
 refine ⟨fun h=>?_,fun h=>?_⟩
 ·have h:decide ((j:Int) < (t.code.length:Int))=true:=h
  have h:=of_decide_eq_true h
  have hjl:j < t.code.length:=by omega
  have hc:=hu.code hjl
  have hl8:=hc.l8
  refine ⟨fun _=>(show (0:Int)≤(j:Int)∧(j:Int) < (t.code.length:Int) by omega),?_⟩
  refine WpC.after ?_
  refine WpC.dr Zc mixed 3 ?_
  refine Zp Z Z Z Z [] 2 Z Z (ZgV (t.code.getD j ir0).xs (t.code.getD j ir0).a (ha j hjl) (t.code.getD j ir0).cap (by omega)) Z Z Z Z trivial Z Z ?_
  refine ⟨fun _=>(show (0:Int)≤(j:Int)∧(j:Int) < 3 by omega),?_⟩
  refine ⟨fun _=>(show j < 3 by omega),?_⟩
  refine ⟨by kernel_rfl,?_⟩
  refine Z6O (i:=5) (k:=4) (pre:=[]) (post:=[.i .i64 0,.ints .i64 8 (t.regs.getD j tz8)]) Z Z (by decide) rfl (by decide) rfl ien_w ien_ok (fun ad cap hcap=>?_)
  refine Zs Z Z Z Z [5] rfl (Zib ⟨⟨(t.code.getD j ir0).xs,some ad,cap⟩,0,t.regs.getD j tz8⟩ hc (hg j (by omega)) (Nat.zero_le _)) Z Z Z Z ⟨rfl,trivial⟩ rfl ?_
  refine WpC.dr Zc mixed 1 ?_
  refine OpD.yld 7 Z Z Z42 (Zx Zc Z Z Z Z Z Z Z Z Z (SrcA.sl Z Z Z Z (by decide) rfl) (Z28 (y:=thrN ⟨⟨(t.code.getD j ir0).xs,some ad,cap⟩,0,t.regs.getD j tz8⟩) hf.1 rfl th_w) (by decide) (Z21 (show j+1≤1000000 by omega) (Nat.le_refl _)) (by show (j+1) * 96≤140737488355328;omega)) ?_
  refine ⟨by kernel_rfl,?_⟩
  refine ⟨(j+1,ts++[thrN ⟨⟨(t.code.getD j ir0).xs,some ad,cap⟩,0,t.regs.getD j tz8⟩]),⟨hjl,hf.step ad cap⟩,?_,rfl,⟨⟨ZI hjl (by omega),rfl,rfl⟩,trivial⟩,⟨_,rfl⟩,Zc9,rfl⟩
  show t.code.length - (j+1) < t.code.length - j
  omega
 ·have h:decide ((j:Int) < (t.code.length:Int))=false:=h
  have h:=of_decide_eq_false h
  have hjl:j=t.code.length:=by omega
  subst hjl
  exact ⟨ts,⟨rfl,hf⟩,_,rfl⟩
end SX
end Go.Proofs.YtdddpbmcoimgdaaGreatDoor
