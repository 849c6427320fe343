/- A part of SX: symbolic and concrete runs of the program, with contracts of functions; lemmas without further conditions. Shortened by a tool (mini.py). -/
import Derived.Test.YtdddpbmcoimgdaaGreatDoorJAB
import Derived.Test.YtdddpbmcoimgdaaGreatDoorJAC
import Derived.Test.YtdddpbmcoimgdaaGreatDoorJAE
import Derived.Test.YtdddpbmcoimgdaaGreatDoorJAH
import Derived.Test.YtdddpbmcoimgdaaGreatDoorJAM
import Derived.Test.YtdddpbmcoimgdaaGreatDoorJAU
import Derived.Test.YtdddpbmcoimgdaaGreatDoorJAY
import Derived.Test.YtdddpbmcoimgdaaGreatDoorJBE
import Derived.Test.YtdddpbmcoimgdaaGreatDoorJAA
set_option linter.unusedVariables false
set_option linter.unusedSimpArgs false
set_option linter.unusedSectionVars false
set_option maxRecDepth 100000
namespace Go.Proofs.YtdddpbmcoimgdaaGreatDoor
namespace SX
open Go Go.Proofs
def pasN (t:Thr) (old:Int):Thr:=thrN ⟨t.r,t.k+1,redF t.g (t.r.xs.getD t.k inZ) old⟩
structure ThOk (t:Thr):Prop where
 c:CodeOk t.r.xs
 g:t.g.length=8
 k:t.k≤t.r.xs.length
theorem ThOk.run {t:Thr} (h:ThOk t):ThOk (thrN t):=by
 have:=Z8X h.c t.k t.g h.k
 exact ⟨h.c,by show (thrT t.r.xs t.k t.g).2.length=8;rw [this.2.2.1];exact h.g,this.2.1⟩
theorem ThOk.pas {t:Thr} (h:ThOk t) (hs:stdB t=true) (old:Int):ThOk (pasN t old):=by
 unfold stdB at hs
 have hs:=of_decide_eq_true hs
 have h2:ThOk ⟨t.r,t.k+1,redF t.g (t.r.xs.getD t.k inZ) old⟩:=⟨h.c,by show (redF _ _ _).length=8;rw [Z5j];exact h.g,hs⟩
 exact h2.run
theorem rd_dst {i:In} (hf:Zr i=true) (h:rdB i=true):0≤i.dst∧i.dst < 8:=by
 unfold rdB at h
 simp only [Bool.or_eq_true,decide_eq_true_eq] at h
 rcases h with h | h
 ·exact (fm4 hf h).1
 ·exact (fm6 hf h).1
theorem ZhE {g:List Int} {i:In} {old:Int} (h:rdB i=true):redF g i old=g.set i.dst.toNat (getF old 0 i.sz):=by unfold redF;rw [if_pos h]
theorem red_no {g:List Int} {i:In} {old:Int} (h:rdB i=false):redF g i old=g:=by unfold redF;rw [if_neg (by rw [h];decide)]
theorem Zcu {A:SB} {ty:TypeId} {n v:Nat} {X:List SB} {a b:List Thr} (h:a=b):A::SB.mem ty [.arr n Thr thr0 10 Z25 a] v 10::X=[A,SB.mem ty [.arr n Thr thr0 10 Z25 b] v 10]++X:=by subst h;rfl
set_option maxHeartbeats 1000000 in
theorem Zbw (v n:Nat) (ts:List Thr) (k:Nat) (old:Int) (hk:k < n) (hn:ts.length=n) (hv:v≠0) (ht:ThOk (ts.getD k thr0)) (h:stdB (ts.getD k thr0)=true):Ctr Tryz.prog 15 [.ptr 0 1 0 [],.i .i64 k,.i .i64 old] (Z1w v n ts) (fun r H=>r=.b true∧H=Z1w v n (ts.set k (pasN (ts.getD k thr0) old))):=by
 have h2:(ts.getD k thr0).k < (ts.getD k thr0).r.xs.length:=by unfold stdB at h;exact of_decide_eq_true h
 have h8:=ht.c.l8
 have hf:=ht.c.fm _ h2
 refine ZE Zi (fn:=Tryz.f15) Z Z Z Z Z Z (Z4w hv) (Nat.le_refl _) ?_
 refine Z1x Z Z Z Z [0,1] rfl (Z9A hk hv h) Z Z Z Z ⟨rfl,rfl,trivial⟩ rfl ?_
 refine ⟨fun h=>Z3 h,fun _=>?_⟩
 refine Z1x Z Z Z Z [0,1] rfl (Z4O v n ts k hk hv) Z Z Z Z ⟨rfl,rfl,trivial⟩ rfl ?_
 refine Z4 Z Z Z Z Z Z Z (fun _=>ZH _) ?_
 refine ⟨fun h3=>?_,fun h3=>?_⟩
 ·have hrd:rdB ((ts.getD k thr0).r.xs.getD (ts.getD k thr0).k inZ)=true:=h3
  have hd:0≤((ts.getD k thr0).r.xs.getD (ts.getD k thr0).k inZ).dst∧((ts.getD k thr0).r.xs.getD (ts.getD k thr0).k inZ).dst < 8:=rd_dst hf hrd
  refine WpC.dr Zi mixed 0 ?_
  refine Zp Z Z Z Z Z Z Z (fun _=>Z5k old 0 ((ts.getD k thr0).r.xs.getD (ts.getD k thr0).k inZ).sz) ?_
  refine ⟨fun _=>hd,?_⟩
  refine ⟨rfl,?_⟩
  refine ⟨hk,?_⟩
  refine ⟨(show ((ts.getD k thr0).r.xs.getD (ts.getD k thr0).k inZ).dst.toNat < 8 by omega),?_⟩
  refine ⟨⟨(ts.getD k thr0).r,(ts.getD k thr0).k,(ts.getD k thr0).g.set ((ts.getD k thr0).r.xs.getD (ts.getD k thr0).k inZ).dst.toNat (getF old 0 ((ts.getD k thr0).r.xs.getD (ts.getD k thr0).k inZ).sz)⟩,rfl,?_⟩
  refine ⟨by kernel_rfl,?_⟩
  have htb:(ts.set k ⟨(ts.getD k thr0).r,(ts.getD k thr0).k,(ts.getD k thr0).g.set ((ts.getD k thr0).r.xs.getD (ts.getD k thr0).k inZ).dst.toNat (getF old 0 ((ts.getD k thr0).r.xs.getD (ts.getD k thr0).k inZ).sz)⟩).getD k thr0=⟨(ts.getD k thr0).r,(ts.getD k thr0).k,(ts.getD k thr0).g.set ((ts.getD k thr0).r.xs.getD (ts.getD k thr0).k inZ).dst.toNat (getF old 0 ((ts.getD k thr0).r.xs.getD (ts.getD k thr0).k inZ).sz)⟩:=Z2W (by omega)
  refine ⟨fun _=>⟨rfl,hk⟩,?_⟩
  refine ⟨rfl,?_⟩
  refine ⟨hk,?_⟩
  refine ⟨⟨((ts.set k ⟨(ts.getD k thr0).r,(ts.getD k thr0).k,(ts.getD k thr0).g.set ((ts.getD k thr0).r.xs.getD (ts.getD k thr0).k inZ).dst.toNat (getF old 0 ((ts.getD k thr0).r.xs.getD (ts.getD k thr0).k inZ).sz)⟩).getD k thr0).r,(ts.getD k thr0).k+1,((ts.set k ⟨(ts.getD k thr0).r,(ts.getD k thr0).k,(ts.getD k thr0).g.set ((ts.getD k thr0).r.xs.getD (ts.getD k thr0).k inZ).dst.toNat (getF old 0 ((ts.getD k thr0).r.xs.getD (ts.getD k thr0).k inZ).sz)⟩).getD k thr0).g⟩,Z8u (show ((((ts.getD k thr0).k+1:Nat):Int))=IntKind.i64.wrap ((((ts.set k ⟨(ts.getD k thr0).r,(ts.getD k thr0).k,(ts.getD k thr0).g.set ((ts.getD k thr0).r.xs.getD (ts.getD k thr0).k inZ).dst.toNat (getF old 0 ((ts.getD k thr0).r.xs.getD (ts.getD k thr0).k inZ).sz)⟩).getD k thr0).k:Int)+1) by rw [htb];show _=IntKind.i64.wrap (((ts.getD k thr0).k:Int)+1);rw [w64 (by omega) (by omega)];rfl),?_⟩
  have hL:((ts.set k ⟨(ts.getD k thr0).r,(ts.getD k thr0).k,(ts.getD k thr0).g.set ((ts.getD k thr0).r.xs.getD (ts.getD k thr0).k inZ).dst.toNat (getF old 0 ((ts.getD k thr0).r.xs.getD (ts.getD k thr0).k inZ).sz)⟩).set k ⟨((ts.set k ⟨(ts.getD k thr0).r,(ts.getD k thr0).k,(ts.getD k thr0).g.set ((ts.getD k thr0).r.xs.getD (ts.getD k thr0).k inZ).dst.toNat (getF old 0 ((ts.getD k thr0).r.xs.getD (ts.getD k thr0).k inZ).sz)⟩).getD k thr0).r,(ts.getD k thr0).k+1,((ts.set k ⟨(ts.getD k thr0).r,(ts.getD k thr0).k,(ts.getD k thr0).g.set ((ts.getD k thr0).r.xs.getD (ts.getD k thr0).k inZ).dst.toNat (getF old 0 ((ts.getD k thr0).r.xs.getD (ts.getD k thr0).k inZ).sz)⟩).getD k thr0).g⟩).getD k thr0=⟨(ts.getD k thr0).r,(ts.getD k thr0).k+1,redF (ts.getD k thr0).g ((ts.getD k thr0).r.xs.getD (ts.getD k thr0).k inZ) old⟩:=by
   rw [Z2W (by rw [List.length_set];omega)]
   rw [htb,ZhE hrd]
  refine Z1x Z Z Z Z [1] rfl (Zct v n ((ts.set k ⟨(ts.getD k thr0).r,(ts.getD k thr0).k,(ts.getD k thr0).g.set ((ts.getD k thr0).r.xs.getD (ts.getD k thr0).k inZ).dst.toNat (getF old 0 ((ts.getD k thr0).r.xs.getD (ts.getD k thr0).k inZ).sz)⟩).set k ⟨((ts.set k ⟨(ts.getD k thr0).r,(ts.getD k thr0).k,(ts.getD k thr0).g.set ((ts.getD k thr0).r.xs.getD (ts.getD k thr0).k inZ).dst.toNat (getF old 0 ((ts.getD k thr0).r.xs.getD (ts.getD k thr0).k inZ).sz)⟩).getD k thr0).r,(ts.getD k thr0).k+1,((ts.set k ⟨(ts.getD k thr0).r,(ts.getD k thr0).k,(ts.getD k thr0).g.set ((ts.getD k thr0).r.xs.getD (ts.getD k thr0).k inZ).dst.toNat (getF old 0 ((ts.getD k thr0).r.xs.getD (ts.getD k thr0).k inZ).sz)⟩).getD k thr0).g⟩) k hk (by simp;omega) hv (by rw [hL];exact ht.c) (by rw [hL];show (redF _ _ _).length=8;rw [Z5j];exact ht.g) (by rw [hL];exact h2)) Z Z Z Z ⟨rfl,trivial⟩ rfl ?_
  have hF:((ts.set k ⟨(ts.getD k thr0).r,(ts.getD k thr0).k,(ts.getD k thr0).g.set ((ts.getD k thr0).r.xs.getD (ts.getD k thr0).k inZ).dst.toNat (getF old 0 ((ts.getD k thr0).r.xs.getD (ts.getD k thr0).k inZ).sz)⟩).set k ⟨((ts.set k ⟨(ts.getD k thr0).r,(ts.getD k thr0).k,(ts.getD k thr0).g.set ((ts.getD k thr0).r.xs.getD (ts.getD k thr0).k inZ).dst.toNat (getF old 0 ((ts.getD k thr0).r.xs.getD (ts.getD k thr0).k inZ).sz)⟩).getD k thr0).r,(ts.getD k thr0).k+1,((ts.set k ⟨(ts.getD k thr0).r,(ts.getD k thr0).k,(ts.getD k thr0).g.set ((ts.getD k thr0).r.xs.getD (ts.getD k thr0).k inZ).dst.toNat (getF old 0 ((ts.getD k thr0).r.xs.getD (ts.getD k thr0).k inZ).sz)⟩).getD k thr0).g⟩).set k (thrN (((ts.set k ⟨(ts.getD k thr0).r,(ts.getD k thr0).k,(ts.getD k thr0).g.set ((ts.getD k thr0).r.xs.getD (ts.getD k thr0).k inZ).dst.toNat (getF old 0 ((ts.getD k thr0).r.xs.getD (ts.getD k thr0).k inZ).sz)⟩).set k ⟨((ts.set k ⟨(ts.getD k thr0).r,(ts.getD k thr0).k,(ts.getD k thr0).g.set ((ts.getD k thr0).r.xs.getD (ts.getD k thr0).k inZ).dst.toNat (getF old 0 ((ts.getD k thr0).r.xs.getD (ts.getD k thr0).k inZ).sz)⟩).getD k thr0).r,(ts.getD k thr0).k+1,((ts.set k ⟨(ts.getD k thr0).r,(ts.getD k thr0).k,(ts.getD k thr0).g.set ((ts.getD k thr0).r.xs.getD (ts.getD k thr0).k inZ).dst.toNat (getF old 0 ((ts.getD k thr0).r.xs.getD (ts.getD k thr0).k inZ).sz)⟩).getD k thr0).g⟩).getD k thr0))=ts.set k (pasN (ts.getD k thr0) old):=by
   rw [hL]
   simp only [List.set_set]
   rfl
  exact ⟨rfl,_,Zcu hF⟩
 ·have hrd:rdB ((ts.getD k thr0).r.xs.getD (ts.getD k thr0).k inZ)=false:=h3
  have htb:ts.getD k thr0=ts.getD k thr0:=rfl
  refine ⟨fun _=>⟨rfl,hk⟩,?_⟩
  refine ⟨rfl,?_⟩
  refine ⟨hk,?_⟩
  refine ⟨⟨(ts.getD k thr0).r,(ts.getD k thr0).k+1,(ts.getD k thr0).g⟩,Z8u (show ((((ts.getD k thr0).k+1:Nat):Int))=IntKind.i64.wrap (((ts.getD k thr0).k:Int)+1) by rw [htb];show _=IntKind.i64.wrap (((ts.getD k thr0).k:Int)+1);rw [w64 (by omega) (by omega)];rfl),?_⟩
  have hL:(ts.set k ⟨(ts.getD k thr0).r,(ts.getD k thr0).k+1,(ts.getD k thr0).g⟩).getD k thr0=⟨(ts.getD k thr0).r,(ts.getD k thr0).k+1,redF (ts.getD k thr0).g ((ts.getD k thr0).r.xs.getD (ts.getD k thr0).k inZ) old⟩:=by
   rw [Z2W (by omega)]
   rw [red_no hrd]
  refine Z1x Z Z Z Z [1] rfl (Zct v n (ts.set k ⟨(ts.getD k thr0).r,(ts.getD k thr0).k+1,(ts.getD k thr0).g⟩) k hk (by simp;omega) hv (by rw [hL];exact ht.c) (by rw [hL];show (redF _ _ _).length=8;rw [Z5j];exact ht.g) (by rw [hL];exact h2)) Z Z Z Z ⟨rfl,trivial⟩ rfl ?_
  have hF:(ts.set k ⟨(ts.getD k thr0).r,(ts.getD k thr0).k+1,(ts.getD k thr0).g⟩).set k (thrN ((ts.set k ⟨(ts.getD k thr0).r,(ts.getD k thr0).k+1,(ts.getD k thr0).g⟩).getD k thr0))=ts.set k (pasN (ts.getD k thr0) old):=by
   rw [hL]
   simp only [List.set_set]
   rfl
  exact ⟨rfl,_,Zcu hF⟩
theorem Joins.app (olds news:List SV):Joins olds news (olds++news):=⟨fun E=>by rw [Zl],fun m V h1 h2=>OkL_append.2 ⟨h1,h2⟩⟩
theorem Z1D {n k:Nat} (h:n≤k) (hk:k≤1000000):n≤maxLen:=Nat.le_trans h (Nat.le_trans hk (by decide))
theorem Zgr (xs:List In) (ad:Addr) (cap:Nat) (hl:xs.length≤1000000):Ctr Tryz.prog 47 [.imm In inZ 17 ienc xs (some ad) cap] [] (fun r H=>r=.sl 1 1 0 xs.length none 0∧H=[.gone 1,.mem 56 [.arr xs.length In inZ 17 ienc xs] 1 17]):=by
 refine ZE Zi (fn:=Tryz.f47) Z Z Z Z Z Z ⟨trivial,⟨fun _=>rfl,trivial⟩,trivial⟩ (Nat.zero_le _) ?_
 refine ⟨fun h=>Z3 h,fun _=>?_⟩
 refine OpC.yld 1 rfl (Z2P Zi Z Z Z Z Z Z Z Z (fun E=>rfl) (SrcA.imm Z Z Z) (p:=1) rfl Joins.nil (Z1D hl (Nat.le_refl _)) (by show xs.length * 120≤140737488355328;omega)) (fun d hd=>by cases hd;rfl) ?_
 exact ⟨rfl,_,rfl⟩
structure Same (rs qs:List IRow):Prop where
 n:qs.length=rs.length
 x:∀ k,k < rs.length→(qs.getD k ir0).xs=(rs.getD k ir0).xs∧∃ ad,(qs.getD k ir0).a=some ad
theorem Same.step {rs qs:List IRow} {j:Nat} (hj:j < rs.length) (hq:qs.length=j) (h:∀ k,k < j→(qs.getD k ir0).xs=(rs.getD k ir0).xs∧∃ ad,(qs.getD k ir0).a=some ad) {r:IRow} (hr:r.xs=(rs.getD j ir0).xs) (ha:∃ ad,r.a=some ad) :
 ∀ k,k < j+1→((qs++[r]).getD k ir0).xs=(rs.getD k ir0).xs∧∃ ad,((qs++[r]).getD k ir0).a=some ad:=fun k hk=>by
 rcases Nat.lt_succ_iff_lt_or_eq.1 hk with h1 | rfl
 ·have e:(qs++[r]).getD k ir0=qs.getD k ir0:=by simp only [List.getD_eq_getElem?_getD,List.getElem?_append_left (show k < qs.length by omega)]
  rw [e];exact h k h1
 ·have e:(qs++[r]).getD k ir0=r:=by simp [List.getD_eq_getElem?_getD,List.getElem?_append_right (show qs.length≤k by omega),hq]
  rw [e];exact ⟨hr,ha⟩
theorem Z1N {N:Nat} (t:Tst):BndL N (tsenc t):=⟨rfl,rfl,rfl,fun _=>rfl,rfl,rfl,rfl,trivial⟩
theorem Zdh (E:Env) (n:Nat) (qs:List IRow) (r:IRow) (hq:qs.length=n):cellsL E [.arr (n+1) IRow ir0 1 irenc (qs++[r])]=cellsL E ([.arr n IRow ir0 1 irenc qs]++[.imm In inZ 17 ienc r.xs r.a r.cap]):=by
 have:=(Z18 (d:=ir0) (n:=1) (enc:=irenc) (y:=r) (new:=irenc r) hq rfl ir_w).cells E
 rw [this,Zl];rfl
theorem ZhF (m:Mem) (V:List Nat) (n:Nat) (qs:List IRow) (r:IRow) (hq:qs.length=n) (h:OkL m V ([.arr n IRow ir0 1 irenc qs]++[.imm In inZ 17 ienc r.xs r.a r.cap])):OkL m V [.arr (n+1) IRow ir0 1 irenc (qs++[r])]:=by
 have:=OkL_append.1 h
 exact (Z18 (d:=ir0) (n:=1) (enc:=irenc) (y:=r) (new:=irenc r) hq rfl ir_w).ok m V this.1 this.2
def twT (t:Tst) (qs:List IRow) (ca:Option Addr) (cc:Nat) (da:Option Addr) (dc:Nat):Tst:={ t with code:=qs,ca:=ca,cc:=cc,da:=da,dc:=dc }
def twF (t:Tst) (qs:List IRow) (ca:Option Addr) (cc:Nat) (da:Option Addr) (dc:Nat):List SB:=[.mem 28 (tsenc t) 1 0,.mem 28 (tsenc (twT t qs ca cc da dc)) 1 0,.mem 28 (tsenc (twT t qs ca cc da dc)) 1 0,.gone t.code.length,.gone 1,.gone 1]
def twH (t:Tst) (j:Nat) (qs:List IRow):List SB:=[.mem 28 (tsenc t) 1 0,.mem 28 ti28.zero 1 0,.mem 28 [.i .i64 t.arch,.s t.name,.ints .i64 3 t.init,.arr 3 (List Int) tz8 8 te8 t.regs,.sl 3 j 0 j none 0,.i .i64 t.qu,.imm Cn cn0 5 cenc t.cond t.da t.dc] 1 0,.mem 38 [.arr j IRow ir0 1 irenc qs] j 1]
theorem ZeW {N j:Nat} {t:Tst} {qs:List IRow}:BndH (N+4) (twH t j qs):=by
 refine ⟨Z1N t,?_,⟨rfl,rfl,rfl,fun _=>rfl,?_,rfl,rfl,trivial⟩,⟨fun _=>rfl,trivial⟩,trivial⟩
 ·exact ⟨rfl,rfl,rfl,fun _=>rfl,rfl,rfl,rfl,trivial⟩
 ·show Nat.blt 3 (N+4)=true
  exact Nat.ble_eq_true_of_le (by omega)
set_option maxHeartbeats 1000000 in
theorem twin14 (t:Tst) (h1:1≤t.code.length) (hn:t.code.length≤1000000) (hl:∀ k,k < t.code.length→(t.code.getD k ir0).xs.length≤1000000) (hc:t.cond.length≤1000000):Ctr Tryz.prog 12 [.agg (tsenc t)] [] (fun r H=>∃ qs ca cc da dc,(r=.agg (tsenc (twT t qs ca cc da dc))∧Same t.code qs∧qs.length≤cc)∧H=twF t qs ca cc da dc):=by
 refine Ctr.enter Zi (fn:=Tryz.f12) Z Z Z Z Z ?_
 refine WpC.shift (Z74 (i:=2) (pre:=[.i .i64 t.arch,.s t.name,.ints .i64 3 t.init,.arr 3 (List Int) tz8 8 te8 t.regs]) (post:=[.i .i64 t.qu,.imm Cn cn0 5 cenc t.cond t.da t.dc]) rfl 0 38 [.arr 0 IRow ir0 1 irenc []] (fun E=>rfl) (fun m V=>⟨⟨rfl,by simp only [Ok];exact ⟨rfl,ir_w,fun j hj=>absurd hj (Nat.not_lt_zero _)⟩⟩,trivial⟩) rfl) ?_
 refine WpC.loop Zi (β:=Nat×List IRow) (fun b=>b.1≤t.code.length∧b.2.length=b.1∧∀ k,k < b.1→(b.2.getD k ir0).xs=(t.code.getD k ir0).xs∧∃ ad,(b.2.getD k ir0).a=some ad) (fun b=>[(4,.i .i64 b.1)]) (fun b=>twH t b.1 b.2) (fun b=>t.code.length - b.1) (0,[]) 67108752 ⟨Nat.zero_le _,rfl,fun k hk=>absurd hk (Nat.not_lt_zero _)⟩ ?_ ?_
 ·exact ⟨rfl,⟨⟨rfl,rfl,rfl⟩,trivial⟩,⟨[],rfl⟩,ZeW,rfl⟩
 rintro ⟨j,qs⟩ ⟨hj,hq,hs⟩
 simp only at hj hq hs
 refine ⟨fun h=>?_,fun h=>?_⟩
 ·have h:decide ((j:Int) < (t.code.length:Int))=true:=h
  have h:=of_decide_eq_true h
  have hjl:j < t.code.length:=by omega
  have hlj:=hl j hjl
  refine WpC.after ?_
  refine WpC.dr Zi mixed 3 ?_
  refine ⟨fun _=>(show (0:Int)≤(j:Int)∧(j:Int) < (t.code.length:Int) by omega),?_⟩
  refine OpD.yld 6 Z Z ZaI (Z2P Zi Z Z Z Z Z Z Z Z (fun E=>rfl) (SrcA.imm Z Z Z) (p:=5) rfl Joins.nil (Z1D hlj (Nat.le_refl _)) (by show (t.code.getD j ir0).xs.length * 120≤140737488355328;omega)) ?_
  refine OpD.yld 7 Z Z ZdP (ZA Zi Z Z Z Z Z Z Z Z Z (SrcA.sl Z Z Z Z (by decide) rfl) (Joins.app _ _) (by decide) (Z1D (show j+1≤1000000 by omega) (Nat.le_refl _)) (by show (j+1) * 24≤140737488355328;omega)) ?_
  refine ⟨by kernel_rfl,?_⟩
  refine After.join ?_
  refine Z6k (i:=3) (k:=5) (pre:=[.arr j IRow ir0 1 irenc qs]) (post:=[]) Z Z (by decide) rfl (by decide) rfl ien_w ien_ok (fun ad cap hcap=>?_)
  refine After.recell 3 [.arr (j+1) IRow ir0 1 irenc (qs++[⟨(t.code.getD j ir0).xs,some ad,cap⟩])] rfl (fun E=>Zdh E j qs ⟨(t.code.getD j ir0).xs,some ad,cap⟩ hq) (fun m V hm=>ZhF m V j qs ⟨(t.code.getD j ir0).xs,some ad,cap⟩ hq hm) ?_
  refine After.pure ?_
  refine ⟨(j+1,qs++[⟨(t.code.getD j ir0).xs,some ad,cap⟩]),⟨hjl,by simp [hq],Same.step hjl hq hs rfl ⟨ad,rfl⟩⟩,?_,rfl,⟨⟨Z16 hjl hn,rfl,rfl⟩,trivial⟩,⟨_,rfl⟩,ZeW,rfl⟩
  show t.code.length - (j+1) < t.code.length - j
  omega
 ·have h:decide ((j:Int) < (t.code.length:Int))=false:=h
  have h:=of_decide_eq_false h
  have hjl:j=t.code.length:=by omega
  subst hjl
  refine OpC.first ?_
  refine Z9Q (i:=2) (k:=3) (pre:=[.i .i64 t.arch,.s t.name,.ints .i64 3 t.init,.arr 3 (List Int) tz8 8 te8 t.regs]) (post:=[.i .i64 t.qu,.imm Cn cn0 5 cenc t.cond t.da t.dc]) Z Z (by decide) rfl ?_ hq ir_w Z3p (fun ad cap hcap=>?_)
  ·show t.code.length≠0
   omega
  refine OpC.after ?_
  refine OpC.yld 1 rfl (Z2P Zi Z Z Z Z Z Z Z Z (fun E=>rfl) (SrcA.imm Z Z Z) (p:=5) rfl Joins.nil (Z1D hc (Nat.le_refl _)) (by show t.cond.length * 40≤140737488355328;omega)) (fun d hd=>by cases hd;rfl) ?_
  refine After.slot 29 (k:=5) Z Z Z (by decide) rfl (fun _=>rfl) (fun c m=>Zh5 c m) (fun ad2 cap2 hcap2=>?_)
  exact ⟨qs,some ad,cap,some ad2,cap2,⟨rfl,⟨hq,hs⟩,by omega⟩,rfl⟩
theorem Zgs (xs:List In) (a:Option Addr) (ha:∃ ad,a=some ad) (cap:Nat) (hl:xs.length≤1000000):Ctr Tryz.prog 47 [.imm In inZ 17 ienc xs a cap] [] (fun r H=>r=.sl 1 1 0 xs.length none 0∧H=[.gone 1,.mem 56 [.arr xs.length In inZ 17 ienc xs] 1 17]):=by
 obtain ⟨ad,rfl⟩:=ha
 exact Zgr xs ad cap hl
def Fresh (rs:List IRow) (regs:List (List Int)) (j:Nat) (ts:List Thr):Prop:=ts.length=j∧∀ k,k < j→∃ ad cap,ts.getD k thr0=thrN ⟨⟨(rs.getD k ir0).xs,some ad,cap⟩,0,regs.getD k tz8⟩
theorem Fresh.step {rs:List IRow} {regs:List (List Int)} {j:Nat} {ts:List Thr} (h:Fresh rs regs j ts) (ad:Addr) (cap:Nat):Fresh rs regs (j+1) (ts++[thrN ⟨⟨(rs.getD j ir0).xs,some ad,cap⟩,0,regs.getD j tz8⟩]):=by
 refine ⟨by simp [h.1],fun k hk=>?_⟩
 rcases Nat.lt_succ_iff_lt_or_eq.1 hk with h1 | rfl
 ·have e:(ts++[thrN ⟨⟨(rs.getD j ir0).xs,some ad,cap⟩,0,regs.getD j tz8⟩]).getD k thr0=ts.getD k thr0:=by simp only [List.getD_eq_getElem?_getD,List.getElem?_append_left (show k < ts.length by rw [h.1];exact h1)]
  rw [e];exact h.2 k h1
 ·refine ⟨ad,cap,?_⟩
  simp [List.getD_eq_getElem?_getD,List.getElem?_append_right (show ts.length≤k by rw [h.1];exact Nat.le_refl _),h.1]
def ncH (t:Tst) (j:Nat) (ts:List Thr):List SB:=[.mem 28 (tsenc t) 1 0,.mem 106 [.sl 2 j 0 j none 0] 1 0,.mem 109 [.arr j Thr thr0 10 Z25 ts] j 10]
theorem Zbx {N j:Nat} {t:Tst} {ts:List Thr}:BndH (N+3) (ncH t j ts):=by
 refine ⟨Z1N t,⟨?_,trivial⟩,⟨fun _=>rfl,trivial⟩,trivial⟩
 show Nat.blt 2 (N+3)=true
 exact Nat.ble_eq_true_of_le (by omega)
set_option maxHeartbeats 1000000 in
theorem Zdi (t:Tst) (hu:UOk t.code) (ha:∀ k,k < t.code.length→∃ ad,(t.code.getD k ir0).a=some ad) (hr:t.regs.length=3) (hg:∀ k,k < 3→(t.regs.getD k tz8).length=8):Ctr Tryz.prog 11 [.agg (tsenc t)] [] (fun r H=>∃ ts,(r=.ptr 1 1 0 []∧Fresh t.code t.regs t.code.length ts)∧H=ncH t t.code.length ts):=by
 have hn3:=hu.l3
 have hck:CtrV Tryz.prog 44 [.imm IRow ir0 1 irenc t.code t.ca t.cc] (.tup [.i .i64 0,.i .i64 0,.i .i64 0]):=by
  have:=Z2o t.code t.ca t.cc
  rw [Z8W hu] at this;exact this
 refine Cp.trim ZK (K:=fun r H=>∃ ts,(r=.ptr 1 1 0 []∧Fresh t.code t.regs t.code.length ts)∧∃ X,H=ncH t t.code.length ts++X) ?_ (fun r H1 hk=>?_)
 rotate_left
 ·obtain ⟨ts,⟨rfl,h2⟩,X,rfl⟩:=hk
  exact ⟨_,X,rfl,Nat.zero_le _,Zbx (N:=0),rfl,ts,⟨rfl,h2⟩,rfl⟩
 refine Ctr.enter Zi (fn:=Tryz.f11) Z Z Z Z Z ?_
 refine Z4 Z Z Z Z Z Z Z (fun _=>hck) ?_
 refine ⟨fun h=>Z3 h,fun _=>?_⟩
 refine WpC.shift (Z74 (i:=1) (pre:=[]) (post:=[]) rfl 9 109 [.arr 0 Thr thr0 10 Z25 []] (fun E=>rfl) (fun m V=>⟨⟨rfl,by simp only [Ok];exact ⟨rfl,th_w,fun j hj=>absurd hj (Nat.not_lt_zero _)⟩⟩,trivial⟩) rfl) ?_
 refine WpC.loop Zi (β:=Nat×List Thr) (fun b=>b.1≤t.code.length∧Fresh t.code t.regs b.1 b.2) (fun b=>[(25,.i .i64 b.1)]) (fun b=>ncH t b.1 b.2) (fun b=>t.code.length - b.1) (0,[]) 562949919867776 ⟨Nat.zero_le _,rfl,fun k hk=>absurd hk (Nat.not_lt_zero _)⟩ ?_ ?_
 ·exact ⟨rfl,⟨⟨rfl,rfl,rfl⟩,trivial⟩,⟨[],rfl⟩,Zbx,rfl⟩
 rintro ⟨j,ts⟩ ⟨hj,hf⟩
 simp only at hj hf
 refine ⟨fun h=>?_,fun h=>?_⟩
 ·have h:decide ((j:Int) < (t.code.length:Int))=true:=h
  have h:=of_decide_eq_true h
  have hjl:j < t.code.length:=by omega
  have hc:=hu.code hjl
  have hl8:=hc.l8
  refine ⟨fun _=>(show (0:Int)≤(j:Int)∧(j:Int) < (t.code.length:Int) by omega),?_⟩
  refine WpC.after ?_
  refine WpC.dr Zi mixed 3 ?_
  refine Zq Z Z Z Z [] 2 Z Z (Zgs (t.code.getD j ir0).xs (t.code.getD j ir0).a (ha j hjl) (t.code.getD j ir0).cap (by omega)) Z Z Z Z trivial Z Z ?_
  refine ⟨fun _=>(show (0:Int)≤(j:Int)∧(j:Int) < 3 by omega),?_⟩
  refine ⟨fun _=>(show j < 3 by omega),?_⟩
  refine ⟨by kernel_rfl,?_⟩
  refine Z6k (i:=5) (k:=4) (pre:=[]) (post:=[.i .i64 0,.ints .i64 8 (t.regs.getD j tz8)]) Z Z (by decide) rfl (by decide) rfl ien_w ien_ok (fun ad cap hcap=>?_)
  refine Z1x Z Z Z Z [5] rfl (ZhD ⟨⟨(t.code.getD j ir0).xs,some ad,cap⟩,0,t.regs.getD j tz8⟩ hc (hg j (by omega)) (Nat.zero_le _)) Z Z Z Z ⟨rfl,trivial⟩ rfl ?_
  refine WpC.dr Zi mixed 1 ?_
  refine OpD.yld 7 Z Z ZdP (ZA Zi Z Z Z Z Z Z Z Z Z (SrcA.sl Z Z Z Z (by decide) rfl) (Z18 (y:=thrN ⟨⟨(t.code.getD j ir0).xs,some ad,cap⟩,0,t.regs.getD j tz8⟩) hf.1 rfl th_w) (by decide) (Z1D (show j+1≤1000000 by omega) (Nat.le_refl _)) (by show (j+1) * 96≤140737488355328;omega)) ?_
  refine ⟨by kernel_rfl,?_⟩
  refine ⟨(j+1,ts++[thrN ⟨⟨(t.code.getD j ir0).xs,some ad,cap⟩,0,t.regs.getD j tz8⟩]),⟨hjl,hf.step ad cap⟩,?_,rfl,⟨⟨Z16 hjl (by omega),rfl,rfl⟩,trivial⟩,⟨_,rfl⟩,Zbx,rfl⟩
  show t.code.length - (j+1) < t.code.length - j
  omega
 ·have h:decide ((j:Int) < (t.code.length:Int))=false:=h
  have h:=of_decide_eq_false h
  have hjl:j=t.code.length:=by omega
  subst hjl
  exact ⟨ts,⟨rfl,hf⟩,_,rfl⟩
def wrB (i:In):Bool:=decide (i.op=5)||decide (i.op=6)
def rmwF (fn old a n:Int):Int:=if fn=6 then getF a 0 n else if fn=1 then getF (IntKind.i64.wrap (old+a)) 0 n else 0
theorem rmw_ok (fn old a n:Int):CtrV Tryz.prog 64 [.i .i64 fn,.i .i64 old,.i .i64 a,.i .i64 n] (.i .i64 (rmwF fn old a n)):=by
 refine Z8 Zi (fn:=Tryz.f64) Z Z Z Z Z Z ?_
 refine ⟨fun h=>?_,fun h=>?_⟩
 ·have h:decide (fn=6)=true:=h
  refine Z4 Z Z Z Z Z Z Z (fun _=>Z5k a 0 n) ?_
  exact i_cg (by unfold rmwF;rw [if_pos (of_decide_eq_true h)])
 have h:decide (fn=6)=false:=h
 refine ⟨fun h2=>?_,fun h2=>?_⟩
 ·have h2:decide (fn=1)=true:=h2
  refine Z4 Z Z Z Z Z Z Z (fun _=>Z5k (IntKind.i64.wrap (old+a)) 0 n) ?_
  exact i_cg (by unfold rmwF;rw [if_neg (of_decide_eq_false h),if_pos (of_decide_eq_true h2)])
 ·have h2:decide (fn=1)=false:=h2
  exact i_cg (by unfold rmwF;rw [if_neg (of_decide_eq_false h),if_neg (of_decide_eq_false h2)])
theorem JoinsN (p:List Int) (y:Int):Joins [.ints .i64 p.length p] [.ints .i64 1 [y]] [.ints .i64 (p.length+1) (p++[y])]:=by
 have:=Joins.ints (k:=.i64) (xs:=p) (y:=y)
 rw [List.length_append] at this;exact this
theorem w_at {n k:Nat} (h8:n≤8) (hk:k < n):IntKind.i64.wrap ((k:Int)+1)=((k+1:Nat):Int):=by rw [w64 (by omega) (by omega)];rfl
theorem g0 {a y:Bool} (h:(y&&(a == true))=true):a=true:=by cases a <;> simp at h ⊢
theorem g1 {a x:Bool} (h:((a&&x) == true)=true):a=true:=by cases a <;> simp at h ⊢
theorem g2 {a x y:Bool} (h:(((a&&x) == true)&&y)=true):a=true:=by cases a <;> simp at h ⊢
theorem g3 {a x y z:Bool} (h:((((a&&x) == true)&&y)&&z)=true):a=true:=by cases a <;> simp at h ⊢
theorem Zcv (t:Thr) (h:ThOk t):stdB (thrN t)=true→stpB ((thrN t).r.xs.getD (thrN t).k inZ)=true:=fun hs=>by
 have:=(Z8X h.c t.k t.g h.k).2.2.2
 exact this (by unfold stdB at hs;exact of_decide_eq_true hs)
theorem thrN_k (t:Thr) (h:ThOk t):t.k≤(thrN t).k:=(Z8X h.c t.k t.g h.k).1
theorem Same.map {rs qs:List IRow} (h:Same rs qs):qs.map (·.xs)=rs.map (·.xs):=by
 refine List.ext_getElem? fun i=>?_
 rw [List.getElem?_map,List.getElem?_map]
 by_cases hi:i < rs.length
 ·have h1:=(h.x i hi).1
  have hq:i < qs.length:=by rw [h.n];exact hi
  rw [List.getElem?_eq_getElem hi,List.getElem?_eq_getElem hq]
  simp only [List.getD_eq_getElem?_getD,List.getElem?_eq_getElem hi,List.getElem?_eq_getElem hq,Option.getD_some] at h1
  simp [h1]
 ·rw [List.getElem?_eq_none (show qs.length≤i by rw [h.n];omega),List.getElem?_eq_none (show rs.length≤i by omega)]
theorem Zby (p:In→Bool) (rs:List IRow) (k:Nat):sumI p rs k=(((rs.map (·.xs)).take k).map (cntI p)).sum:=by
 unfold sumI
 rw [← List.map_take,List.map_map];rfl
theorem Same.uok {rs qs:List IRow} (h:Same rs qs) (hu:UOk rs):UOk qs:=by
 have hs:∀ p k,sumI p qs k=sumI p rs k:=fun p k=>by rw [Zby,Zby,h.map]
 refine ⟨by rw [h.n];exact hu.l1,by rw [h.n];exact hu.l3,fun t ht=>?_,fun j hj k hk=>?_,by rw [hs,h.n];exact hu.ops,by rw [hs,h.n];exact hu.brs⟩
 ·rw [h.n] at ht
  rw [(h.x t ht).1];exact hu.sh t ht
 ·rw [h.n] at hj
  have hx:=(h.x j hj).1
  rw [hx] at hk
  have:=hu.ok j hj k hk
  unfold wrI at this ⊢
  rw [hx];exact this
theorem condL {cs:List Cn} (h:ZP cs=true):cs.length≤1000000:=Nat.le_trans (Zeu h).1.2 (by decide)
end SX
end Go.Proofs.YtdddpbmcoimgdaaGreatDoor
set_option maxRecDepth 100000
namespace Go.Proofs.YtdddpbmcoimgdaaGreatDoor
open Go Go.ChangeShapes Go.WideShapes Go.ChangeAt Go.RowKit
namespace SX
def i1enc (x:Int):List SV:=[.i .i64 x]
theorem int_dec (row:List Value) (h:LKs (List.replicate 1 (.i .i64)) row):∃ a:Int,row=cellsL E0 (i1enc a)∧in64 a:=by
 match row,h with
 | [a],h=>
   obtain ⟨⟨x1,rfl,w⟩,_⟩:=h
   exact ⟨x1,rfl,wf64 w⟩
 | [],h=>exact h.elim
 | _::_::_,h=>exact h.2.elim
end SX
section
variable {H:Type} {enc:TypeId×Value→H} {W:World} {b0:Nat} {v:Value} {d:DataW H} {p:List MemPlace} {base:Nat} {spare:Nat→Bool} {held:Bool}
theorem Zdj (hv:Value.okWide Tryz.prog W .any b0 39 v) (h:DataW.Trod enc Tryz.prog W base spare held 39 v d p) :
 ∃ (xs:List Int) (a:Option Addr) (cap:Nat),v=SX.den (fun _ _=>none) (.imm Int 0 1 SX.i1enc xs a cap)∧SX.Ok (SX.memQ W) [] (.imm Int 0 1 SX.i1enc xs a cap)∧cap≤maxLen:=by
 obtain ⟨a0,l0,c0,rfl⟩:=okWide_slice Tryz.underlying39 hv
 obtain ⟨fuel,hf⟩:=h
 obtain ⟨xs,a,cap,e,h1,h2,_⟩:=SX.open_immQ (t:=39) (e:=3) Tryz.underlying39 0 SX.i1enc (n:=1) (by kernel_rfl) (by decide) (fun _=>rfl) (fun _=>True) (fun m row y hy _=>by
  obtain ⟨i,e,_⟩:=SX.int_dec row (SX.trod_flat 40 3 (List.replicate 1 (.i .i64)) (by kernel_rfl) (by kernel_rfl) m row y hy)
  exact ⟨i,e,by simp [SX.i1enc,SX.OkL,SX.Ok,SX.isUnit],trivial⟩) hf
 simp only [Value.cells,List.cons.injEq,and_true] at e
 exact ⟨xs,a,cap,e,h1,h2⟩
end
end Go.Proofs.YtdddpbmcoimgdaaGreatDoor
namespace Go.Proofs.YtdddpbmcoimgdaaGreatDoor
namespace SX
open Go Go.Proofs
theorem ZhG (v n:Nat) (ts:List Thr) (k r:Nat) (hk:k < n) (hr:r < 8) (hv:v≠0):Ctr Tryz.prog 20 [.ptr 0 1 0 [],.i .i64 k,.i .i64 r] (Z1w v n ts) (fun r' H=>r'=.i .i64 (rgG (tg ts k).g r)∧H=Z1w v n ts):=by
 have h:=reg_in v n ts k r hk hv
 unfold regV at h
 rw [if_neg (by simp only [Bool.or_eq_true,decide_eq_true_eq];omega)] at h
 exact h
theorem ZeY {t t':List SV} {h:List SB} (d:Nat) {a b:Int} (hd:t[d]?=some (.i .i64 a)) (e:a=b) (ht:t'=t.set d (.i .i64 b)):Shift ⟨t,h⟩ ⟨t',h⟩:=by
 subst e
 exact Z4q d _ hd ⟨(fun b h=>by cases h),(fun q b h=>by cases h)⟩ (fun _ _ _ _ _ h=>h) ht
def upd {α:Type} (f:Nat→α) (k:Nat) (x:α) (j:Nat):α:=bif Nat.beq j k then x else f j
theorem upd_ne {α:Type} {f:Nat→α} {k j:Nat} {x:α} (h:j≠k):upd f k x j=f j:=by
 unfold upd
 cases hb:Nat.beq j k with
 | false=>rfl
 | true=>exact absurd (Nat.eq_of_beq_eq_true hb) h
end SX
end Go.Proofs.YtdddpbmcoimgdaaGreatDoor
