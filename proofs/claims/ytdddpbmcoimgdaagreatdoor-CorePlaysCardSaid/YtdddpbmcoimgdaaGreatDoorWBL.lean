/- A part of SX: symbolic and concrete runs of the program, with contracts of functions; lemmas without further conditions. Shortened by a tool (mini.py). -/
import Derived.Test.YtdddpbmcoimgdaaGreatDoorWAD
import Derived.Test.YtdddpbmcoimgdaaGreatDoorWBH
import Derived.Test.YtdddpbmcoimgdaaGreatDoorWBI
import Derived.Test.YtdddpbmcoimgdaaGreatDoorWBJ
import Derived.Test.YtdddpbmcoimgdaaGreatDoorWBK
import Derived.Test.YtdddpbmcoimgdaaGreatDoorWAA
set_option linter.unusedVariables false
set_option linter.unusedSimpArgs false
set_option linter.unusedSectionVars false
set_option maxRecDepth 100000
namespace Go.Proofs.YtdddpbmcoimgdaaGreatDoor
namespace SX
open Go Go.Proofs
structure Act where
 th:Int
 old:Int
def act0:Act:=⟨0,0⟩
def aenc (a:Act):List SV:=[.i .i64 a.th,.i .i64 a.old]
structure AlkT (t u:Thr) (p:List Int):Prop where
 x:u.r.xs=t.r.xs
 k:u.k=t.k
 g:u.g=t.g
 ok:ThOk u
 p:p.length≤u.k
 st:stdB u=true→stpB (u.r.xs.getD u.k inZ)=true
theorem AlkT.std {t u:Thr} {p:List Int} (h:AlkT t u p):stdB u=stdB t:=by unfold stdB;rw [h.x,h.k]
theorem Zdb (t:Thr) (h:ThOk t):stdB (thrN t)=true→stpB ((thrN t).r.xs.getD (thrN t).k inZ)=true:=fun hs=>by
 have:=(Zd6 h.c t.k t.g h.k).2.2.2
 exact this (by unfold stdB at hs;exact of_decide_eq_true hs)
theorem Z6k {r:IRow} {t:Thr} {g:List Int} {ad:Addr} {c:Nat} {p:List Int} (h:t=thrN ⟨⟨r.xs,some ad,c⟩,0,g⟩) (hok:ThOk ⟨r,0,g⟩) (hp:p.length≤(thrN ⟨r,0,g⟩).k):AlkT t (thrN ⟨r,0,g⟩) p:=by
 subst h
 exact ⟨rfl,rfl,rfl,hok.run,hp,Zdb _ hok⟩
theorem AlkT.pas {t u:Thr} {p p2:List Int} {old:Int} (h:AlkT t u p) (hs:stdB t=true) (hp:p2.length≤(thrN ⟨u.r,u.k+1,redF u.g (u.r.xs.getD u.k inZ) old⟩).k):AlkT (pasN t old) (thrN ⟨u.r,u.k+1,redF u.g (u.r.xs.getD u.k inZ) old⟩) p2:=by
 have hsu:stdB u=true:=by rw [h.std];exact hs
 have hk:u.k < u.r.xs.length:=by unfold stdB at hsu;exact of_decide_eq_true hsu
 have hok:ThOk ⟨u.r,u.k+1,redF u.g (u.r.xs.getD u.k inZ) old⟩:=⟨h.ok.c,by show (redF _ _ _).length=8;rw [Z5E];exact h.ok.g,hk⟩
 refine ⟨h.x,?_,?_,hok.run,hp,Zdb _ hok⟩
 ·show (thrT u.r.xs (u.k+1) (redF u.g (u.r.xs.getD u.k inZ) old)).1=(thrT t.r.xs (t.k+1) (redF t.g (t.r.xs.getD t.k inZ) old)).1
  rw [h.x,h.k,h.g]
 ·show (thrT u.r.xs (u.k+1) (redF u.g (u.r.xs.getD u.k inZ) old)).2=(thrT t.r.xs (t.k+1) (redF t.g (t.r.xs.getD t.k inZ) old)).2
  rw [h.x,h.k,h.g]
theorem AlkT.stepOk {t u:Thr} {p:List Int} {old:Int} (h:AlkT t u p) (hs:stdB t=true):ThOk ⟨u.r,u.k+1,redF u.g (u.r.xs.getD u.k inZ) old⟩∧(p++[(u.k:Int)]).length≤u.k+1:=by
 have hsu:stdB u=true:=by rw [h.std];exact hs
 have hk:u.k < u.r.xs.length:=by unfold stdB at hsu;exact of_decide_eq_true hsu
 exact ⟨⟨h.ok.c,by show (redF _ _ _).length=8;rw [Z5E];exact h.ok.g,hk⟩,by rw [List.length_append];exact Nat.succ_le_succ h.p⟩
theorem ZR {ts:List Thr} {k j:Nat} {x:Thr} (h:k≠j):(ts.set k x).getD j thr0=ts.getD j thr0:=by
 simp only [List.getD_eq_getElem?_getD,List.getElem?_set_ne h]
theorem Same.map {rs qs:List IRow} (h:Same rs qs):qs.map (·.xs)=rs.map (·.xs):=by
 refine List.ext_getElem? fun i=>?_
 rw [List.getElem?_map,List.getElem?_map]
 by_cases hi:i < rs.length
 ·have h1:=(h.x i hi).1
  have hq:i < qs.length:=by rw [h.n];exact hi
  rw [List.getElem?_eq_getElem hi,List.getElem?_eq_getElem hq]
  simp only [List.getD_eq_getElem?_getD,List.getElem?_eq_getElem hi,List.getElem?_eq_getElem hq,Option.getD_some] at h1
  simp [h1]
 ·rw [List.getElem?_eq_none (show qs.length≤i by rw [h.n];omega),List.getElem?_eq_none (show rs.length≤i by omega)]
theorem Zcd (p:In→Bool) (rs:List IRow) (k:Nat):sumI p rs k=(((rs.map (·.xs)).take k).map (cntI p)).sum:=by
 unfold sumI
 rw [← List.map_take,List.map_map];rfl
theorem Same.uok {rs qs:List IRow} (h:Same rs qs) (hu:UOk rs):UOk qs:=by
 have hs:∀ p k,sumI p qs k=sumI p rs k:=fun p k=>by rw [Zcd,Zcd,h.map]
 refine ⟨by rw [h.n];exact hu.l1,by rw [h.n];exact hu.l3,fun t ht=>?_,fun j hj k hk=>?_,by rw [hs,h.n];exact hu.ops,by rw [hs,h.n];exact hu.brs⟩
 ·rw [h.n] at ht
  rw [(h.x t ht).1];exact hu.sh t ht
 ·rw [h.n] at hj
  have hx:=(h.x j hj).1
  rw [hx] at hk
  have:=hu.ok j hj k hk
  unfold wrI at this ⊢
  rw [hx];exact this
theorem ZdX {cs:List Cn} (h:ZU cs=true):cs.length≤1000000:=Nat.le_trans (Zf5 h).1.2 (by decide)
def rfU (q:Nat) (u:Thr) (p:List Int):List SB:=[.mem 41 [.imm In inZ 17 ienc u.r.xs u.r.a u.r.cap,.ints .i64 8 u.g,.i .i64 u.k,.sl q p.length 0 p.length none 0] 1 0,.mem 3 [.ints .i64 p.length p] p.length 1]
def lkU1 (v:Nat) (ts:List Thr) (u0:Thr) (p0:List Int):List SB:=ZC v 1 ts++[.mem 37 [.ptr 3 1 0 []] 1 1]++rfU 4 u0 p0
theorem Z7x (v:Nat) (ts:List Thr) (u0:Thr) (p0:List Int) (hv:v≠0) (ht:∀ k,k < 1→ThOk (ts.getD k thr0)) (h0:AlkT (ts.getD 0 thr0) u0 p0):Ctr Tryz.prog 14 [.ptr 0 1 0 [],.sl 2 1 0 1 none 0] (lkU1 v ts u0 p0) (fun r H=>r=.b true∧H=lkU1 v ts u0 p0):=by
 obtain ⟨⟨x0,a0,c0⟩,k0,g0⟩:=u0
 obtain ⟨e1,e2,e3,_,_,_⟩:=h0
 simp only at e1 e2 e3
 subst e1 e2 e3
 exact looks1 v ts a0 c0 p0 hv ht
def lkU2 (v:Nat) (ts:List Thr) (u0:Thr) (p0:List Int) (u1:Thr) (p1:List Int):List SB:=ZC v 2 ts++[.mem 37 [.ptr 3 1 0 [],.ptr 5 1 0 []] 2 1]++rfU 4 u0 p0++rfU 6 u1 p1
theorem Z4v (v:Nat) (ts:List Thr) (u0:Thr) (p0:List Int) (u1:Thr) (p1:List Int) (hv:v≠0) (ht:∀ k,k < 2→ThOk (ts.getD k thr0)) (h0:AlkT (ts.getD 0 thr0) u0 p0) (h1:AlkT (ts.getD 1 thr0) u1 p1):Ctr Tryz.prog 14 [.ptr 0 1 0 [],.sl 2 2 0 2 none 0] (lkU2 v ts u0 p0 u1 p1) (fun r H=>r=.b true∧H=lkU2 v ts u0 p0 u1 p1):=by
 obtain ⟨⟨x0,a0,c0⟩,k0,g0⟩:=u0
 obtain ⟨e1,e2,e3,_,_,_⟩:=h0
 simp only at e1 e2 e3
 subst e1 e2 e3
 obtain ⟨⟨x1,a1,c1⟩,k1,g1⟩:=u1
 obtain ⟨e1,e2,e3,_,_,_⟩:=h1
 simp only at e1 e2 e3
 subst e1 e2 e3
 exact looks2 v ts a0 c0 p0 a1 c1 p1 hv ht
def lkU3 (v:Nat) (ts:List Thr) (u0:Thr) (p0:List Int) (u1:Thr) (p1:List Int) (u2:Thr) (p2:List Int):List SB:=ZC v 3 ts++[.mem 37 [.ptr 3 1 0 [],.ptr 5 1 0 [],.ptr 7 1 0 []] 3 1]++rfU 4 u0 p0++rfU 6 u1 p1++rfU 8 u2 p2
theorem Z3e (v:Nat) (ts:List Thr) (u0:Thr) (p0:List Int) (u1:Thr) (p1:List Int) (u2:Thr) (p2:List Int) (hv:v≠0) (ht:∀ k,k < 3→ThOk (ts.getD k thr0)) (h0:AlkT (ts.getD 0 thr0) u0 p0) (h1:AlkT (ts.getD 1 thr0) u1 p1) (h2:AlkT (ts.getD 2 thr0) u2 p2):Ctr Tryz.prog 14 [.ptr 0 1 0 [],.sl 2 3 0 3 none 0] (lkU3 v ts u0 p0 u1 p1 u2 p2) (fun r H=>r=.b true∧H=lkU3 v ts u0 p0 u1 p1 u2 p2):=by
 obtain ⟨⟨x0,a0,c0⟩,k0,g0⟩:=u0
 obtain ⟨e1,e2,e3,_,_,_⟩:=h0
 simp only at e1 e2 e3
 subst e1 e2 e3
 obtain ⟨⟨x1,a1,c1⟩,k1,g1⟩:=u1
 obtain ⟨e1,e2,e3,_,_,_⟩:=h1
 simp only at e1 e2 e3
 subst e1 e2 e3
 obtain ⟨⟨x2,a2,c2⟩,k2,g2⟩:=u2
 obtain ⟨e1,e2,e3,_,_,_⟩:=h2
 simp only at e1 e2 e3
 subst e1 e2 e3
 exact looks3 v ts a0 c0 p0 a1 c1 p1 a2 c2 p2 hv ht
end SX
end Go.Proofs.YtdddpbmcoimgdaaGreatDoor
set_option maxRecDepth 100000
namespace Go.Proofs.YtdddpbmcoimgdaaGreatDoor
open Go Go.ChangeShapes Go.WideShapes Go.ChangeAt Go.RowKit
namespace SX
theorem act_dec (row:List Value) (h:LKs (List.replicate 2 (.i .i64)) row):∃ a:Act,row=cellsL E0 (aenc a):=by
 match row,h with
 | [a,b],h=>
   obtain ⟨⟨x1,rfl,_⟩,⟨x2,rfl,_⟩,_⟩:=h
   exact ⟨⟨x1,x2⟩,rfl⟩
 | [],h=>exact h.elim
 | [_],h=>exact h.2.elim
 | _::_::_::_,h=>exact h.2.2.elim
end SX
section
variable {H:Type} {enc:TypeId×Value→H} {W:World} {b0:Nat} {v:Value} {d:DataW H} {p:List MemPlace} {base:Nat} {spare:Nat→Bool} {held:Bool}
theorem Zfz (hv:Value.okWide Tryz.prog W .any b0 29 v) (h:DataW.Trod enc Tryz.prog W base spare held 29 v d p) :
 ∃ (xs:List SX.Act) (a:Option Addr) (cap:Nat),v=SX.den (fun _ _=>none) (.imm SX.Act SX.act0 2 SX.aenc xs a cap)∧SX.Ok (SX.memQ W) [] (.imm SX.Act SX.act0 2 SX.aenc xs a cap)∧cap≤maxLen:=by
 obtain ⟨a0,l0,c0,rfl⟩:=okWide_slice Tryz.underlying29 hv
 obtain ⟨fuel,hf⟩:=h
 obtain ⟨xs,a,cap,e,h1,h2,_⟩:=SX.open_immQ (t:=29) (e:=44) Tryz.underlying29 SX.act0 SX.aenc (n:=2) (by kernel_rfl) (by decide) (fun _=>rfl) (fun _=>True) (fun m row y hy _=>by
  obtain ⟨i,e⟩:=SX.act_dec row (SX.trod_flat 40 44 (List.replicate 2 (.i .i64)) (by kernel_rfl) (by kernel_rfl) m row y hy)
  exact ⟨i,e,by simp [SX.aenc,SX.OkL,SX.Ok,SX.isUnit],trivial⟩) hf
 simp only [Value.cells,List.cons.injEq,and_true] at e
 exact ⟨xs,a,cap,e,h1,h2⟩
end
end Go.Proofs.YtdddpbmcoimgdaaGreatDoor
