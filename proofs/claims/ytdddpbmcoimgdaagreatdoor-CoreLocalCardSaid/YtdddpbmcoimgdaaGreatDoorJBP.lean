/- A part of SX: symbolic and concrete runs of the program, with contracts of functions; lemmas without further conditions. Shortened by a tool (mini.py). -/
import Derived.Test.YtdddpbmcoimgdaaGreatDoorJAB
import Derived.Test.YtdddpbmcoimgdaaGreatDoorJAJ
import Derived.Test.YtdddpbmcoimgdaaGreatDoorJBI
import Derived.Test.YtdddpbmcoimgdaaGreatDoorJBL
import Derived.Test.YtdddpbmcoimgdaaGreatDoorJBO
import Derived.Test.YtdddpbmcoimgdaaGreatDoorJAA
set_option linter.unusedVariables false
set_option linter.unusedSimpArgs false
set_option linter.unusedSectionVars false
set_option maxRecDepth 100000
namespace Go.Proofs.YtdddpbmcoimgdaaGreatDoor
namespace SX
open Go Go.Proofs
theorem ZbC {α:Type} {N n:Nat} {d:α} {enc:α→List SV} {xs:List α} (hw:∀ x,wdL (enc x)=n) (hok:∀ x m,OkL m [] (enc x)) (E:Env) (j u:Nat) (c:Value) (hj:j < N) (hu:(cellsL E0 (enc (xs.getD j d)))[u]?=some c):(cellsL E [.arr N α d n enc xs])[j * n+u]?=some c:=by
 have h0:cellsL E (enc (xs.getD j d))=cellsL E0 (enc (xs.getD j d)):=cellsL_stable (m:=fun _=>none) (V:=[]) (fun k v hv=>(Z1I hv).elim) _ (hok _ _)
 simp only [cellsL,cells,List.append_nil]
 have hl:∀ i,(cellsL E (enc (xs.getD i d))).length=n:=fun i=>by
  rw [length_cellsL (m:=fun _=>none) E _ [] (hok _ _),hw]
 have:=Z3R (fun j=>cellsL E (enc (xs.getD j d))) n N 0 j u c (fun i _ _=>hl i) hj (by rw [Nat.zero_add];show (cellsL E (enc (xs.getD j d)))[u]?=some c;rw [h0];exact hu)
 simpa [List.range_eq_range'] using this
def lclR (o:Option (List Int)) (r:SV) (H:List SB):Prop:=
 (∃ g N ev M p,o=some g∧r=.tup [.agg [.ints .i64 8 g],.sl 5 N 0 N none 0,.sl 6 M 0 M none 0,.i .i64 0]∧H=locG g g N ev M p) ∨
 (o=none∧r=.tup [.agg [.ints .i64 8 tz8],.nils,.nils,.i .i64 24]∧H=[.gone 1,.gone 1])
theorem i1_nm (x:Int) (m:Mem):OkL m [] (i1enc x):=by simp [i1enc,OkL,Ok,isUnit]
theorem Z92 (p:In→Bool) {rs:List IRow} {t:Nat}:∀ k,k≤rs.length→t < k→cntI p (rs.getD t ir0).xs≤sumI p rs k
 | 0,_,h=>absurd h (Nat.not_lt_zero _)
 | k+1,hk,h=>by
   rw [Z4v (by omega)]
   by_cases e:t=k
   ·subst e;omega
   ·have:=Z92 p (rs:=rs) (t:=t) k (by omega) (by omega);omega
theorem UOk.one {rs:List IRow} (h:UOk rs) {t:Nat} (ht:t < rs.length) (ad:Option Addr) (cp:Nat):UOk [⟨(rs.getD t ir0).xs,ad,cp⟩]:=by
 have hc:∀ p,sumI p [⟨(rs.getD t ir0).xs,ad,cp⟩] 1=cntI p (rs.getD t ir0).xs:=fun p=>by
  rw [Z4v (p:=p) (rs:=[⟨(rs.getD t ir0).xs,ad,cp⟩]) (k:=0) Nat.zero_lt_one]
  show 0+cntI p (rs.getD t ir0).xs=_;omega
 refine ⟨Nat.le_refl _,by show 1≤3;decide,fun q hq=>?_,fun q hq k hk=>?_,?_,?_⟩
 ·have hq:q < 1:=hq
  have:q=0:=by omega
  subst this
  exact h.sh t ht
 ·have hq:q < 1:=hq
  have:q=0:=by omega
  subst this
  exact h.ok t ht k hk
 ·show sumI memB _ 1≤6
  rw [hc];exact Nat.le_trans (Z92 memB _ (Nat.le_refl _) ht) h.ops
 ·show sumI brB _ 1≤3
  rw [hc];exact Nat.le_trans (Z92 brB _ (Nat.le_refl _) ht) h.brs
theorem Zfu (xs:List In) (hc:CodeOk xs) (hu1:∀ ad cp,UOk [⟨xs,ad,cp⟩]) (g0 rd0:List Int) (hg0:g0.length=8):Ctr Tryz.prog 17 [.sl 0 1 0 xs.length none 0,.agg [.ints .i64 8 g0],.sl 1 1 0 rd0.length none 0] [.mem 56 [.arr xs.length In inZ 17 ienc xs] 1 17,.mem 3 [.arr rd0.length Int 0 1 i1enc rd0] 1 1] (lclR (lclT xs 0 g0 rd0)):=by
 refine Cp.trim ZK (K:=locK xs g0 rd0) ?_ (fun r H1 hk=>?_)
 rotate_left
 ·rcases hk with ⟨g,N,ev,M,p,h1,rfl,X,rfl⟩ | ⟨h1,rfl,X,rfl⟩
  ·exact ⟨_,X,rfl,(show 2≤7 by decide),Z1v,rfl,.inl ⟨g,N,ev,M,p,h1,rfl,rfl⟩⟩
  ·exact ⟨_,X,rfl,Nat.le_refl _,⟨trivial,trivial,trivial⟩,rfl,.inr ⟨h1,rfl,rfl⟩⟩
 refine Z51 ZK (A:=[]) (B:=[.agg [.ints .i64 8 g0],.sl 1 1 0 rd0.length none 0]) (d:=inZ) (enc:=ienc) (xs:=xs) Z Z ien_w ien_ok (fun E j hj u c hu=>by rw [Nat.zero_add];exact ZbC ien_w ien_ok E j u c hj hu) ⟨rfl,by decide,by decide,?_⟩ (fun ad cp=>?_)
 ·show 0+xs.length * 17≤wdL [.arr xs.length In inZ 17 ienc xs]
  simp [wdL,wd]
 refine Z51 ZK (A:=[.imm In inZ 17 ienc xs ad cp,.agg [.ints .i64 8 g0]]) (B:=[]) (d:=(0:Int)) (enc:=i1enc) (xs:=rd0) Z Z (fun _=>rfl) i1_nm (fun E j hj u c hu=>by rw [Nat.zero_add];exact ZbC (n:=1) (d:=(0:Int)) (enc:=i1enc) (xs:=rd0) (fun _=>rfl) i1_nm E j u c hj hu) ⟨rfl,by decide,by decide,?_⟩ (fun ra rc=>?_)
 ·show 0+rd0.length * 1≤wdL [.arr rd0.length Int 0 1 i1enc rd0]
  simp [wdL,wd]
 refine ZeX xs hc g0 rd0 hg0 ad cp ra rc (fun ad2 cp2=>?_)
 have hu:UOk [⟨xs,ad,cp⟩]:=hu1 ad cp
 have:=Z2o [⟨xs,ad,cp⟩] ad2 cp2
 rw [Z8W hu] at this
 exact this
end SX
end Go.Proofs.YtdddpbmcoimgdaaGreatDoor
