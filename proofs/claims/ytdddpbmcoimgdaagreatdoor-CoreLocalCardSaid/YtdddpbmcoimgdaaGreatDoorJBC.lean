/- A part of SX: symbolic and concrete runs of the program, with contracts of functions; lemmas without further conditions. Shortened by a tool (mini.py). -/
import Derived.Test.YtdddpbmcoimgdaaGreatDoorJAW
import Derived.Test.YtdddpbmcoimgdaaGreatDoorJBA
import Derived.Test.YtdddpbmcoimgdaaGreatDoorJAA
set_option linter.unusedVariables false
set_option linter.unusedSimpArgs false
set_option linter.unusedSectionVars false
set_option maxRecDepth 100000
namespace Go.Proofs.YtdddpbmcoimgdaaGreatDoor
namespace SX
open Go Go.Proofs
def xH:List SB:=[rowS [82,65,88] [82,66,88] [82,67,88] [82,68,88] [82,83,73] [82,68,73] [82,56] [82,57],Zg [36] 151 152]
def XOne (i:In) (lb t:List UInt8):Prop:=
 Ctr Tryz.prog 152 [.ptr 1 1 0 [],.agg (ienc i),.s lb] xH (fun r h'=>r=.tup [.s t,.b (!decide (t=[]))]∧h'=xH)∧t.length≤100000
theorem Z1c {i:In} {lb n:List UInt8} {xs:List (List UInt8)} (hl:(Z7 n xs).length≤100000)
 (h1:Ctr Tryz.prog 152 [.ptr 1 1 0 [],.agg (ienc i),.s lb] xH (fun r h'=>r=.tup [.s (Z7 n xs),.b true]∧h'=xH)) (ht:pxT i lb=Z7 n xs):XOne i lb (pxT i lb):=by
 rw [ht]
 refine ⟨?_,hl⟩
 rw [decide_eq_false ZcC]
 exact h1
theorem XOne.none {i:In} {lb:List UInt8} (h1:Ctr Tryz.prog 152 [.ptr 1 1 0 [],.agg (ienc i),.s lb] xH (fun r h'=>r=.tup [.s [],.b false]∧h'=xH)) (ht:pxT i lb=[]):XOne i lb (pxT i lb):=by
 rw [ht];exact ⟨h1,by decide⟩
theorem Z1m {n x y:List UInt8} {p q r:Nat} (h1:n.length≤p) (h2:x.length≤q) (h3:y.length≤r) (h4:p+q+r≤99000):(Z7 n [x,y]).length≤100000:=by
 unfold Z7;rw [join2];simp;omega
theorem Z4x (r n:Int) (hn:in64 n):(orF (Z1 1) [36] r n).length≤40:=Z35 (fun n=>Zh 1 n) hn (by decide)
theorem ZhL (i:In) (lb:List UInt8) (hf:Zr i=true) (hi:in64 i.imm) (hl:lb.length≤90000):XOne i lb (pxT i lb):=by
 obtain ⟨op,dst,a,b,imm,loc,off,ix,sz,fn,acq,wk,rel,pr,su,to,ze⟩:=i
 have hi:in64 imm:=hi
 by_cases h1:op=1
 ·subst h1
  exact Z1c (Z1m (p:=8) (by decide) (Zh 1 dst) (Z4x (-1) imm hi) (by decide)) (xp_1 [82,65,88] [82,66,88] [82,67,88] [82,68,88] [82,83,73] [82,68,73] [82,56] [82,57] [36] 151 152 (fun n=>Zh 1 n) (by decide) dst a b imm loc off ix sz fn pr su to acq wk rel ze lb hi) rfl
 by_cases h2:op=2
 ·subst h2
  exact Z1c (Z1m (p:=8) (by decide) (Zh 1 dst) (Zh 1 a) (by decide)) (xp_2 [82,65,88] [82,66,88] [82,67,88] [82,68,88] [82,83,73] [82,68,73] [82,56] [82,57] [36] 151 152 (fun n=>Zh 1 n) (by decide) dst a b imm loc off ix sz fn pr su to acq wk rel ze lb ) rfl
 by_cases h3:op=3
 ·subst h3
  have hq:Z41 ⟨3,dst,a,b,imm,loc,off,ix,sz,fn,acq,wk,rel,pr,su,to,ze⟩=true:=hf
  have hfn:fn=1∨fn=2∨fn=3∨fn=4∨fn=5:=by
   unfold Z41 at hq
   split at hq <;> simp only [Bool.and_eq_true,decide_eq_true_eq] at hq <;> omega
  by_cases hd:dst=a
  ·rcases hfn with rfl | rfl | rfl | rfl | rfl
   ·exact Z1c (Z1m (p:=8) (by decide) (Zh 1 dst) (Z4x b imm hi) (by decide)) (xp_31 [82,65,88] [82,66,88] [82,67,88] [82,68,88] [82,83,73] [82,68,73] [82,56] [82,57] [36] 151 152 (fun n=>Zh 1 n) (by decide) dst a b imm loc off ix sz pr su to acq wk rel ze lb hd hi) (Z8x hd)
   ·exact Z1c (Z1m (p:=8) (by decide) (Zh 1 dst) (Z4x b imm hi) (by decide)) (xp_32 [82,65,88] [82,66,88] [82,67,88] [82,68,88] [82,83,73] [82,68,73] [82,56] [82,57] [36] 151 152 (fun n=>Zh 1 n) (by decide) dst a b imm loc off ix sz pr su to acq wk rel ze lb hd hi) (Z8x hd)
   ·exact Z1c (Z1m (p:=8) (by decide) (Zh 1 dst) (Z4x b imm hi) (by decide)) (xp_33 [82,65,88] [82,66,88] [82,67,88] [82,68,88] [82,83,73] [82,68,73] [82,56] [82,57] [36] 151 152 (fun n=>Zh 1 n) (by decide) dst a b imm loc off ix sz pr su to acq wk rel ze lb hd hi) (Z8x hd)
   ·exact Z1c (Z1m (p:=8) (by decide) (Zh 1 dst) (Z4x b imm hi) (by decide)) (xp_34 [82,65,88] [82,66,88] [82,67,88] [82,68,88] [82,83,73] [82,68,73] [82,56] [82,57] [36] 151 152 (fun n=>Zh 1 n) (by decide) dst a b imm loc off ix sz pr su to acq wk rel ze lb hd hi) (Z8x hd)
   ·exact Z1c (Z1m (p:=8) (by decide) (Zh 1 dst) (Z4x b imm hi) (by decide)) (xp_35 [82,65,88] [82,66,88] [82,67,88] [82,68,88] [82,83,73] [82,68,73] [82,56] [82,57] [36] 151 152 (fun n=>Zh 1 n) (by decide) dst a b imm loc off ix sz pr su to acq wk rel ze lb hd hi) (Z8x hd)
  ·exact XOne.none (xp_3n [82,65,88] [82,66,88] [82,67,88] [82,68,88] [82,83,73] [82,68,73] [82,56] [82,57] [36] 151 152 (fun n=>Zh 1 n) (by decide) dst a b imm loc off ix sz fn pr su to acq wk rel ze lb hd) (pxT_3n hd)
 by_cases h4:op=4
 ·subst h4
  have hq:Z8p ⟨4,dst,a,b,imm,loc,off,ix,sz,fn,acq,wk,rel,pr,su,to,ze⟩=true:=hf
  have ha:accB ⟨4,dst,a,b,imm,loc,off,ix,sz,fn,acq,wk,rel,pr,su,to,ze⟩=true:=by
   unfold Z8p at hq
   simp only [Bool.and_eq_true] at hq;exact hq.1.1.2
  cases acq with
  | true=>exact XOne.none (xp_4a [82,65,88] [82,66,88] [82,67,88] [82,68,88] [82,83,73] [82,68,73] [82,56] [82,57] [36] 151 152 (fun n=>Zh 1 n) (by decide) dst a b imm loc off ix sz fn pr su to wk rel ze lb ) pxT_4a
  | false=>
    cases wk with
    | true=>exact XOne.none (xp_4w [82,65,88] [82,66,88] [82,67,88] [82,68,88] [82,83,73] [82,68,73] [82,56] [82,57] [36] 151 152 (fun n=>Zh 1 n) (by decide) dst a b imm loc off ix sz fn pr su to rel ze lb ) pxT_4w
    | false=>exact Z1c (Z1m (p:=10) (by have:=Z2q sz;simp;omega) (Zh 1 dst) (Z6W (a:=1) ha) (by decide)) (xp_4 [82,65,88] [82,66,88] [82,67,88] [82,68,88] [82,83,73] [82,68,73] [82,56] [82,57] [36] 151 152 (fun n=>Zh 1 n) (by decide) dst a b imm loc off ix sz fn pr su to rel ze lb ha) rfl
 by_cases h5:op=5
 ·subst h5
  have hq:Z42 ⟨5,dst,a,b,imm,loc,off,ix,sz,fn,acq,wk,rel,pr,su,to,ze⟩=true:=hf
  have ha:accB ⟨5,dst,a,b,imm,loc,off,ix,sz,fn,acq,wk,rel,pr,su,to,ze⟩=true:=by
   unfold Z42 at hq
   split at hq <;> simp only [Bool.and_eq_true] at hq
   ·exact hq.1
   ·exact hq.1.1
  cases rel with
  | true=>exact XOne.none (xp_5r [82,65,88] [82,66,88] [82,67,88] [82,68,88] [82,83,73] [82,68,73] [82,56] [82,57] [36] 151 152 (fun n=>Zh 1 n) (by decide) dst a b imm loc off ix sz fn pr su to acq wk ze lb ) rfl
  | false=>exact Z1c (Z1m (p:=10) (by have:=Z2q sz;simp;omega) (Z6W (a:=1) ha) (Z4x a imm hi) (by decide)) (xp_5 [82,65,88] [82,66,88] [82,67,88] [82,68,88] [82,83,73] [82,68,73] [82,56] [82,57] [36] 151 152 (fun n=>Zh 1 n) (by decide) dst a b imm loc off ix sz fn pr su to acq wk ze lb hi ha) rfl
 by_cases h6:op=6
 ·subst h6
  have hq:Z6R ⟨6,dst,a,b,imm,loc,off,ix,sz,fn,acq,wk,rel,pr,su,to,ze⟩=true:=hf
  have ha:accB ⟨6,dst,a,b,imm,loc,off,ix,sz,fn,acq,wk,rel,pr,su,to,ze⟩=true:=by
   unfold Z6R at hq
   simp only [Bool.and_eq_true] at hq;exact hq.1.1.2
  have hfn:fn=6∨fn=1:=by
   unfold Z6R at hq
   simp only [Bool.and_eq_true,Bool.or_eq_true,decide_eq_true_eq] at hq
   exact hq.1.2
  by_cases hd:dst=a
  ·cases acq with
   | false=>exact XOne.none (xp_6a [82,65,88] [82,66,88] [82,67,88] [82,68,88] [82,83,73] [82,68,73] [82,56] [82,57] [36] 151 152 (fun n=>Zh 1 n) (by decide) dst a b imm loc off ix sz fn pr su to wk rel ze lb ) pxT_6a
   | true=>
     cases rel with
     | false=>exact XOne.none (xp_6r [82,65,88] [82,66,88] [82,67,88] [82,68,88] [82,83,73] [82,68,73] [82,56] [82,57] [36] 151 152 (fun n=>Zh 1 n) (by decide) dst a b imm loc off ix sz fn pr su to wk ze lb ) pxT_6r
     | true=>
       subst hd
       rcases hfn with rfl | rfl
       ·exact Z1c (Z1m (p:=10) (by have:=Z2q sz;simp;omega) (Zh 1 dst) (Z6W (a:=1) ha) (by decide)) (xp_6x [82,65,88] [82,66,88] [82,67,88] [82,68,88] [82,83,73] [82,68,73] [82,56] [82,57] [36] 151 152 (fun n=>Zh 1 n) (by decide) dst dst b imm loc off ix sz pr su to wk ze lb rfl ha) (pxT_6 rfl)
       ·exact Z1c (Z1m (p:=10) (by have:=Z2q sz;simp;omega) (Z6W (a:=1) ha) (Zh 1 dst) (by decide)) (xp_6y [82,65,88] [82,66,88] [82,67,88] [82,68,88] [82,83,73] [82,68,73] [82,56] [82,57] [36] 151 152 (fun n=>Zh 1 n) (by decide) dst dst b imm loc off ix sz pr su to wk ze lb rfl ha) (pxT_6 rfl)
  ·exact XOne.none (xp_6d [82,65,88] [82,66,88] [82,67,88] [82,68,88] [82,83,73] [82,68,73] [82,56] [82,57] [36] 151 152 (fun n=>Zh 1 n) (by decide) dst a b imm loc off ix sz fn pr su to acq wk rel ze lb hd) (pxT_6d hd)
 by_cases h7:op=7
 ·subst h7
  have hq:Z8q ⟨7,dst,a,b,imm,loc,off,ix,sz,fn,acq,wk,rel,pr,su,to,ze⟩=true:=hf
  have hps:(pr=1∨pr=2∨pr=3)∧(su=1∨su=2∨su=3):=by
   unfold Z8q fnB at hq
   simp only [Bool.and_eq_true,decide_eq_true_eq] at hq
   omega
  obtain ⟨hp,hs⟩:=hps
  rcases hp with rfl | rfl | rfl <;> rcases hs with rfl | rfl | rfl
  ·exact XOne.none (xp_711 [82,65,88] [82,66,88] [82,67,88] [82,68,88] [82,83,73] [82,68,73] [82,56] [82,57] [36] 151 152 (fun n=>Zh 1 n) (by decide) dst a b imm loc off ix sz fn to acq wk rel ze lb) rfl
  ·exact XOne.none (xp_712 [82,65,88] [82,66,88] [82,67,88] [82,68,88] [82,83,73] [82,68,73] [82,56] [82,57] [36] 151 152 (fun n=>Zh 1 n) (by decide) dst a b imm loc off ix sz fn to acq wk rel ze lb) rfl
  ·exact XOne.none (xp_713 [82,65,88] [82,66,88] [82,67,88] [82,68,88] [82,83,73] [82,68,73] [82,56] [82,57] [36] 151 152 (fun n=>Zh 1 n) (by decide) dst a b imm loc off ix sz fn to acq wk rel ze lb) rfl
  ·exact XOne.none (xp_721 [82,65,88] [82,66,88] [82,67,88] [82,68,88] [82,83,73] [82,68,73] [82,56] [82,57] [36] 151 152 (fun n=>Zh 1 n) (by decide) dst a b imm loc off ix sz fn to acq wk rel ze lb) rfl
  ·exact XOne.none (xp_722 [82,65,88] [82,66,88] [82,67,88] [82,68,88] [82,83,73] [82,68,73] [82,56] [82,57] [36] 151 152 (fun n=>Zh 1 n) (by decide) dst a b imm loc off ix sz fn to acq wk rel ze lb) rfl
  ·exact XOne.none (xp_723 [82,65,88] [82,66,88] [82,67,88] [82,68,88] [82,83,73] [82,68,73] [82,56] [82,57] [36] 151 152 (fun n=>Zh 1 n) (by decide) dst a b imm loc off ix sz fn to acq wk rel ze lb) rfl
  ·exact XOne.none (xp_731 [82,65,88] [82,66,88] [82,67,88] [82,68,88] [82,83,73] [82,68,73] [82,56] [82,57] [36] 151 152 (fun n=>Zh 1 n) (by decide) dst a b imm loc off ix sz fn to acq wk rel ze lb) rfl
  ·exact XOne.none (xp_732 [82,65,88] [82,66,88] [82,67,88] [82,68,88] [82,83,73] [82,68,73] [82,56] [82,57] [36] 151 152 (fun n=>Zh 1 n) (by decide) dst a b imm loc off ix sz fn to acq wk rel ze lb) rfl
  ·exact (⟨xp_733 [82,65,88] [82,66,88] [82,67,88] [82,68,88] [82,83,73] [82,68,73] [82,56] [82,57] [36] 151 152 (fun n=>Zh 1 n) (by decide) dst a b imm loc off ix sz fn to acq wk rel ze lb,by decide⟩:XOne _ lb [77,70,69,78,67,69])
 by_cases h8:op=8
 ·subst h8
  exact XOne.none (xp_8 [82,65,88] [82,66,88] [82,67,88] [82,68,88] [82,83,73] [82,68,73] [82,56] [82,57] [36] 151 152 (fun n=>Zh 1 n) (by decide) dst a b imm loc off ix sz fn pr su to acq wk rel ze lb ) rfl
 by_cases h9:op=9
 ·subst h9
  cases ze with
  | true=>exact Z1c (Z1m (p:=8) (by decide) (Zh 1 a) hl (by decide)) (xp_9z [82,65,88] [82,66,88] [82,67,88] [82,68,88] [82,83,73] [82,68,73] [82,56] [82,57] [36] 151 152 (fun n=>Zh 1 n) (by decide) dst a b imm loc off ix sz fn pr su to acq wk rel lb hl) rfl
  | false=>exact Z1c (Z1m (p:=8) (by decide) (Zh 1 a) hl (by decide)) (xp_9n [82,65,88] [82,66,88] [82,67,88] [82,68,88] [82,83,73] [82,68,73] [82,56] [82,57] [36] 151 152 (fun n=>Zh 1 n) (by decide) dst a b imm loc off ix sz fn pr su to acq wk rel lb hl) rfl
 unfold Zr at hf
 simp only [if_neg h1,if_neg h2,if_neg h3,if_neg h4,if_neg h5,if_neg h6,if_neg h7,if_neg h8,if_neg h9] at hf
 cases hf
end SX
end Go.Proofs.YtdddpbmcoimgdaaGreatDoor
