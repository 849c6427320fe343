/- A part of SX: symbolic and concrete runs of the program, with contracts of functions; lemmas without further conditions. Shortened by a tool (mini.py). -/
import Derived.Test.YtdddpbmcoimgdaaGreatDoorJAC
import Derived.Test.YtdddpbmcoimgdaaGreatDoorJAH
import Derived.Test.YtdddpbmcoimgdaaGreatDoorJAN
import Derived.Test.YtdddpbmcoimgdaaGreatDoorJAQ
import Derived.Test.YtdddpbmcoimgdaaGreatDoorJAS
import Derived.Test.YtdddpbmcoimgdaaGreatDoorJAA
set_option linter.unusedVariables false
set_option linter.unusedSimpArgs false
set_option linter.unusedSectionVars false
set_option maxRecDepth 100000
namespace Go.Proofs.YtdddpbmcoimgdaaGreatDoor
namespace SX
open Go Go.Proofs
theorem Z5R (p:Nat→Prop):∀ n,(∃ t,t < n∧p t)→∃ t,t < n∧p t∧∀ j,j < t→¬ p j
 | 0,⟨t,h,_⟩=>absurd h (Nat.not_lt_zero _)
 | n+1,⟨t,h,hp⟩=>by
   by_cases h1:∃ t,t < n∧p t
   ·obtain ⟨t,a,b,c⟩:=Z5R p n h1
    exact ⟨t,by omega,b,c⟩
   ·have h2:t=n:=by
     rcases Nat.lt_succ_iff_lt_or_eq.1 h with h | h
     ·exact absurd ⟨t,h,hp⟩ h1
     ·exact h
    subst h2
    exact ⟨t,h,hp,fun j hj hpj=>h1 ⟨j,hj,hpj⟩⟩
theorem Zhe (rs:List IRow):∃ x,Z6S rs x:=by
 by_cases h0:rs.length < 1∨3 < rs.length
 ·exact ⟨_,.inl ⟨h0,rfl⟩⟩
 by_cases h1:∃ t,t < rs.length∧Z2i (rs.getD t ir0)=true
 ·obtain ⟨t,a,b,c⟩:=Z5R _ _ h1
  exact ⟨_,.inr ⟨by omega,by omega,.inl ⟨t,a,fun j hj=>by simpa using c j hj,b,rfl⟩⟩⟩
 have hs:shT rs rs.length:=fun j hj=>by
  cases h:Z2i (rs.getD j ir0) with
  | false=>rfl
  | true=>exact absurd ⟨j,hj,h⟩ h1
 by_cases h2:∃ t,t < rs.length∧∃ k,k < (rs.getD t ir0).xs.length∧wrI (rs.getD t ir0) k≠0
 ·obtain ⟨t,a,b,c⟩:=Z5R _ _ h2
  obtain ⟨k,d,e,f⟩:=Z5R _ _ b
  exact ⟨_,.inr ⟨by omega,by omega,.inr ⟨hs,.inl ⟨t,k,a,fun j hj q hq=>Decidable.by_contra fun hn=>c j hj ⟨q,hq,hn⟩,d,fun q hq=>Decidable.by_contra fun hn=>f q hq hn,e,rfl⟩⟩⟩⟩
 ·exact ⟨_,.inr ⟨by omega,by omega,.inr ⟨hs,.inr ⟨fun j hj q hq=>Decidable.by_contra fun hn=>h2 ⟨j,hj,q,hq,hn⟩,rfl⟩⟩⟩⟩
structure UOk (rs:List IRow):Prop where
 l1:1≤rs.length
 l3:rs.length≤3
 sh:∀ t,t < rs.length→(rs.getD t ir0).xs.length≤8
 ok:okT rs rs.length
 ops:sumI memB rs rs.length≤6
 brs:sumI brB rs rs.length≤3
theorem Z43 {rs:List IRow} (h:(uchk rs).2.2=0):uchk rs=(0,0,0)∧UOk rs:=by
 obtain ⟨x,hx⟩:=Zhe rs
 have he:=Z3q hx
 rw [he] at h ⊢
 rcases hx with ⟨_,rfl⟩ | ⟨a1,a2,⟨t,_,_,_,rfl⟩ | ⟨hs,⟨t,k,_,_,_,_,hw,rfl⟩ | ⟨ho,rfl⟩⟩⟩
 ·exact absurd h (show ¬ (30:Int)=0 by decide)
 ·exact absurd h (show ¬ (31:Int)=0 by decide)
 ·exact absurd h hw
 ·by_cases h1:6 < sumI memB rs rs.length
  ·rw [if_pos h1] at h;exact absurd h (show ¬ (32:Int)=0 by decide)
  ·rw [if_neg h1] at h ⊢
   by_cases h2:3 < sumI brB rs rs.length
   ·rw [if_pos h2] at h;exact absurd h (show ¬ (33:Int)=0 by decide)
   ·rw [if_neg h2]
    exact ⟨rfl,a1,a2,fun t ht=>Z4M (hs t ht),ho,by omega,by omega⟩
theorem Z8W {rs:List IRow} (h:UOk rs):uchk rs=(0,0,0):=by
 refine Z3q (.inr ⟨h.l1,h.l3,.inr ⟨fun t ht=>?_,.inr ⟨h.ok,?_⟩⟩⟩)
 ·have:=h.sh t ht
  unfold Z2i;exact decide_eq_false (by omega)
 ·rw [if_neg (by have:=h.ops;omega),if_neg (by have:=h.brs;omega)]
def getF (v off n:Int):Int:=if mskX off n=true then 0 else IntKind.i64.wrap (gN (u64 v) off.toNat n.toNat:Int)
def rgG (g:List Int) (r:Int):Int:=g.getD r.toNat 0
def aluF (fn a b:Int):Int:=if fn=1 then IntKind.i64.wrap (a+b) else if fn=2 then IntKind.i64.wrap (a - b) else if fn=3 then bits .xor .i64 a b else if fn=4 then bits .and .i64 a b else if fn=5 then bits .or .i64 a b else 0
def opB (g:List Int) (i:In):Int:=if i.b = -1 then i.imm else rgG g i.b
def stpB (i:In):Bool:=(memB i||decide (i.op=7))||decide (i.op=8)
def rdB (i:In):Bool:=decide (i.op=4)||decide (i.op=6)
def givF (g:List Int) (i:In):List Int:=
 if i.op=1 then g.set i.dst.toNat i.imm else if i.op=2 then g.set i.dst.toNat (rgG g i.a) else if i.op=3 then g.set i.dst.toNat (aluF i.fn (rgG g i.a) (opB g i)) else g
def jmpB (g:List Int) (i:In):Bool:=decide (i.op=9)&&(decide (rgG g i.a=0) == i.ze)
def nxtF (g:List Int) (i:In) (k:Nat):Nat:=if jmpB g i=true then i.to.toNat else k+1
structure CodeOk (xs:List In):Prop where
 l8:xs.length≤8
 fm:∀ k,k < xs.length→Zr (xs.getD k inZ)=true
 to:∀ k,k < xs.length→(xs.getD k inZ).op=9→(k:Int) < (xs.getD k inZ).to∧(xs.getD k inZ).to≤xs.length
theorem Z1H {xs:List In} (h:CodeOk xs) {g:List Int} {k:Nat} (hk:k < xs.length):k < nxtF g (xs.getD k inZ) k∧nxtF g (xs.getD k inZ) k≤xs.length:=by
 unfold nxtF
 split
 ·rename_i h1
  unfold jmpB at h1
  simp only [Bool.and_eq_true,decide_eq_true_eq] at h1
  have:=h.to k hk h1.1
  omega
 ·omega
theorem Zco (g:List Int) (i:In):(givF g i).length=g.length:=by
 unfold givF
 repeat' split
 all_goals simp
def thrF (xs:List In):Nat→Nat→List Int→Nat×List Int
 | 0,k,g=>(k,g)
 | n+1,k,g=>if k < xs.length then (if stpB (xs.getD k inZ)=true then (k,g) else thrF xs n (nxtF g (xs.getD k inZ) k) (givF g (xs.getD k inZ))) else (k,g)
theorem Z9y {xs:List In} (h:CodeOk xs):∀ (n m k:Nat) (g:List Int),xs.length≤n+k→xs.length≤m+k→thrF xs n k g=thrF xs m k g
 | 0,0,k,g,_,_=>rfl
 | 0,m+1,k,g,h1,h2=>by simp only [thrF];rw [if_neg (by omega)]
 | n+1,0,k,g,h1,h2=>by simp only [thrF];rw [if_neg (by omega)]
 | n+1,m+1,k,g,h1,h2=>by
   simp only [thrF]
   split
   ·rename_i hk
    split
    ·rfl
    ·have:=Z1H h (g:=g) hk
     exact Z9y h n m _ _ (by omega) (by omega)
   ·rfl
def thrT (xs:List In) (k:Nat) (g:List Int):Nat×List Int:=thrF xs 8 k g
theorem Zbs {xs:List In} (h:CodeOk xs) {k:Nat} {g:List Int} (hk:xs.length≤k):thrT xs k g=(k,g):=by unfold thrT thrF;rw [if_neg (by omega)]
theorem Z9z {xs:List In} {k:Nat} {g:List Int} (hk:stpB (xs.getD k inZ)=true):thrT xs k g=(k,g):=by unfold thrT thrF;rw [if_pos hk];split <;> rfl
theorem Zhf {xs:List In} (h:CodeOk xs) {k:Nat} {g:List Int} (hk:k < xs.length) (hs:stpB (xs.getD k inZ)=false):thrT xs k g=thrT xs (nxtF g (xs.getD k inZ) k) (givF g (xs.getD k inZ)):=by
 have:=h.l8
 have hu:=Z1H h (g:=g) hk
 unfold thrT
 rw [show thrF xs 8 k g=thrF xs 7 (nxtF g (xs.getD k inZ) k) (givF g (xs.getD k inZ)) by
  rw [show (8:Nat)=7+1 from rfl];simp only [thrF];rw [if_pos hk,if_neg (by rw [hs];decide)]]
 exact Z9y h _ _ _ _ (by omega) (by omega)
theorem Zcp {xs:List In} (h:CodeOk xs):∀ (n k:Nat) (g:List Int),k≤xs.length→xs.length≤n+k→k≤(thrF xs n k g).1∧(thrF xs n k g).1≤xs.length∧(thrF xs n k g).2.length=g.length∧((thrF xs n k g).1 < xs.length→stpB (xs.getD (thrF xs n k g).1 inZ)=true)
 | 0,k,g,h1,h2=>by simp only [thrF];exact ⟨Nat.le_refl _,h1,by first | trivial | rfl,fun h=>by omega⟩
 | n+1,k,g,h1,h2=>by
   simp only [thrF]
   split
   ·rename_i hk
    split
    ·rename_i hs;exact ⟨Nat.le_refl _,h1,by first | trivial | rfl,fun _=>hs⟩
    ·have hu:=Z1H h (g:=g) hk
     have:=Zcp h n (nxtF g (xs.getD k inZ) k) (givF g (xs.getD k inZ)) (by omega) (by omega)
     rw [Zco] at this
     exact ⟨by omega,this.2.1,this.2.2.1,this.2.2.2⟩
   ·exact ⟨Nat.le_refl _,h1,by first | trivial | rfl,fun h=>by omega⟩
theorem Z8X {xs:List In} (h:CodeOk xs) (k:Nat) (g:List Int) (hk:k≤xs.length):k≤(thrT xs k g).1∧(thrT xs k g).1≤xs.length∧(thrT xs k g).2.length=g.length∧((thrT xs k g).1 < xs.length→stpB (xs.getD (thrT xs k g).1 inZ)=true):=Zcp h 8 k g hk (by have:=h.l8;omega)
def redF (g:List Int) (i:In) (old:Int):List Int:=if rdB i=true then g.set i.dst.toNat (getF old 0 i.sz) else g
theorem Z5j (g:List Int) (i:In) (old:Int):(redF g i old).length=g.length:=by unfold redF;split <;> simp
def Z44 (xs:List In) (k:Nat) (g:List Int) (old:Int):Nat×List Int:=thrT xs (k+1) (redF g (xs.getD k inZ) old)
def lclF (xs:List In):Nat→Nat→List Int→List Int→Option (List Int)
 | 0,k,g,rd=>some g
 | n+1,k,g,rd=>if k < xs.length then
     (if rdB (xs.getD k inZ)=true then (match rd with
      | []=>none
      | v::r=>lclF xs n (k+1) (redF g (xs.getD k inZ) v) r)
     else lclF xs n (nxtF g (xs.getD k inZ) k) (givF g (xs.getD k inZ)) rd) else some g
theorem Z4N {xs:List In} (h:CodeOk xs):∀ (n m k:Nat) (g rd:List Int),xs.length≤n+k→xs.length≤m+k→lclF xs n k g rd=lclF xs m k g rd
 | 0,0,k,g,rd,_,_=>rfl
 | 0,m+1,k,g,rd,h1,h2=>by simp only [lclF];rw [if_neg (by omega)]
 | n+1,0,k,g,rd,h1,h2=>by simp only [lclF];rw [if_neg (by omega)]
 | n+1,m+1,k,g,rd,h1,h2=>by
   simp only [lclF]
   split
   ·rename_i hk
    split
    ·cases rd with
     | nil=>rfl
     | cons v r=>exact Z4N h n m _ _ _ (by omega) (by omega)
    ·have:=Z1H h (g:=g) hk
     exact Z4N h n m _ _ _ (by omega) (by omega)
   ·rfl
def lclT (xs:List In) (k:Nat) (g rd:List Int):Option (List Int):=lclF xs 8 k g rd
theorem Zbt {xs:List In} (h:CodeOk xs) {k:Nat} {g rd:List Int} (hk:xs.length≤k):lclT xs k g rd=some g:=by unfold lclT lclF;rw [if_neg (by omega)]
theorem Z2c {xs:List In} (h:CodeOk xs) {k:Nat} {g rd:List Int} (hk:k < xs.length) (hr:rdB (xs.getD k inZ)=false):lclT xs k g rd=lclT xs (nxtF g (xs.getD k inZ) k) (givF g (xs.getD k inZ)) rd:=by
 have:=h.l8
 have hu:=Z1H h (g:=g) hk
 unfold lclT
 rw [show lclF xs 8 k g rd=lclF xs 7 (nxtF g (xs.getD k inZ) k) (givF g (xs.getD k inZ)) rd by
  rw [show (8:Nat)=7+1 from rfl];simp only [lclF];rw [if_pos hk,if_neg (by rw [hr];decide)]]
 exact Z4N h _ _ _ _ _ (by omega) (by omega)
theorem Z6m {xs:List In} {k:Nat} {g:List Int} (hk:k < xs.length) (hr:rdB (xs.getD k inZ)=true):lclT xs k g []=none:=by
 unfold lclT lclF;rw [if_pos hk,if_pos hr]
theorem Z6n {xs:List In} (h:CodeOk xs) {k:Nat} {g:List Int} {v:Int} {r:List Int} (hk:k < xs.length) (hr:rdB (xs.getD k inZ)=true):lclT xs k g (v::r)=lclT xs (k+1) (redF g (xs.getD k inZ) v) r:=by
 have:=h.l8
 unfold lclT
 rw [show lclF xs 8 k g (v::r)=lclF xs 7 (k+1) (redF g (xs.getD k inZ) v) r by
  rw [show (8:Nat)=7+1 from rfl];simp only [lclF];rw [if_pos hk,if_pos hr]]
 exact Z4N h _ _ _ _ _ (by omega) (by omega)
theorem Zhg {i:In} (h:stpB i=false):rdB i=false:=by
 unfold stpB memB at h;unfold rdB
 simp only [Bool.or_eq_false_iff] at h
 exact Bool.or_eq_false_iff.2 ⟨h.1.1.1.1,h.1.1.1.2⟩
theorem Zcq {xs:List In} (h:CodeOk xs):∀ (n k:Nat) (g rd:List Int),k≤xs.length→xs.length≤n+k→lclT xs (thrF xs n k g).1 (thrF xs n k g).2 rd=lclT xs k g rd
 | 0,k,g,rd,_,_=>rfl
 | n+1,k,g,rd,h1,h2=>by
   simp only [thrF]
   split
   ·rename_i hk
    split
    ·rfl
    ·rename_i hs
     have hu:=Z1H h (g:=g) hk
     have hs:stpB (xs.getD k inZ)=false:=by simpa using hs
     rw [Zcq h n _ _ rd (by omega) (by omega),← Z2c h hk (Zhg hs)]
   ·rfl
theorem Z7r {xs:List In} (h:CodeOk xs) {k:Nat} {g rd:List Int} (hk:k≤xs.length):lclT xs (thrT xs k g).1 (thrT xs k g).2 rd=lclT xs k g rd:=Zcq h 8 k g rd hk (by have:=h.l8;omega)
theorem Zgk {g:List Int} {i:In} (h:stpB i=true):givF g i=g:=by
 unfold stpB memB at h;unfold givF
 simp only [Bool.or_eq_true,decide_eq_true_eq] at h
 rw [if_neg (by omega),if_neg (by omega),if_neg (by omega)]
theorem Zgl {g:List Int} {i:In} {k:Nat} (h:stpB i=true):nxtF g i k=k+1:=by
 unfold stpB memB at h;unfold nxtF jmpB
 simp only [Bool.or_eq_true,decide_eq_true_eq] at h
 rw [if_neg]
 simp only [Bool.and_eq_true,decide_eq_true_eq]
 omega
theorem Zgm {xs:List In} (h:CodeOk xs) {k:Nat} {g rd out:List Int} (hk:k < xs.length) (hs:stpB (xs.getD k inZ)=true) (hl:lclT xs k g rd=some out) :
 (rdB (xs.getD k inZ)=true→∃ v r,rd=v::r∧lclT xs (Z44 xs k g v).1 (Z44 xs k g v).2 r=some out)∧(rdB (xs.getD k inZ)=false→∀ v,lclT xs (Z44 xs k g v).1 (Z44 xs k g v).2 rd=some out):=by
 refine ⟨fun hr=>?_,fun hr v=>?_⟩
 ·cases rd with
  | nil=>rw [Z6m hk hr] at hl;cases hl
  | cons v r=>
    refine ⟨v,r,rfl,?_⟩
    rw [Z6n h hk hr] at hl
    unfold Z44
    rw [Z7r h (by omega)];exact hl
 ·rw [Z2c h hk hr,Zgl hs,Zgk hs] at hl
  unfold Z44
  rw [Z7r h (by omega)]
  unfold redF
  rw [if_neg (by rw [hr];decide)];exact hl
theorem UOk.code {rs:List IRow} (h:UOk rs) {t:Nat} (ht:t < rs.length):CodeOk (rs.getD t ir0).xs:=by
 have hk:∀ k,k < (rs.getD t ir0).xs.length→Zr ((rs.getD t ir0).xs.getD k inZ)=true∧toX ((rs.getD t ir0).xs.getD k inZ) k (rs.getD t ir0).xs.length=false:=fun k hk=>by
  have:=h.ok t ht k hk
  unfold wrI rgtF at this
  split at this
  ·rename_i h1
   refine ⟨h1,?_⟩
   split at this
   ·cases this
   ·rename_i h2;simpa using h2
  ·cases this
 refine ⟨h.sh t ht,fun k h1=>(hk k h1).1,fun k h1 h2=>?_⟩
 have:=(hk k h1).2
 unfold toX at this
 rw [h2] at this
 simp only [decide_true,Bool.true_and,Bool.or_eq_false_iff,decide_eq_false_iff_not] at this
 omega
theorem ZeR (fn a b:Int):CtrV Tryz.prog 63 [.i .i64 fn,.i .i64 a,.i .i64 b] (.i .i64 (aluF fn a b)):=by
 refine Z8 Z5 (fn:=Tryz.f63) Z Z Z Z Z Z ?_
 refine ⟨fun h=>?_,fun h=>?_⟩
 ·have h:decide (fn=1)=true:=h
  exact i_cg (by unfold aluF;rw [if_pos (of_decide_eq_true h)])
 have h1:decide (fn=1)=false:=h
 have h1:=of_decide_eq_false h1
 refine ⟨fun h=>?_,fun h=>?_⟩
 ·have h:decide (fn=2)=true:=h
  exact i_cg (by unfold aluF;rw [if_neg h1,if_pos (of_decide_eq_true h)])
 have h2:decide (fn=2)=false:=h
 have h2:=of_decide_eq_false h2
 refine ⟨fun h=>?_,fun h=>?_⟩
 ·have h:decide (fn=3)=true:=h
  exact i_cg (by unfold aluF;rw [if_neg h1,if_neg h2,if_pos (of_decide_eq_true h)])
 have h3:decide (fn=3)=false:=h
 have h3:=of_decide_eq_false h3
 refine ⟨fun h=>?_,fun h=>?_⟩
 ·have h:decide (fn=4)=true:=h
  exact i_cg (by unfold aluF;rw [if_neg h1,if_neg h2,if_neg h3,if_pos (of_decide_eq_true h)])
 have h4:decide (fn=4)=false:=h
 have h4:=of_decide_eq_false h4
 refine ⟨fun h=>?_,fun h=>?_⟩
 ·have h:decide (fn=5)=true:=h
  exact i_cg (by unfold aluF;rw [if_neg h1,if_neg h2,if_neg h3,if_neg h4,if_pos (of_decide_eq_true h)])
 have h5:decide (fn=5)=false:=h
 have h5:=of_decide_eq_false h5
 exact i_cg (by unfold aluF;rw [if_neg h1,if_neg h2,if_neg h3,if_neg h4,if_neg h5])
theorem Zhh (v:Int):CtrV Tryz.prog 110 [.i .i64 v,.i .i64 8] (.i .i64 v):=by
 refine Z8 Z5 (fn:=Tryz.f110) Z Z Z Z Z Z ?_
 exact ⟨fun _=>rfl,fun h=>Zv h⟩
theorem Z34 (v:Int):CtrV Tryz.prog 110 [.i .i64 v,.i .i64 1] (.i .i64 (bits .and .i64 v 255)):=by
 refine Z8 Z5 (fn:=Tryz.f110) Z Z Z Z Z Z ?_
 refine ⟨fun h=>Z3 h,fun _=>?_⟩
 refine ⟨fun _=>by decide,?_⟩
 exact rfl
theorem Z6T (v:Int):CtrV Tryz.prog 110 [.i .i64 v,.i .i64 2] (.i .i64 (bits .and .i64 v 65535)):=by
 refine Z8 Z5 (fn:=Tryz.f110) Z Z Z Z Z Z ?_
 refine ⟨fun h=>Z3 h,fun _=>?_⟩
 refine ⟨fun _=>by decide,?_⟩
 exact rfl
theorem Zcr (v:Int):CtrV Tryz.prog 110 [.i .i64 v,.i .i64 4] (.i .i64 (bits .and .i64 v 4294967295)):=by
 refine Z8 Z5 (fn:=Tryz.f110) Z Z Z Z Z Z ?_
 refine ⟨fun h=>Z3 h,fun _=>?_⟩
 refine ⟨fun _=>by decide,?_⟩
 exact rfl
theorem ZeS (v:Int):IntKind.u64.wrap v=(u64 v:Int):=by
 have e:IntKind.u64.wrap v=v % 18446744073709551616:=rfl
 rw [e];unfold u64;omega
theorem Zgn (a b:Nat):((a:Int).fdiv (b:Int))=((a / b:Nat):Int):=by
 rw [Int.fdiv_eq_ediv_of_nonneg _ (Int.natCast_nonneg _)];rfl
theorem Z1M (v:Int) (off n:Nat) (hn:n < 8):bits .and .i64 (IntKind.i64.wrap ((IntKind.u64.wrap v).fdiv (2 ^ (8 * off)))) ((2 ^ (8 * n) - 1:Nat):Int)=IntKind.i64.wrap (gN (u64 v) off n:Int):=by
 have hp:2 ^ (8 * n)≤72057594037927936:=Zg9 hn
 have h1:0 < 2 ^ (8 * n):=Nat.two_pow_pos _
 have hz:((2:Int) ^ (8 * off))=((2 ^ (8 * off):Nat):Int):=by simp
 rw [Zbp,Zbo,ZeS,hz,Zgn,Zcl (Nat.lt_of_le_of_lt (Nat.div_le_self _ _) (ZeI v)),Zcl (show 2 ^ (8 * n) - 1 < 18446744073709551616 by omega),Nat.and_two_pow_sub_one_eq_mod]
 rfl
theorem Zhi (v:Int):IntKind.i64.wrap ((IntKind.u64.wrap v).fdiv 1)=IntKind.i64.wrap (gN (u64 v) 0 8:Int):=by
 have h:=ZeI v
 have e:gN (u64 v) 0 8=u64 v:=by
  unfold gN
  rw [show 2 ^ (8 * 0)=1 by decide,Nat.div_one,Nat.mod_eq_of_lt (Nat.lt_of_lt_of_le h (by decide))]
 rw [ZeS,e]
 congr 1
 exact Int.fdiv_one _
theorem get_no (v off n:Int) (h:mskX off n=true):CtrV Tryz.prog 55 [.i .i64 v,.i .i64 off,.i .i64 n] (.i .i64 0):=by
 refine Z8 Z5 (fn:=Tryz.f55) Z Z Z Z Z Z ?_
 refine Z4 Z Z Z Z Z Z Z (fun _=>Zck h) ?_
 exact ⟨fun _=>rfl,fun h=>Zv h⟩
theorem Zhj (v:Int):CtrV Tryz.prog 55 [.i .i64 v,.i .i64 0,.i .i64 1] (.i .i64 (IntKind.i64.wrap (gN (u64 v) 0 1:Int))):=by
 refine Z8 Z5 (fn:=Tryz.f55) Z Z Z Z Z Z ?_
 refine Z4 Z Z Z Z Z Z Z (fun _=>ZX 0 1) ?_
 refine ⟨fun h=>absurd h (by decide +kernel),fun _=>?_⟩
 refine ⟨fun _=>by decide,?_⟩
 refine Z4 Z Z Z Z Z Z Z (fun _=>Z34 _) ?_
 exact i_cg (Z1M v 0 1 (by decide))
theorem Zhk (v:Int):CtrV Tryz.prog 55 [.i .i64 v,.i .i64 1,.i .i64 1] (.i .i64 (IntKind.i64.wrap (gN (u64 v) 1 1:Int))):=by
 refine Z8 Z5 (fn:=Tryz.f55) Z Z Z Z Z Z ?_
 refine Z4 Z Z Z Z Z Z Z (fun _=>ZX 1 1) ?_
 refine ⟨fun h=>absurd h (by decide +kernel),fun _=>?_⟩
 refine ⟨fun _=>by decide,?_⟩
 refine Z4 Z Z Z Z Z Z Z (fun _=>Z34 _) ?_
 exact i_cg (Z1M v 1 1 (by decide))
theorem Zhl (v:Int):CtrV Tryz.prog 55 [.i .i64 v,.i .i64 2,.i .i64 1] (.i .i64 (IntKind.i64.wrap (gN (u64 v) 2 1:Int))):=by
 refine Z8 Z5 (fn:=Tryz.f55) Z Z Z Z Z Z ?_
 refine Z4 Z Z Z Z Z Z Z (fun _=>ZX 2 1) ?_
 refine ⟨fun h=>absurd h (by decide +kernel),fun _=>?_⟩
 refine ⟨fun _=>by decide,?_⟩
 refine Z4 Z Z Z Z Z Z Z (fun _=>Z34 _) ?_
 exact i_cg (Z1M v 2 1 (by decide))
theorem Zhm (v:Int):CtrV Tryz.prog 55 [.i .i64 v,.i .i64 3,.i .i64 1] (.i .i64 (IntKind.i64.wrap (gN (u64 v) 3 1:Int))):=by
 refine Z8 Z5 (fn:=Tryz.f55) Z Z Z Z Z Z ?_
 refine Z4 Z Z Z Z Z Z Z (fun _=>ZX 3 1) ?_
 refine ⟨fun h=>absurd h (by decide +kernel),fun _=>?_⟩
 refine ⟨fun _=>by decide,?_⟩
 refine Z4 Z Z Z Z Z Z Z (fun _=>Z34 _) ?_
 exact i_cg (Z1M v 3 1 (by decide))
theorem Zhn (v:Int):CtrV Tryz.prog 55 [.i .i64 v,.i .i64 4,.i .i64 1] (.i .i64 (IntKind.i64.wrap (gN (u64 v) 4 1:Int))):=by
 refine Z8 Z5 (fn:=Tryz.f55) Z Z Z Z Z Z ?_
 refine Z4 Z Z Z Z Z Z Z (fun _=>ZX 4 1) ?_
 refine ⟨fun h=>absurd h (by decide +kernel),fun _=>?_⟩
 refine ⟨fun _=>by decide,?_⟩
 refine Z4 Z Z Z Z Z Z Z (fun _=>Z34 _) ?_
 exact i_cg (Z1M v 4 1 (by decide))
theorem Zho (v:Int):CtrV Tryz.prog 55 [.i .i64 v,.i .i64 5,.i .i64 1] (.i .i64 (IntKind.i64.wrap (gN (u64 v) 5 1:Int))):=by
 refine Z8 Z5 (fn:=Tryz.f55) Z Z Z Z Z Z ?_
 refine Z4 Z Z Z Z Z Z Z (fun _=>ZX 5 1) ?_
 refine ⟨fun h=>absurd h (by decide +kernel),fun _=>?_⟩
 refine ⟨fun _=>by decide,?_⟩
 refine Z4 Z Z Z Z Z Z Z (fun _=>Z34 _) ?_
 exact i_cg (Z1M v 5 1 (by decide))
theorem Zhp (v:Int):CtrV Tryz.prog 55 [.i .i64 v,.i .i64 6,.i .i64 1] (.i .i64 (IntKind.i64.wrap (gN (u64 v) 6 1:Int))):=by
 refine Z8 Z5 (fn:=Tryz.f55) Z Z Z Z Z Z ?_
 refine Z4 Z Z Z Z Z Z Z (fun _=>ZX 6 1) ?_
 refine ⟨fun h=>absurd h (by decide +kernel),fun _=>?_⟩
 refine ⟨fun _=>by decide,?_⟩
 refine Z4 Z Z Z Z Z Z Z (fun _=>Z34 _) ?_
 exact i_cg (Z1M v 6 1 (by decide))
theorem Zhq (v:Int):CtrV Tryz.prog 55 [.i .i64 v,.i .i64 7,.i .i64 1] (.i .i64 (IntKind.i64.wrap (gN (u64 v) 7 1:Int))):=by
 refine Z8 Z5 (fn:=Tryz.f55) Z Z Z Z Z Z ?_
 refine Z4 Z Z Z Z Z Z Z (fun _=>ZX 7 1) ?_
 refine ⟨fun h=>absurd h (by decide +kernel),fun _=>?_⟩
 refine ⟨fun _=>by decide,?_⟩
 refine Z4 Z Z Z Z Z Z Z (fun _=>Z34 _) ?_
 exact i_cg (Z1M v 7 1 (by decide))
theorem Zhr (v:Int):CtrV Tryz.prog 55 [.i .i64 v,.i .i64 0,.i .i64 2] (.i .i64 (IntKind.i64.wrap (gN (u64 v) 0 2:Int))):=by
 refine Z8 Z5 (fn:=Tryz.f55) Z Z Z Z Z Z ?_
 refine Z4 Z Z Z Z Z Z Z (fun _=>ZX 0 2) ?_
 refine ⟨fun h=>absurd h (by decide +kernel),fun _=>?_⟩
 refine ⟨fun _=>by decide,?_⟩
 refine Z4 Z Z Z Z Z Z Z (fun _=>Z6T _) ?_
 exact i_cg (Z1M v 0 2 (by decide))
theorem Zhs (v:Int):CtrV Tryz.prog 55 [.i .i64 v,.i .i64 2,.i .i64 2] (.i .i64 (IntKind.i64.wrap (gN (u64 v) 2 2:Int))):=by
 refine Z8 Z5 (fn:=Tryz.f55) Z Z Z Z Z Z ?_
 refine Z4 Z Z Z Z Z Z Z (fun _=>ZX 2 2) ?_
 refine ⟨fun h=>absurd h (by decide +kernel),fun _=>?_⟩
 refine ⟨fun _=>by decide,?_⟩
 refine Z4 Z Z Z Z Z Z Z (fun _=>Z6T _) ?_
 exact i_cg (Z1M v 2 2 (by decide))
theorem Zht (v:Int):CtrV Tryz.prog 55 [.i .i64 v,.i .i64 4,.i .i64 2] (.i .i64 (IntKind.i64.wrap (gN (u64 v) 4 2:Int))):=by
 refine Z8 Z5 (fn:=Tryz.f55) Z Z Z Z Z Z ?_
 refine Z4 Z Z Z Z Z Z Z (fun _=>ZX 4 2) ?_
 refine ⟨fun h=>absurd h (by decide +kernel),fun _=>?_⟩
 refine ⟨fun _=>by decide,?_⟩
 refine Z4 Z Z Z Z Z Z Z (fun _=>Z6T _) ?_
 exact i_cg (Z1M v 4 2 (by decide))
theorem Zhu (v:Int):CtrV Tryz.prog 55 [.i .i64 v,.i .i64 6,.i .i64 2] (.i .i64 (IntKind.i64.wrap (gN (u64 v) 6 2:Int))):=by
 refine Z8 Z5 (fn:=Tryz.f55) Z Z Z Z Z Z ?_
 refine Z4 Z Z Z Z Z Z Z (fun _=>ZX 6 2) ?_
 refine ⟨fun h=>absurd h (by decide +kernel),fun _=>?_⟩
 refine ⟨fun _=>by decide,?_⟩
 refine Z4 Z Z Z Z Z Z Z (fun _=>Z6T _) ?_
 exact i_cg (Z1M v 6 2 (by decide))
theorem Zhv (v:Int):CtrV Tryz.prog 55 [.i .i64 v,.i .i64 0,.i .i64 4] (.i .i64 (IntKind.i64.wrap (gN (u64 v) 0 4:Int))):=by
 refine Z8 Z5 (fn:=Tryz.f55) Z Z Z Z Z Z ?_
 refine Z4 Z Z Z Z Z Z Z (fun _=>ZX 0 4) ?_
 refine ⟨fun h=>absurd h (by decide +kernel),fun _=>?_⟩
 refine ⟨fun _=>by decide,?_⟩
 refine Z4 Z Z Z Z Z Z Z (fun _=>Zcr _) ?_
 exact i_cg (Z1M v 0 4 (by decide))
theorem Zhw (v:Int):CtrV Tryz.prog 55 [.i .i64 v,.i .i64 4,.i .i64 4] (.i .i64 (IntKind.i64.wrap (gN (u64 v) 4 4:Int))):=by
 refine Z8 Z5 (fn:=Tryz.f55) Z Z Z Z Z Z ?_
 refine Z4 Z Z Z Z Z Z Z (fun _=>ZX 4 4) ?_
 refine ⟨fun h=>absurd h (by decide +kernel),fun _=>?_⟩
 refine ⟨fun _=>by decide,?_⟩
 refine Z4 Z Z Z Z Z Z Z (fun _=>Zcr _) ?_
 exact i_cg (Z1M v 4 4 (by decide))
theorem Zhx (v:Int):CtrV Tryz.prog 55 [.i .i64 v,.i .i64 0,.i .i64 8] (.i .i64 (IntKind.i64.wrap (gN (u64 v) 0 8:Int))):=by
 refine Z8 Z5 (fn:=Tryz.f55) Z Z Z Z Z Z ?_
 refine Z4 Z Z Z Z Z Z Z (fun _=>ZX 0 8) ?_
 refine ⟨fun h=>absurd h (by decide +kernel),fun _=>?_⟩
 refine ⟨fun _=>by decide,?_⟩
 refine Z4 Z Z Z Z Z Z Z (fun _=>Zhh _) ?_
 exact i_cg (Zhi v)
theorem Z5k (v off n:Int):CtrV Tryz.prog 55 [.i .i64 v,.i .i64 off,.i .i64 n] (.i .i64 (getF v off n)):=by
 unfold getF
 cases h:mskX off n with
 | true=>exact get_no v off n h
 | false=>
   rcases Z4J h with ⟨rfl,rfl | rfl | rfl | rfl | rfl | rfl | rfl | rfl⟩ | ⟨rfl,rfl | rfl | rfl | rfl⟩ | ⟨rfl,rfl | rfl⟩ | ⟨rfl,rfl⟩
   ·exact Zhj v
   ·exact Zhk v
   ·exact Zhl v
   ·exact Zhm v
   ·exact Zhn v
   ·exact Zho v
   ·exact Zhp v
   ·exact Zhq v
   ·exact Zhr v
   ·exact Zhs v
   ·exact Zht v
   ·exact Zhu v
   ·exact Zhv v
   ·exact Zhw v
   ·exact Zhx v
def plcF (off ix n:Int):Int:=if szB n=true then ((u64 (off+ix) % 8 - u64 (off+ix) % 8 % n.toNat:Nat):Int) else -1
theorem and7 (x:Int):bits .and .i64 (IntKind.i64.wrap x) 7=((u64 x % 8:Nat):Int):=by
 rw [Zbp,Zbo,show u64 7=2 ^ 3 - 1 by decide,Nat.and_two_pow_sub_one_eq_mod,Zg8 (Nat.lt_of_lt_of_le (Nat.mod_lt _ (by decide)) (by decide))]
theorem ZeT {n:Int} (h:szB n=true):n=1∨n=2∨n=4∨n=8:=by
 unfold szB at h
 simp only [Bool.or_eq_true,decide_eq_true_eq] at h
 omega
theorem Z7s (off ix n:Int):CtrV Tryz.prog 62 [.i .i64 off,.i .i64 ix,.i .i64 n] (.i .i64 (plcF off ix n)):=by
 refine Z8 Z5 (fn:=Tryz.f62) Z Z Z Z Z Z ?_
 refine Z4 Z Z Z Z Z Z Z (fun _=>Z7p n) ?_
 unfold plcF
 refine ⟨fun h=>?_,fun h=>?_⟩
 ·have h:(!szB n)=true:=h
  have h:szB n=false:=by simpa using h
  exact i_cg (by rw [if_neg (by rw [h];decide)])
 ·have h:(!szB n)=false:=h
  have h:szB n=true:=by simpa using h
  refine i_cg ?_
  show bits .andNot .i64 (bits .and .i64 (IntKind.i64.wrap (off+ix)) 7) (IntKind.i64.wrap (n - 1))=_
  rw [and7,if_pos h]
  have h8:u64 (off+ix) % 8 < 8:=Nat.mod_lt _ (by decide)
  generalize u64 (off+ix) % 8=p at *
  have hp:p=0∨p=1∨p=2∨p=3∨p=4∨p=5∨p=6∨p=7:=by omega
  rcases ZeT h with rfl | rfl | rfl | rfl <;> rcases hp with rfl | rfl | rfl | rfl | rfl | rfl | rfl | rfl <;> decide +kernel
structure Thr where
 r:IRow
 k:Nat
 g:List Int
def thr0:Thr:=⟨ir0,0,tz8⟩
abbrev tg (ts:List Thr) (i:Nat):Thr:=ts.getD i thr0
abbrev tI (t:Thr):In:=t.r.xs.getD t.k inZ
def Z25 (t:Thr):List SV:=[.imm In inZ 17 ienc t.r.xs t.r.a t.r.cap,.i .i64 t.k,.ints .i64 8 t.g]
theorem th_w (t:Thr):wdL (Z25 t)=10:=rfl
theorem Z8s {N:Nat} (t:Thr):BndL N (Z25 t):=⟨rfl,rfl,rfl,trivial⟩
def Z1w (v n:Nat) (ts:List Thr):List SB:=[.mem 106 [.sl 1 v 0 n none 0] 1 0,.mem 109 [.arr n Thr thr0 10 Z25 ts] v 10]
def opsK (b:Bool):Nat→Int
 | 0=>0
 | _+1=>bif b then 1 else 0
theorem Zcs (i:In):Ctr Tryz.prog 88 [.sl 0 1 0 1 (some 1) 0] [.mem 56 (ienc i) 1 0] (fun r H=>r=.i .i64 (opsK (memB i) 1)∧H=[.mem 56 (ienc i) 1 0]):=by
 refine Ze Z5 (fn:=Tryz.f88) Z Z Z Z Z Z ⟨⟨rfl,rfl,rfl,rfl,rfl,rfl,rfl,rfl,rfl,rfl,rfl,rfl,rfl,rfl,rfl,rfl,rfl,trivial⟩,trivial⟩ ?_
 refine WpC.loop Z5 (β:=Nat) (fun k=>k≤1) (fun k=>[(8,.i .i64 k),(3,.i .i64 (opsK (memB i) k))]) (fun _=>[.mem 56 (ienc i) 1 0]) (fun k=>1 - k) 0 2096936 (Nat.zero_le _) ?_ ?_
 ·exact ⟨rfl,⟨⟨rfl,rfl,rfl⟩,⟨rfl,rfl,rfl⟩,trivial⟩,⟨[],rfl⟩,⟨⟨rfl,rfl,rfl,rfl,rfl,rfl,rfl,rfl,rfl,rfl,rfl,rfl,rfl,rfl,rfl,rfl,rfl,trivial⟩,trivial⟩,rfl⟩
 ·intro k hk
  rcases (show k=0∨k=1 by omega) with rfl | rfl
  ·refine ⟨fun _=>?_,fun h=>Zv h⟩
   refine ⟨fun _=>by decide,?_⟩
   refine Z4 Z Z Z Z Z Z Z (fun _=>ZH i) ?_
   refine Z4 Z Z Z Z Z Z Z (fun _=>ZG i) ?_
   refine ⟨fun h3=>?_,fun h3=>?_⟩
   ·have h3:memB i=true:=h3
    refine ⟨1,Nat.le_refl _,by decide,rfl,⟨⟨rfl,rfl,rfl⟩,⟨?_,rfl,rfl⟩,trivial⟩,⟨_,rfl⟩,⟨⟨rfl,rfl,rfl,rfl,rfl,rfl,rfl,rfl,rfl,rfl,rfl,rfl,rfl,rfl,rfl,rfl,rfl,trivial⟩,trivial⟩,rfl⟩
    exact i_cg (by rw [h3];rfl)
   ·have h3:memB i=false:=h3
    refine ⟨1,Nat.le_refl _,by decide,rfl,⟨⟨rfl,rfl,rfl⟩,⟨?_,rfl,rfl⟩,trivial⟩,⟨_,rfl⟩,⟨⟨rfl,rfl,rfl,rfl,rfl,rfl,rfl,rfl,rfl,rfl,rfl,rfl,rfl,rfl,rfl,rfl,rfl,trivial⟩,trivial⟩,rfl⟩
    exact i_cg (by rw [h3];rfl)
  ·refine ⟨fun h=>Z3 h,fun _=>?_⟩
   refine ⟨rfl,_,rfl⟩
def plnF (i:In):In:=if i.op=9 then { i with to:=1 } else i
theorem Zbu (i:In):CtrV Tryz.prog 105 [.agg (ienc i)] (.agg (ienc (plnF i))):=by
 refine Z8 Z5 (fn:=Tryz.f105) Z Z Z Z Z (by unfold plnF;split <;> rfl) ?_
 unfold plnF
 refine ⟨fun h=>?_,fun h=>?_⟩
 ·have h:decide (i.op=9)=true:=h
  rw [if_pos (of_decide_eq_true h)]
  exact rfl
 ·have h:decide (i.op=9)=false:=h
  rw [if_neg (of_decide_eq_false h)]
  exact rfl
theorem Zd {P:Prop} {b:Bool} (h:b=true) (h':b=false):P:=by rw [h] at h';cases h'
def gvsB (i:In):Bool:=(((decide (i.op=1)||decide (i.op=2))||decide (i.op=3))||decide (i.op=4))||decide (i.op=6)
theorem Z19 (i:In):CtrV Tryz.prog 65 [.agg (ienc i)] (.i .i64 (if gvsB i=true then i.dst else -1)):=by
 refine Z8 Z5 (fn:=Tryz.f65) Z Z Z Z Z Z ?_
 unfold gvsB
 refine ⟨fun h=>?_,fun h=>?_⟩
 ·have h:decide (i.op=1)=true:=h
  refine ⟨fun _=>i_cg ?_,fun h'=>Zd h h'⟩
  rw [h];simp
 have h1:decide (i.op=1)=false:=h
 refine ⟨fun h=>?_,fun h=>?_⟩
 ·have h:decide (i.op=2)=true:=h
  refine ⟨fun _=>i_cg ?_,fun h'=>Zd h h'⟩
  rw [h];simp
 have h2:decide (i.op=2)=false:=h
 refine ⟨fun h=>?_,fun h=>?_⟩
 ·have h:decide (i.op=3)=true:=h
  refine ⟨fun _=>i_cg ?_,fun h'=>Zd h h'⟩
  rw [h];simp
 have h3:decide (i.op=3)=false:=h
 refine ⟨fun h=>?_,fun h=>?_⟩
 ·have h:decide (i.op=4)=true:=h
  refine ⟨fun _=>i_cg ?_,fun h'=>Zd h h'⟩
  rw [h];simp
 have h4:decide (i.op=4)=false:=h
 have e:(((((decide (i.op=1)||decide (i.op=2))||decide (i.op=3))||decide (i.op=4))||decide (i.op=6)))=decide (i.op=6):=by rw [h1,h2,h3,h4];rfl
 rw [e]
 refine ⟨fun h=>?_,fun h=>?_⟩
 ·have h:decide (i.op=6)=true:=h
  exact i_cg (by rw [h];rfl)
 ·have h:decide (i.op=6)=false:=h
  exact i_cg (by rw [h];rfl)
theorem Z4w {v n:Nat} {ts:List Thr} (hv:v≠0):BndH 2 (Z1w v n ts):=⟨⟨rfl,trivial⟩,⟨fun _=>rfl,trivial⟩,trivial⟩
theorem Z4O (v n:Nat) (ts:List Thr) (k:Nat) (hk:k < n) (hv:v≠0):Ctr Tryz.prog 54 [.ptr 0 1 0 [],.i .i64 k] (Z1w v n ts) (fun r H=>r=.ptr 1 v 0 [⟨false,k,10,0⟩]∧H=Z1w v n ts):=by
 refine Ze Zi (fn:=Tryz.f54) Z Z Z Z Z Z (Z4w hv) ?_
 refine ⟨fun h=>?_,fun h=>?_⟩
 ·have h:(decide ((k:Int) < 0)||decide ((n:Int)≤(k:Int)))=true:=h
  simp only [Bool.or_eq_true,decide_eq_true_eq] at h
  omega
 ·refine ⟨fun _=>?_,?_⟩
  ·show 0=0 * 10∧0≤(k:Int)∧(k:Int) < (n:Int)
   omega
  refine ⟨?_,_,rfl⟩
  show SV.ptr 1 v 0 [⟨false,0+k,10,0⟩]=_
  rw [Nat.zero_add]
theorem at_in (v n:Nat) (ts:List Thr) (k:Nat) (hk:k < n) (hv:v≠0):Ctr Tryz.prog 21 [.ptr 0 1 0 [],.i .i64 k] (Z1w v n ts) (fun r H=>r=.i .i64 (ts.getD k thr0).k∧H=Z1w v n ts):=by
 refine Ze Zi (fn:=Tryz.f21) Z Z Z Z Z Z (Z4w hv) ?_
 refine Z1x Z Z Z Z [0,1] rfl (Z4O v n ts k hk hv) Z Z Z Z ⟨rfl,rfl,trivial⟩ rfl ?_
 refine ⟨fun _=>?_,fun h=>Zv h⟩
 refine ⟨fun _=>⟨rfl,hk⟩,?_⟩
 exact ⟨rfl,_,rfl⟩
def regV (g:List Int) (r:Int):Int:=if (decide (r < 0)||decide (8≤r))=true then 0 else rgG g r
theorem reg_in (v n:Nat) (ts:List Thr) (k:Nat) (r:Int) (hk:k < n) (hv:v≠0):Ctr Tryz.prog 20 [.ptr 0 1 0 [],.i .i64 k,.i .i64 r] (Z1w v n ts) (fun r' H=>r'=.i .i64 (regV (ts.getD k thr0).g r)∧H=Z1w v n ts):=by
 refine Ze Zi (fn:=Tryz.f20) Z Z Z Z Z Z (Z4w hv) ?_
 refine Z1x Z Z Z Z [0,1] rfl (Z4O v n ts k hk hv) Z Z Z Z ⟨rfl,rfl,trivial⟩ rfl ?_
 refine ⟨fun h=>?_,fun h=>?_⟩
 ·have h:(decide (r < 0)||decide (8≤r))=true:=h
  exact ⟨i_cg (by unfold regV;rw [if_pos h]),_,rfl⟩
 ·have h:(decide (r < 0)||decide (8≤r))=false:=h
  have h2:=h
  simp only [Bool.or_eq_false_iff,decide_eq_false_iff_not] at h2
  refine ⟨fun _=>(show 0≤r∧r < 8 by omega),?_⟩
  refine ⟨fun _=>?_,?_⟩
  ·show v=v∧k < n∧r.toNat < 8
   omega
  ·refine ⟨i_cg ?_,_,rfl⟩
   unfold regV;rw [if_neg (by rw [h];decide)]
   rfl
def stdB (t:Thr):Bool:=decide (t.k < t.r.xs.length)
def rdyV (t:Thr):SV:=.tup [.agg (ienc (if stdB t=true then t.r.xs.getD t.k inZ else inZ)),.b (stdB t)]
theorem Zbv (v n:Nat) (ts:List Thr) (k:Nat) (hk:k < n) (hv:v≠0):Ctr Tryz.prog 18 [.ptr 0 1 0 [],.i .i64 k] (Z1w v n ts) (fun r H=>r=rdyV (ts.getD k thr0)∧H=Z1w v n ts):=by
 refine Ze Zi (fn:=Tryz.f18) Z Z Z Z Z Z (Z4w hv) ?_
 refine Z1x Z Z Z Z [0,1] rfl (Z4O v n ts k hk hv) Z Z Z Z ⟨rfl,rfl,trivial⟩ rfl ?_
 refine WpC.dr Zi mixed 0 ?_
 iterate 2 refine ⟨fun _=>⟨rfl,hk⟩,?_⟩
 refine ⟨by kernel_rfl,?_⟩
 refine ⟨fun h=>?_,fun h=>?_⟩
 ·have h:decide (((ts.getD k thr0).r.xs.length:Int)≤((ts.getD k thr0).k:Int))=true:=h
  have h:=of_decide_eq_true h
  have h2:stdB (ts.getD k thr0)=false:=by unfold stdB;exact decide_eq_false (by omega)
  refine ⟨?_,_,rfl⟩
  unfold rdyV;rw [if_neg (by rw [h2];decide),h2];rfl
 ·have h:decide (((ts.getD k thr0).r.xs.length:Int)≤((ts.getD k thr0).k:Int))=false:=h
  have h:=of_decide_eq_false h
  have h2:stdB (ts.getD k thr0)=true:=by unfold stdB;exact decide_eq_true (by omega)
  refine WpC.dr Zi mixed 0 ?_
  iterate 2 refine ⟨fun _=>⟨rfl,hk⟩,?_⟩
  refine ⟨fun _=>?_,?_⟩
  ·show (0:Int)≤((ts.getD k thr0).k:Int)∧((ts.getD k thr0).k:Int) < ((ts.getD k thr0).r.xs.length:Int)
   omega
  refine ⟨by kernel_rfl,?_⟩
  refine ⟨?_,_,rfl⟩
  unfold rdyV;rw [if_pos h2,h2];rfl
end SX
end Go.Proofs.YtdddpbmcoimgdaaGreatDoor
