/- A part of SX: symbolic and concrete runs of the program, with contracts of functions; lemmas without further conditions. Shortened by a tool (mini.py). -/
import Derived.LoopN
import Derived.Shelf.Strconv.Itoa3
import Derived.Lib.ItoaLen
import Derived.Lib.ConvBytes
import Derived.Test.YtdddpbmcoimgdaaGreatDoorJAB
import Derived.Test.YtdddpbmcoimgdaaGreatDoorJAC
import Derived.Test.YtdddpbmcoimgdaaGreatDoorJAD
import Derived.Test.YtdddpbmcoimgdaaGreatDoorJAA
set_option linter.unusedVariables false
set_option linter.unusedSimpArgs false
set_option linter.unusedSectionVars false
set_option maxRecDepth 100000
namespace Go.Proofs.YtdddpbmcoimgdaaGreatDoor
namespace SX
open Go Go.Proofs
section
universe u
mutual
def nd (mk:Nat):SV→Bool
 | .ptr k _ _ _=>!tb mk k
 | .sl k _ _ _ _ _=>!tb mk k
 | .map k=>!tb mk k
 | .arr _ _ _ _ _ _=>false
 | .fn _ caps=>ndL mk caps
 | .iface _ x=>nd mk x
 | .bm _ x=>nd mk x
 | .agg cs=>ndL mk cs
 | .tup vs=>ndL mk vs
 | .grd _ _=>false
 | _=>true
def ndL (mk:Nat):List SV→Bool
 | []=>true
 | x::r=>nd mk x&&ndL mk r
end
def ndB (mk:Nat):SB→Bool
 | .mem _ segs _ _=>ndL mk segs
 | .mp kv _=>kv.all fun p=>nd mk p.1&&nd mk p.2
 | _=>true
def Z3f (mk:Nat):List SB→Nat→List SB
 | [],_=>[]
 | B::r,i=>(bif tb mk i then .fresh else B)::Z3f mk r (i+1)
def ndH (mk:Nat):List SB→Nat→Bool
 | [],_=>true
 | B::r,i=>(tb mk i||ndB mk B)&&ndH mk r (i+1)
section
variable {m:Mem} {V V':List Nat} {mk:Nat} (hV:∀ k v,tb mk k=false→Vle V k v→Vle V' k v)
include hV
mutual
theorem nd_ok:∀ x:SV,nd mk x=true→Ok m V x→Ok m V' x
 | .i _ _,_,_ | .b _,_,_ | .s _,_,_ | .raw _,_,_ | .nils,_,_ | .dead,_,_=>by simp [Ok]
 | .ptr k v _ _,hn,h=>by simp only [nd,Bool.not_eq_true'] at hn;simp only [Ok] at h ⊢;exact ⟨hV k v hn h.1,h.2⟩
 | .sl k v _ _ _ _,hn,h=>by simp only [nd,Bool.not_eq_true'] at hn;simp only [Ok] at h ⊢;exact ⟨hV k v hn h.1,h.2⟩
 | .map k,hn,h=>by simp only [nd,Bool.not_eq_true'] at hn;simp only [Ok] at h ⊢;exact hV k 1 hn h
 | .arr _ _ _ _ _ _,hn,_ | .grd _ _,hn,_=>by simp [nd] at hn
 | .ipt _ _ _ _ _ _ _ _ _,_,h | .imm _ _ _ _ _ _ _,_,h | .ints _ _ _,_,h=>by simpa only [Ok] using h
 | .fn _ caps,hn,h=>by simp only [nd] at hn;simp only [Ok] at h ⊢;exact nd_okA caps hn h
 | .iface _ x,hn,h=>by simp only [nd] at hn;simp only [Ok] at h ⊢;exact ⟨nd_ok x hn h.1,h.2⟩
 | .bm _ x,hn,h=>by simp only [nd] at hn;simp only [Ok] at h ⊢;exact ⟨nd_ok x hn h.1,h.2⟩
 | .agg cs,hn,h=>by simp only [nd] at hn;simp only [Ok] at h ⊢;exact nd_okL cs hn h
 | .tup vs,hn,h=>by simp only [nd] at hn;simp only [Ok] at h ⊢;exact nd_okA vs hn h
theorem nd_okL:∀ l:List SV,ndL mk l=true→OkL m V l→OkL m V' l
 | [],_,_=>by simp [OkL]
 | x::r,hn,h=>by
   simp only [ndL,Bool.and_eq_true] at hn
   simp only [OkL] at h ⊢
   exact ⟨⟨h.1.1,nd_ok x hn.1 h.1.2⟩,nd_okL r hn.2 h.2⟩
theorem nd_okA:∀ l:List SV,ndL mk l=true→OkA m V l→OkA m V' l
 | [],_,_=>by simp [OkA]
 | x::r,hn,h=>by
   simp only [ndL,Bool.and_eq_true] at hn
   simp only [OkA] at h ⊢
   exact ⟨⟨h.1.1,nd_ok x hn.1 h.1.2⟩,nd_okA r hn.2 h.2⟩
end
theorem ZdV {E:Env} {w:World} {k:Nat} {B:SB} (hn:ndB mk B=true) (h:Holds E m V w k B):Holds E m V' w k B:=by
 cases B with
 | mem t segs ver gr=>
   cases gr with
   | zero=>obtain ⟨h0,b,c,h1,h2,h3⟩:=h;exact ⟨h0,b,c,h1,h2,nd_okL hV _ hn h3⟩
   | succ gr=>obtain ⟨h3,h4,h5⟩:=h;exact ⟨nd_okL hV _ hn h3,h4,h5⟩
 | mp kv ver=>
   obtain ⟨h0,b,c,es,clock,h1,h2,h3,h4⟩:=h
   refine ⟨h0,b,c,es,clock,h1,h2,h3,fun p hp=>?_⟩
   have:=List.all_eq_true.1 hn p hp
   simp only [Bool.and_eq_true] at this
   exact ⟨⟨nd_ok hV _ this.1 (h4 p hp).1.1,(h4 p hp).1.2⟩,nd_ok hV _ this.2 (h4 p hp).2.1,(h4 p hp).2.2⟩
 | gone v=>trivial
 | fresh=>trivial
end
theorem Z3J {mk:Nat}:∀ {H:List SB} {i k:Nat},(Z3f mk H i)[k]?=(H[k]?).map fun B=>bif tb mk (i+k) then .fresh else B
 | [],i,k=>by simp [Z3f]
 | B::r,i,0=>by simp [Z3f]
 | B::r,i,k+1=>by simp only [Z3f,List.getElem?_cons_succ,Z3J (H:=r),Nat.add_assoc,Nat.add_comm 1 k]
theorem Zc7 {mk:Nat}:∀ {H:List SB} {i k:Nat} {B:SB},ndH mk H i=true→H[k]?=some B→tb mk (i+k)=false→ndB mk B=true
 | [],i,k,B,_,h,_=>by simp at h
 | C::r,i,0,B,hn,h,ht=>by
   simp at h;subst h
   simp only [ndH,Bool.and_eq_true,Bool.or_eq_true] at hn
   rcases hn.1 with h1 | h1
   ·rw [Nat.add_zero] at ht;rw [ht] at h1;cases h1
   ·exact h1
 | C::r,i,k+1,B,hn,h,ht=>by
   simp only [ndH,Bool.and_eq_true] at hn
   exact Zc7 hn.2 (by simpa using h) (by rw [show i+1+k=i+(k+1) by omega];exact ht)
theorem Vle_free {mk:Nat} {H:List SB} {k v:Nat}:Vle (vers (Z3f mk H 0)) k v ↔ tb mk k=false∧Vle (vers H) k v:=by
 constructor
 ·intro h
  obtain ⟨B,hB,hl⟩:=Vle_iff.1 h
  rw [Z3J,Nat.zero_add] at hB
  cases hk:H[k]? with
  | none=>rw [hk] at hB;simp at hB
  | some B'=>
    rw [hk] at hB
    cases ht:tb mk k with
    | true=>rw [ht] at hB;simp at hB;subst hB;simp [SB.lim] at hl
    | false=>rw [ht] at hB;simp at hB;subst hB;exact ⟨rfl,Vle_iff.2 ⟨_,hk,hl⟩⟩
 ·rintro ⟨ht,h⟩
  obtain ⟨B,hB,hl⟩:=Vle_iff.1 h
  exact Vle_iff.2 ⟨B,by rw [Z3J,Nat.zero_add,hB,ht];rfl,hl⟩
theorem Z5K {mk:Nat} {E:Env} {H:List SB} {k b:Nat} (h:Zk E (Z3f mk H 0) k b):Zk E H k b:=by
 obtain ⟨B,hB,hk⟩:=h
 rw [Z3J,Nat.zero_add] at hB
 cases hH:H[k]? with
 | none=>rw [hH] at hB;simp at hB
 | some B'=>
   rw [hH] at hB
   cases ht:tb mk k with
   | true=>rw [ht] at hB;simp at hB;subst hB;exact hk.elim
   | false=>rw [ht] at hB;simp at hB;subst hB;exact ⟨_,hH,hk⟩
theorem Rel.free {E C m H w} (h:Rel E C m H w) {mk:Nat} (hn:ndH mk H 0=true):Rel E C m (Z3f mk H 0) w:=by
 refine ⟨h.os,h.tape,h.output,h.im,h.fr,h.mf,fun k B hB=>?_,fun k v hv=>h.nn k v (Vle_free.1 hv).2,fun k b hb=>h.sp k b (Z5K hb),fun j k b hj hk=>h.inj j k b (Z5K hj) (Z5K hk)⟩
 rw [Z3J,Nat.zero_add] at hB
 cases hH:H[k]? with
 | none=>rw [hH] at hB;simp at hB
 | some B'=>
   rw [hH] at hB
   cases ht:tb mk k with
   | true=>rw [ht] at hB;simp at hB;subst hB;trivial
   | false=>
     rw [ht] at hB;simp at hB;subst hB
     exact ZdV (fun j v hj hv=>Vle_free.2 ⟨hj,hv⟩) (Zc7 hn hH (by rw [Nat.zero_add];exact ht)) (h.bl k _ hH)
theorem Cp.free {X:List Value→World→(Value→World→Prop)→Prop} (hX:Z2A X) {args:List SV} {H H1:List SB} {r:SV} {mk:Nat} (h:Cp X args H (fun r' h'=>r'=r∧h'=H1))
 (hold:∀ k B,H[k]?=some B→tb mk k=true→B=.fresh) (hn:ndH mk H1 0=true) (hr:nd mk r=true):Cp X args H (fun r' h'=>r'=r∧h'=Z3f mk H1 0):=by
 refine ⟨fun C E m w hr' ha=>hX _ _ _ _ (h.out C E m w hr' ha) ?_⟩
 rintro v w' ⟨_,_,E',m',h1,⟨rfl,rfl⟩,h3,h4,h5⟩
 refine ⟨_,_,E',m',h1,⟨rfl,rfl⟩,⟨nd_ok (fun k v hk hv=>Vle_free.2 ⟨hk,hv⟩) _ hr h3.1,h3.2⟩,⟨h4.mm,fun k v hv=>?_,h4.ee⟩,h5.free hn⟩
 refine Vle_free.2 ⟨?_,h4.vv k v hv⟩
 obtain ⟨B,hB,hl⟩:=Vle_iff.1 hv
 cases ht:tb mk k with
 | false=>rfl
 | true=>have:=hold k B hB ht;subst this;simp [SB.lim] at hl
mutual
def nms (x:SV) (acc:Nat):Nat:=
 match x with
 | .ptr k _ _ _=>Nat.lor acc (Nat.shiftLeft 1 k)
 | .sl k _ _ _ _ _=>Nat.lor acc (Nat.shiftLeft 1 k)
 | .map k=>Nat.lor acc (Nat.shiftLeft 1 k)
 | .fn _ caps=>nmsL caps acc
 | .iface _ x=>nms x acc
 | .bm _ x=>nms x acc
 | .agg cs=>nmsL cs acc
 | .tup vs=>nmsL vs acc
 | _=>acc
def nmsL (l:List SV) (acc:Nat):Nat:=
 match l with
 | []=>acc
 | x::r=>fN (nms x acc) fun acc=>nmsL r acc
end
def nmsB (B:SB) (acc:Nat):Nat:=
 match B with
 | .mem _ segs _ _=>nmsL segs acc
 | .mp kv _=>kv.foldl (fun acc p=>nms p.2 (nms p.1 acc)) acc
 | _=>acc
def ZcU (mk:Nat):List SB→Nat→Nat→Nat
 | [],_,acc=>acc
 | B::r,i,acc=>bif tb mk i then fN (nmsB B acc) fun acc=>ZcU mk r (i+1) acc else ZcU mk r (i+1) acc
def Z6E:Nat→List SB→Nat→Nat
 | 0,_,mk=>mk
 | n+1,H,mk=>fN (ZcU mk H 0 mk) fun mk'=>bif Nat.beq mk' mk then mk else Z6E n H mk'
def Z6F:List SB→Nat→Nat→Nat
 | [],_,acc=>acc
 | B::r,i,acc=>bif isFr B then Z6F r (i+1) acc else fN (Nat.lor acc (Nat.shiftLeft 1 i)) fun acc=>Z6F r (i+1) acc
def andNot (a b:Nat):Nat:=Nat.xor a (Nat.land a b)
def fst1:List SB→Nat→Option Nat
 | [],_=>none
 | B::r,i=>bif isFr B then some i else fst1 r (i+1)
def Z7Z (lo:Nat):List SB→Nat→Option Nat
 | [],_=>none
 | B::r,i=>bif isFr B&&Nat.ble lo i then some i else Z7Z lo r (i+1)
def Z80 (lo:Nat):List SB→Nat→Nat→List Nat
 | [],_,_=>[]
 | B::r,i,0=>[]
 | B::r,i,n+1=>bif isFr B&&Nat.ble lo i then i::Z80 lo r (i+1) n else Z80 lo r (i+1) (n+1)
def maxW:List (Nat×SB)→Nat→Nat
 | [],n=>n
 | p::r,n=>bif Nat.blt p.1 n then maxW r n else fN (p.1+1) fun n=>maxW r n
def cntF:List SB→Nat→Nat
 | [],n=>n
 | B::r,n=>bif isFr B then cntF r (n+1) else cntF r n
def Z81 {α:Sort u} (mk:Nat):List SB→Nat→(List SB→α)→α
 | [],_,K=>K []
 | B::r,i,K=>bif tb mk i then Z81 mk r (i+1) (fun r=>K (.fresh::r)) else Z81 mk r (i+1) (fun r=>K (B::r))
theorem ZaM {α:Sort u} (mk:Nat):∀ (l:List SB) (i:Nat) (K:List SB→α),Z81 mk l i K=K (Z3f mk l i)
 | [],i,K=>rfl
 | B::r,i,K=>by
   cases h:tb mk i <;> simp only [Z81,Z3f,ZaM mk r,h,cond_true,cond_false]
def Z6G (mk:Nat):List SB→Nat→Bool
 | [],_=>true
 | B::r,i=>(isFr B||!tb mk i)&&Z6G mk r (i+1)
theorem Z9m {mk:Nat}:∀ {H:List SB} {i k:Nat} {B:SB},Z6G mk H i=true→H[k]?=some B→tb mk (i+k)=true→B=.fresh
 | [],i,k,B,_,h,_=>by simp at h
 | C::r,i,0,B,hn,h,ht=>by
   simp at h;subst h
   simp only [Z6G,Bool.and_eq_true,Bool.or_eq_true,Bool.not_eq_true'] at hn
   rw [Nat.add_zero] at ht
   rcases hn.1 with h1 | h1
   ·cases C <;> first | rfl | cases h1
   ·rw [ht] at h1;cases h1
 | C::r,i,k+1,B,hn,h,ht=>by
   simp only [Z6G,Bool.and_eq_true] at hn
   exact Z9m hn.2 (by simpa using h) (by rw [show i+1+k=i+(k+1) by omega];exact ht)
def gcR (H:List SB) (r:SV) (H1:List SB):SV×List SB:=
 fN (Z6F H 0 0) fun old=>fN (Z6E 60 H1 (nms r old)) fun keep=>fN (andNot (Z6F H1 0 0) keep) fun mk=>
  bif Nat.beq mk 0 then (r,H1) else
  bif Z6G mk H 0&&ndH mk H1 0&&nd mk r then Z81 mk H1 0 fun H2=>(r,H2) else (r,H1)
theorem gcR_ok {X:List Value→World→(Value→World→Prop)→Prop} (hX:Z2A X) {args:List SV} {H H1:List SB} {r:SV} (h:Cp X args H (fun r' h'=>r'=r∧h'=H1)) :
 Cp X args H (fun r' h'=>r'=(gcR H r H1).1∧h'=(gcR H r H1).2):=by
 unfold gcR
 simp only [Z1s,ZaM]
 generalize andNot (Z6F H1 0 0) (Z6E 60 H1 (nms r (Z6F H 0 0)))=mk
 cases hz:Nat.beq mk 0 with
 | true=>exact h
 | false=>
   simp only [cond_false]
   cases hc:(Z6G mk H 0&&ndH mk H1 0&&nd mk r) with
   | false=>exact h
   | true=>
     simp only [Bool.and_eq_true] at hc
     exact Cp.free hX h (fun k B hk hm=>Z9m hc.1.1 hk (by rw [Nat.zero_add];exact hm)) hc.1.2 hc.2
def Z82:List SB→List SB
 | []=>[]
 | B::r=>match Z82 r with
   | []=>bif isFr B then [] else [B]
   | C::r'=>B::C::r'
def Z3K:Nat→List SB→List SB
 | 0,l=>Z82 l
 | n+1,B::r=>B::Z3K n r
 | _+1,[]=>[]
theorem Z83:∀ l:List SB,∃ n,l=Z82 l++List.replicate n .fresh
 | []=>⟨0,rfl⟩
 | B::r=>by
   obtain ⟨n,hn⟩:=Z83 r
   simp only [Z82]
   cases hs:Z82 r with
   | nil=>
     rw [hs] at hn
     simp only
     cases hf:isFr B with
     | true=>rw [ZgO hf,hn];exact ⟨n+1,by simp [List.replicate_succ]⟩
     | false=>exact ⟨n,by rw [hn];rfl⟩
   | cons C r'=>rw [hs] at hn;exact ⟨n,by rw [hn];rfl⟩
theorem Z72:∀ (k:Nat) (l:List SB),(∃ n,l=Z3K k l++List.replicate n .fresh)∧(k≤l.length→k≤(Z3K k l).length)
 | 0,l=>⟨Z83 l,fun _=>Nat.zero_le _⟩
 | k+1,[]=>⟨⟨0,rfl⟩,fun h=>h⟩
 | k+1,B::r=>by
   obtain ⟨⟨n,hn⟩,h2⟩:=Z72 k r
   exact ⟨⟨n,by simp only [Z3K,List.cons_append];rw [← hn]⟩,fun h=>by simp only [Z3K,List.length_cons] at h ⊢;have:=h2 (by omega);omega⟩
theorem Rel.unpad {E C m H w n} (h:Rel E C m (H++List.replicate n .fresh) w):Rel E C m H w:=by
 refine ⟨h.os,h.tape,h.output,h.im,h.fr,h.mf,fun k B hB=>?_,fun k v hv=>h.nn k v (Vle_pad.2 hv),fun k b hb=>h.sp k b ?_,fun j k b hj hk=>h.inj j k b ?_ ?_⟩
 ·have hk:=(List.getElem?_eq_some_iff.1 hB).1
  have h1:=h.bl k B (by rw [List.getElem?_append_left hk];exact hB)
  exact h1.mono (m':=m) (w':=w) (V':=vers H) (E':=E) ⟨fun _ _ h=>h,fun _ _ h=>Vle_pad.1 h,fun _ _ _=>rfl⟩ (fun _ _=>rfl) (fun _ _=>rfl)
 ·exact Z2D hb
 ·exact Z2D hj
 ·exact Z2D hk
theorem Cp.unpad {X:List Value→World→(Value→World→Prop)→Prop} (hX:Z2A X) {args:List SV} {H H1:List SB} {r:SV} {n:Nat} (h:Cp X args H (fun r' h'=>r'=r∧h'=H1++List.replicate n .fresh)):Cp X args H (fun r' h'=>r'=r∧h'=H1):=by
 refine ⟨fun C E m w hr' ha=>hX _ _ _ _ (h.out C E m w hr' ha) ?_⟩
 rintro v w' ⟨_,_,E',m',h1,⟨rfl,rfl⟩,h3,h4,h5⟩
 exact ⟨_,_,E',m',h1,⟨rfl,rfl⟩,⟨Ok.mono (fun _ _ h=>h) _ _ _ (fun k v hv=>Vle_pad.1 hv) h3.1,h3.2⟩,⟨h4.mm,fun k v hv=>Vle_pad.1 (h4.vv k v hv),h4.ee⟩,h5.unpad⟩
theorem Z9n {X:List Value→World→(Value→World→Prop)→Prop} (hX:Z2A X) {args:List SV} {H H1:List SB} {r:SV} (k:Nat) (h:Cp X args H (fun r' h'=>r'=r∧h'=H1)):Cp X args H (fun r' h'=>r'=r∧h'=Z3K k H1):=by
 obtain ⟨⟨n,hn⟩,_⟩:=Z72 k H1
 refine Cp.unpad (n:=n) hX ?_
 rw [← hn];exact h
def ZaN {α:Sort u} (k:Nat) (l:List SB) (K:List SB→α):α:=Z6B (Z3K k l) [] K
theorem Z9o {α:Sort u} (k:Nat) (l:List SB) (K:List SB→α):ZaN k l K=K (Z3K k l):=by simp only [ZaN,Z3m,List.append_nil]
def fin (all:Bool) (H:List SB) (r:SV) (H1:List SB):SV×List SB:=
 match (bif all||!(Nat.ble 24 (cntF H1 0)||Nat.blt H1.length 40) then gcR H r H1 else (r,H1)) with
 | (r,H1)=>ZaN H.length H1 fun H1=>(r,H1)
theorem ZaO {X:List Value→World→(Value→World→Prop)→Prop} (hX:Z2A X) {args:List SV} {H H1:List SB} {r:SV} (all:Bool) (h:Cp X args H (fun r' h'=>r'=r∧h'=H1)) :
 Cp X args H (fun r' h'=>r'=(fin all H r H1).1∧h'=(fin all H r H1).2):=by
 unfold fin
 cases (all||!(Nat.ble 24 (cntF H1 0)||Nat.blt H1.length 40)) with
 | true=>
   simp only [cond_true,Z9o]
   exact Z9n hX _ (gcR_ok hX h)
 | false=>
   simp only [cond_false,Z9o]
   exact Z9n hX _ h
end
section
universe u
def idx:List Nat→Nat→Nat
 | [],_=>0
 | x::r,k=>bif Nat.beq x k then 0 else idx r k+1
theorem Zc8 {k d:Nat} {ns:List Nat}:∀ {ks:List Nat},hasN k ks=true→(ks++ns).getD (idx ks k) d=k
 | [],h=>by simp [hasN] at h
 | x::r,h=>by
   simp only [idx]
   cases hx:Nat.beq x k with
   | true=>have:=Nat.eq_of_beq_eq_true hx;subst this;rfl
   | false=>
     simp only [hasN,hx,Bool.false_or] at h
     simp only [cond_false,List.cons_append,List.getD_cons_succ]
     exact Zc8 h
mutual
def inN (ks:List Nat):SV→Bool
 | .ptr k _ _ _=>hasN k ks
 | .sl k _ _ _ _ _=>hasN k ks
 | .map k=>hasN k ks
 | .arr _ _ _ _ _ _=>false
 | .fn _ caps=>inNL ks caps
 | .iface _ x=>inN ks x
 | .bm _ x=>inN ks x
 | .agg cs=>inNL ks cs
 | .tup vs=>inNL ks vs
 | .grd _ _=>false
 | _=>true
def inNL (ks:List Nat):List SV→Bool
 | []=>true
 | x::r=>inN ks x&&inNL ks r
end
section
variable {ks:List Nat} {ρ σ:Nat→Nat} (hρ:∀ k,hasN k ks=true→ρ (σ k)=k)
include hρ
mutual
theorem ren_inv:∀ x:SV,inN ks x=true→ren ρ (ren σ x)=x
 | .i _ _,_ | .b _,_ | .s _,_ | .raw _,_ | .nils,_ | .dead,_=>by simp [ren]
 | .ptr k v _ _,h=>by simp only [inN] at h;simp only [ren,hρ k h]
 | .sl k v _ _ _ _,h=>by simp only [inN] at h;simp only [ren,hρ k h]
 | .map k,h=>by simp only [inN] at h;simp only [ren,hρ k h]
 | .arr _ _ _ _ _ _,h | .grd _ _,h=>by simp [inN] at h
 | .ipt _ _ _ _ _ _ _ _ _,_ | .imm _ _ _ _ _ _ _,_ | .ints _ _ _,_=>by simp [ren]
 | .fn _ caps,h=>by simp only [inN] at h;simp only [ren,ren_invL caps h]
 | .iface _ x,h=>by simp only [inN] at h;simp only [ren,ren_inv x h]
 | .bm _ x,h=>by simp only [inN] at h;simp only [ren,ren_inv x h]
 | .agg cs,h=>by simp only [inN] at h;simp only [ren,ren_invL cs h]
 | .tup vs,h=>by simp only [inN] at h;simp only [ren,ren_invL vs h]
theorem ren_invL:∀ l:List SV,inNL ks l=true→renL ρ (renL σ l)=l
 | [],_=>by simp [renL]
 | x::r,h=>by
   simp only [inNL,Bool.and_eq_true] at h
   simp only [renL,ren_inv x h.1,ren_invL r h.2]
end
end
def inNB (ks:List Nat):SB→Bool
 | .mem _ segs _ _=>inNL ks segs
 | .mp kv _=>kv.all fun p=>inN ks p.1&&inN ks p.2
 | _=>true
theorem ZfL {ks:List Nat} {ρ σ:Nat→Nat} (hρ:∀ k,hasN k ks=true→ρ (σ k)=k) {B:SB} (h:inNB ks B=true):renB ρ (renB σ B)=B:=by
 cases B with
 | mem t segs v g=>simp only [inNB] at h;simp only [renB,ren_invL hρ segs h]
 | mp kv v=>
   simp only [renB,List.map_map]
   congr 1
   conv=>rhs;rw [← List.map_id kv]
   refine List.map_congr_left fun p hp=>?_
   have:=List.all_eq_true.1 h p hp
   simp only [Bool.and_eq_true] at this
   simp only [Function.comp,ren_inv hρ _ this.1,ren_inv hρ _ this.2,id]
 | gone v=>rfl
 | fresh=>rfl
section
variable {α:Sort u}
def renC (ρ:Nat→Nat):List SV→(List SV→α)→α
 | [],K=>K []
 | x::r,K=>fV (ren ρ x) fun y=>renC ρ r fun r=>K (y::r)
def Za1 (ρ:Nat→Nat) (B:SB) (K:SB→α):α:=match B with
 | .mem t segs v g=>renC ρ segs fun s=>K (.mem t s v g)
 | .mp kv v=>fM (kv.map fun p=>(ren ρ p.1,ren ρ p.2)) fun kv=>K (.mp kv v)
 | .gone v=>K (.gone v)
 | .fresh=>K .fresh
def Z84 (σ:Nat→Nat) (h:List SB):List Nat→(List SB→α)→α
 | [],K=>K []
 | k::r,K=>Za1 σ (h.getD k .fresh) fun B=>Z84 σ h r fun l=>K (B::l)
def zipC (ρ:Nat→Nat):List SB→Nat→(List (Nat×SB)→α)→α
 | [],_,K=>K []
 | B::r,i,K=>fN (ρ i) fun k=>Za1 ρ B fun B=>zipC ρ r (i+1) fun l=>K ((k,B)::l)
def fNs:List Nat→(List Nat→α)→α
 | [],K=>K []
 | k::r,K=>fN k fun k=>fNs r fun r=>K (k::r)
theorem Z8N (ρ:Nat→Nat):∀ (l:List SV) (K:List SV→α),renC ρ l K=K (renL ρ l)
 | [],K=>rfl
 | x::r,K=>by simp only [renC,Z3W,Z8N ρ r,renL]
theorem ZaP (ρ:Nat→Nat) (B:SB) (K:SB→α):Za1 ρ B K=K (renB ρ B):=by cases B <;> simp only [Za1,Z8N,Za0,renB]
theorem ZaQ (σ:Nat→Nat) (h:List SB):∀ (l:List Nat) (K:List SB→α),Z84 σ h l K=K (l.map fun k=>renB σ (h.getD k .fresh))
 | [],K=>rfl
 | x::r,K=>by simp only [Z84,ZaP,ZaQ σ h r,List.map_cons]
theorem Zc9 (ρ:Nat→Nat):∀ (l:List SB) (i:Nat) (K:List (Nat×SB)→α),zipC ρ l i K=K (zipB ρ l i)
 | [],i,K=>rfl
 | x::r,i,K=>by simp only [zipC,Z1s,ZaP,Zc9 ρ r,zipB]
theorem ZaR:∀ (l:List Nat) (K:List Nat→α),fNs l K=K l
 | [],K=>rfl
 | x::r,K=>by simp only [fNs,Z1s,ZaR r]
end
def Z85 (mk:Nat):List SB→Nat→List Nat
 | [],_=>[]
 | _::r,i=>bif tb mk i then i::Z85 mk r (i+1) else Z85 mk r (i+1)
def Z5f (ks:List Nat) (h:List SB):List Nat→Bool
 | []=>true
 | k::r=>Nat.blt k h.length&&inNB ks (h.getD k .fresh)&&Z5f ks h r
theorem Z86 {ks:List Nat} {h:List SB}:∀ {l:List Nat},Z5f ks h l=true→∀ k ∈ l,k < h.length∧inNB ks (h.getD k .fresh)=true
 | [],_,k,hk=>by cases hk
 | x::r,ho,k,hk=>by
   simp only [Z5f,Bool.and_eq_true] at ho
   rcases List.mem_cons.1 hk with rfl | hk
   ·exact ⟨Nat.le_of_ble_eq_true ho.1.1,ho.1.2⟩
   ·exact Z86 ho.2 k hk
def Z6H (call:FRun) (lo:Nat) (o:Oper) (c:Call) (S:St):Option Eff:=
 match Z2F S.t c with
 | none=>none
 | some (f,args)=>
   fN (Z6E 60 S.h (nmsL args 0)) fun mk=>fNs (Z85 mk S.h 0) fun ks=>
   bif inNL ks args&&Z5f ks S.h ks then
    renC (idx ks) args fun args0=>Z84 (idx ks) S.h ks fun H0=>
    match call f args0 H0 with
    | none=>none
    | some (r1,H1)=>match fin true H0 r1 H1 with
      | (r0,H1)=>fNs (Z80 lo S.h 0 (H1.length - H0.length)) fun ns=>
        bif Z1U (ks++ns)&&Z10 S.h ns&&(Nat.ble H0.length H1.length&&Nat.ble H1.length (ks++ns).length)&&notG (ren (rho (ks++ns) S.h.length) r0) then
         fV (ren (rho (ks++ns) S.h.length) r0) fun r=>zipC (rho (ks++ns) S.h.length) H1 0 fun wb=>some ⟨o.dst,r,hang r++Zc o [],ks++ns,wb⟩
        else none
   else none
def Z1L (P:Program) (call:FRun):Prop:=∀ f args H r H',call f args H=some (r,H')→Ctr P f args H (fun r' h'=>r'=r∧h'=H')
section
variable {P:Program} {T:Tb} {ops:Array Oper} {o:Oper}
theorem Zca {ρ:Nat→Nat} {Hc:List SB}:∀ {H:List SB} {i:Nat},(∀ (j:Nat) (B:SB),H[j]?=some B→Hc[ρ (i+j)]?=some (renB ρ B))→Lent ρ Hc H i
 | [],_,_=>trivial
 | B::r,i,h=>⟨by have:=h 0 B rfl;rwa [Nat.add_zero] at this,Zca fun j B' hB=>by have:=h (j+1) B' (by simpa using hB);rwa [show i+(j+1)=i+1+j by omega] at this⟩
theorem Z87 {t:List SV} {c:Call} {f:FuncId} {args:List SV} (hN:NG t) (h:Z2F t c=some (f,args)) :
 ∃ fo fst caps,c.callee=.value fo∧calB (evG [] t fo)=some (f,fst,caps)∧(c.args.toList.map (evG [] t)).all live=true∧args=fst++(c.args.toList.map (evG [] t)++caps):=by
 unfold Z2F at h
 cases hc:c.callee <;> rw [hc] at h <;> simp only [reduceCtorEq] at h
 rename_i fo
 cases hf:evO t fo <;> rw [hf] at h <;> simp only [reduceCtorEq] at h
 all_goals
  rename_i g caps
  cases hl:(c.args.toList.map (evO t)).all live with
  | false=>rw [hl] at h;simp at h
  | true=>
    rw [hl] at h
    simp only [cond_true,Option.some.injEq,Prod.mk.injEq] at h
    obtain ⟨rfl,rfl⟩:=h
    exact ⟨fo,_,_,rfl,by rw [hN.evG,hf];rfl,by rw [hN.evGf];exact hl,by rw [hN.evGf];rfl⟩
theorem ZfM {call:FRun} {lo:Nat} (hcall:Z1L P call) {c:Call} {S:St} {e:Eff} (n n2:Nat) (hop:o.op=.call c) (hg:o.guard=none) (hN:NG S.t) (h:Z6H call lo o c S=some e) :
 OpD P ops o n (fun e2 n' _=>e2=e∧n'=n2) S∧notG e.v=true:=by
 unfold Z6H at h
 cases hc:Z2F S.t c with
 | none=>rw [hc] at h;simp at h
 | some fa=>
   obtain ⟨f,args⟩:=fa
   rw [hc] at h
   simp only [Z1s,ZaR,Z8N,ZaQ,Z3W,Zc9] at h
   generalize Z85 (Z6E 60 S.h (nmsL args 0)) S.h 0=ks at h
   cases hi:(inNL ks args&&Z5f ks S.h ks) with
   | false=>rw [hi] at h;simp at h
   | true=>
     rw [hi] at h
     simp only [cond_true] at h
     rw [Bool.and_eq_true] at hi
     generalize hH0:(ks.map fun k=>renB (idx ks) (S.h.getD k .fresh))=H0 at h
     cases hr:call f (renL (idx ks) args) H0 with
     | none=>rw [hr] at h;simp at h
     | some q=>
       obtain ⟨r1,H1'⟩:=q
       rw [hr] at h
       simp only at h
       have hctr:=ZaO ZK true (hcall _ _ _ _ _ hr)
       generalize fin true H0 r1 H1'=q at h hctr
       obtain ⟨r0,H1⟩:=q
       simp only at h hctr
       generalize Z80 lo S.h 0 (H1.length - H0.length)=ns at h
       cases hk:(Z1U (ks++ns)&&Z10 S.h ns&&(Nat.ble H0.length H1.length&&Nat.ble H1.length (ks++ns).length)&&notG (ren (rho (ks++ns) S.h.length) r0)) with
       | false=>rw [hk] at h;simp at h
       | true=>
         rw [hk] at h
         simp only [cond_true,Option.some.injEq] at h
         subst h
         rw [Bool.and_eq_true,Bool.and_eq_true,Bool.and_eq_true] at hk
         obtain ⟨⟨⟨k1,k2⟩,k3⟩,k4⟩:=hk
         have hρ:∀ k,hasN k ks=true→rho (ks++ns) S.h.length (idx ks k)=k:=fun k hk=>Zc8 hk
         obtain ⟨fo,fst,caps,c1,c2,c3,c4⟩:=Z87 hN hc
         refine ⟨Z9k (t:=S.t) (h:=S.h) hop c1 (Z1F S.t hg) c2 ks ns n2 rfl hctr (by rw [← c4];exact (ren_invL hρ args hi.1).symm) c3 k1 (by rw [← hH0];simp) (Zca fun j B hB=>?_) k2 k3 ?_,k4⟩
         ·rw [← hH0] at hB
          simp only [List.getElem?_map] at hB
          cases hj:ks[j]? with
          | none=>rw [hj] at hB;simp at hB
          | some k=>
            rw [hj] at hB
            simp only [Option.map_some,Option.some.injEq] at hB
            subst hB
            have hm:=List.mem_of_getElem? hj
            have hg1:=Z86 hi.2 k hm
            have hjl:=(List.getElem?_eq_some_iff.1 hj).1
            have e1:rho (ks++ns) S.h.length (0+j)=k:=by
             simp only [rho,Nat.zero_add,List.getD_eq_getElem?_getD,List.getElem?_append_left hjl,hj,Option.getD_some]
            rw [e1,ZfL hρ hg1.2,List.getD_eq_getElem?_getD,List.getElem?_eq_getElem hg1.1]
            rfl
         ·simp only [Z1e,Z2C,Z4k]
          exact ⟨trivial,trivial⟩
end
end
section
universe u
section
variable {α:Sort u}
def Z6h:Nat→(List SB→α)→α
 | 0,K=>K []
 | n+1,K=>Z6h n fun l=>K (.fresh::l)
theorem Z3L:∀ (n:Nat) (K:List SB→α),Z6h n K=K (List.replicate n .fresh)
 | 0,K=>rfl
 | n+1,K=>by simp only [Z6h,Z3L n,List.replicate_succ]
end
def mkN2:Op→Nat
 | .call ⟨.builtin .append,_,_⟩=>1
 | .makeMap _ _=>1
 | op=>mkN op
def Z3C:Op→Option Call
 | .call c=>(match c.callee with
   | .value _=>some c
   | _=>none)
 | _=>none
def runE (T:Tb) (n:Nat) (o:Oper) (S:St):Option St:=
 match eff2 T n (ung o) S with
 | some (e,_)=>putE e S
 | none=>none
def rop (T:Tb) (call:FRun) (ops:Array Oper) (o:Oper) (S:St):Option St:=
 match gdO ops S.t o with
 | none=>none
 | some (_,false)=>Z7V S.t o.dst udf fun t=>some ⟨t,S.h⟩
 | some (_,true)=>match Z3C o.op with
   | some c=>(match Z2F S.t c with
     | some (f,args)=>(match call f args S.h with
       | some (r,h')=>bif notG r then fV r fun r=>Z7V S.t o.dst r fun t=>some ⟨t,h'⟩ else none
       | none=>none)
     | none=>none)
   | none=>match mkN2 o.op with
     | 0=>runE T 0 o S
     | _+1=>match fst1 S.h 0 with
       | some n=>fN n fun n=>runE T n o S
       | none=>Z6h 8 fun l=>Z6B S.h l fun h1=>runE T S.h.length o ⟨S.t,h1⟩
def rreg (T:Tb) (call:FRun) (ops:Array Oper):List Oper→St→Option St
 | [],S=>some S
 | o::r,S=>match rop T call ops o S with
   | some S'=>rreg T call ops r S'
   | none=>none
def Z88 (rs:List Nat):Option Eff→Option Eff
 | some e=>some (e.also rs)
 | none=>none
def fstE:Option (Eff×Nat)→Option Eff
 | some (e,_)=>some e
 | none=>none
def dop1 (T:Tb) (call:FRun) (lo:Nat) (ops:Array Oper) (o:Oper) (S:St):Option Eff:=
 match gdO ops S.t o with
 | none=>none
 | some (rs,false)=>some ⟨o.dst,udf,rs,[],[]⟩
 | some (rs,true)=>Z88 rs (match Z3C o.op with
   | some c=>Z6H call lo (ung o) c S
   | none=>match mkN2 o.op with
     | 0=>fstE (eff2 T 0 (ung o) S)
     | _+1=>match Z7Z lo S.h 0 with
       | some n=>fN n fun n=>fstE (eff2 T n (ung o) S)
       | none=>none)
def Z3D (T:Tb) (call:FRun) (ops:Array Oper):Nat→List Oper→List Eff→St→Option St
 | lo,[],acc,S=>bif chk ops acc.reverse then some S else none
 | lo,o::r,acc,S=>match dop1 T call lo ops o S with
   | some e=>(match putE e S with
     | some S'=>fN (maxW e.wb lo) fun lo=>Z3D T call ops lo r (e::acc) S'
     | none=>none)
   | none=>none
def needW (c:Call):Nat:=match c.callee with
 | .value (.tmp _)=>80
 | _=>16
def Z5L:List Oper→Nat
 | []=>0
 | o::r=>(match Z3C o.op with
   | some c=>needW c
   | none=>mkN2 o.op)+Z5L r
def Z49 (T:Tb) (call:FRun) (ops:Array Oper) (draw:Bool) (S:St):Option St:=
 match draw with
 | false=>rreg T call ops ops.toList S
 | true=>fN (Z5L ops.toList) fun n=>bif Nat.ble n (cntF S.h 0) then Z3D T call ops 0 ops.toList [] S else Z6h n fun l=>Z6B S.h l fun h1=>Z3D T call ops 0 ops.toList [] ⟨S.t,h1⟩
def iter (f:St→Option (Exit×St)):Nat→St→Option (Exit×St)
 | 0,_=>none
 | n+1,S=>match f S with
   | some (.normal,S')=>iter f n S'
   | r=>r
def ZW (T:Tb) (call:FRun) (lf:Nat):Code→St→Option (Exit×St)
 | .seq a b,S=>match ZW T call lf a S with
   | some (.normal,S')=>ZW T call lf b S'
   | r=>r
 | .cond c x y,S=>match evO S.t c with
   | .b true=>ZW T call lf x S
   | .b false=>ZW T call lf y S
   | _=>none
 | .block id c,S=>match ZW T call lf c S with
   | some (.exit j,S')=>bif Nat.beq j id then some (.normal,S') else some (.exit j,S')
   | r=>r
 | .exit id,S=>some (.exit id,S)
 | .ret,S=>some (.ret,S)
 | .skip,S=>some (.normal,S)
 | .label _,S=>some (.normal,S)
 | .region _ ops draw,S=>match Z49 T call ops draw S with
   | some S'=>some (.normal,S')
   | none=>none
 | .loop c,S=>iter (ZW T call lf c) lf S
 | _,_=>none
def rres (T:Tb) (fn:Func) (H:List SB) (S:St):Option (SV×List SB):=
 match resL T S fn.results.toList with
 | some [x]=>some (fin false H x S.h)
 | some xs=>some (fin false H (.tup xs) S.h)
 | none=>none
section
variable {P:Program} {T:Tb} {ops:Array Oper} {o:Oper} {call:FRun}
theorem Z89 {op:Op} {c:Call} (h:Z3C op=some c):op=.call c:=by
 unfold Z3C at h
 split at h
 ·split at h
  ·cases h;rfl
  ·cases h
 ·cases h
theorem Z8O (hT:TabOk P T) {n:Nat} {K:St→Prop} {S S':St} {rs:List Nat} (hg:gdO ops S.t o=some (rs,true)) (hN:NG S.t) (h:runE T n o S=some S') (hK:K S'):OpC P T ops o K S∧NG S'.t:=by
 unfold runE at h
 cases he:eff2 T n (ung o) S with
 | none=>rw [he] at h;simp at h
 | some q=>
   obtain ⟨e,n'⟩:=q
   rw [he] at h
   simp only [Z6C,Option.some.injEq] at h
   obtain ⟨h1,h2⟩:=Z8M (P:=P) (ops:=ops) hT (o:=ung o) rfl hN he
   refine ⟨OpC.want hg (h1.toC hN fun e2 n2 hk=>by rw [hk.1,h];exact hK),?_⟩
   rw [← h]
   exact hN.setT e.d h2
theorem OpC.pad {K:St→Prop} {t:List SV} {h:List SB} (n:Nat) (h1:OpC P T ops o K ⟨t,h++List.replicate n .fresh⟩):OpC P T ops o K ⟨t,h⟩:=by
 refine OpC.shift (fun C E m a w hr=>⟨E,m,Ext.pad E m h n,?_⟩) h1
 exact hr.up (Ext.pad E m h n) (hr.rel.pad n)
theorem WpC.pad {c:Code} {K:Exit→St→Prop} {t:List SV} {h:List SB} (n:Nat) (h1:WpC P c K ⟨t,h++List.replicate n .fresh⟩):WpC P c K ⟨t,h⟩:=by
 refine WpC.shift (fun C E m a w hr=>⟨E,m,Ext.pad E m h n,?_⟩) h1
 exact hr.up (Ext.pad E m h n) (hr.rel.pad n)
theorem rop_ok (hT:TabOk P T) (hcall:Z1L P call) {K:St→Prop} {S S':St} (hN:NG S.t) (h:rop T call ops o S=some S') (hK:K S'):OpC P T ops o K S∧NG S'.t:=by
 unfold rop at h
 cases hg:gdO ops S.t o with
 | none=>rw [hg] at h;simp at h
 | some q=>
   obtain ⟨rs,b⟩:=q
   rw [hg] at h
   cases b with
   | false=>
     simp only [Z4m,Option.some.injEq] at h
     subst h
     exact ⟨OpC.skip hg hN hK,hN.setT _ rfl⟩
   | true=>
     simp only at h
     cases hc:Z3C o.op with
     | some c=>
       rw [hc] at h
       have hop:=Z89 hc
       simp only at h
       cases hca:Z2F S.t c with
       | none=>rw [hca] at h;simp at h
       | some fa=>
         obtain ⟨f,args⟩:=fa
         rw [hca] at h
         simp only at h
         cases hr:call f args S.h with
         | none=>rw [hr] at h;simp at h
         | some q=>
           obtain ⟨r,h'⟩:=q
           rw [hr] at h
           simp only [Z3W,Z4m] at h
           cases hn:notG r with
           | false=>rw [hn] at h;simp at h
           | true=>
             rw [hn] at h
             simp only [cond_true,Option.some.injEq] at h
             subst h
             obtain ⟨fo,fst,caps,c1,c2,c3,c4⟩:=Z87 hN hca
             refine ⟨OpC.want hg ?_,hN.setT _ hn⟩
             refine OpC.call (o:=ung o) (t:=S.t) (h:=S.h) hop c1 (Z1F S.t rfl) c2 c4.symm c3 (hcall _ _ _ _ _ hr) ?_
             rintro r' h'' ⟨rfl,rfl⟩
             rw [ZV,ZQ fun d _=>hN.kill d]
             exact hK
     | none=>
       rw [hc] at h
       simp only at h
       cases hm:mkN2 o.op with
       | zero=>rw [hm] at h;exact Z8O hT hg hN h hK
       | succ n=>
         rw [hm] at h
         simp only at h
         cases hf:fst1 S.h 0 with
         | some k=>rw [hf] at h;simp only [Z1s] at h;exact Z8O hT hg hN h hK
         | none=>
           rw [hf] at h
           simp only [Z3L,Z3m] at h
           generalize hz:S.h++List.replicate 8 .fresh=hh at h
           have:=Z8O (P:=P) (T:=T) (ops:=ops) (o:=o) (n:=S.h.length) (S:=⟨S.t,hh⟩) (S':=S') (rs:=rs) hT hg hN h hK
           subst hz
           exact ⟨OpC.pad 8 this.1,this.2⟩
theorem Zcb (hT:TabOk P T) (hcall:Z1L P call) {Q:Exit→Act→World→Prop} {C:Fr} {E0:Env} {m0:Mem} {V0:List Nat}:∀ (l:List Oper) (S S':St),NG S.t→rreg T call ops l S=some S'→NG S'.t∧∀ E m a w,Rep E C m S a w→Ext E0 m0 V0 E m (vers S.h) →
 (∀ E' m' a' w',Ext E0 m0 V0 E' m' (vers S'.h)→Rep E' C m' S' a' w'→Q .normal a' w')→wpList P ops Q l a w
 | [],S,S',hN,h=>by
   simp [rreg] at h;subst h
   exact ⟨hN,fun E m a w hr hx hQ=>hQ E m a w hx hr⟩
 | o::rest,S,S',hN,h=>by
   simp only [rreg] at h
   cases ho:rop T call ops o S with
   | none=>rw [ho] at h;simp at h
   | some S1=>
     rw [ho] at h
     simp only at h
     have h1:=rop_ok (P:=P) hT hcall hN ho (K:=fun S=>S=S1) rfl
     obtain ⟨h2,h3⟩:=Zcb hT hcall (Q:=Q) (C:=C) (E0:=E0) (m0:=m0) (V0:=V0) rest S1 S' h1.2 h
     refine ⟨h2,fun E m a w hr hx hQ=>?_⟩
     have h4:=h1.1.out C E m a w hr
     unfold opW at h4
     unfold wpList
     have next:∀ a' w',(∃ E' m' S2,S2=S1∧Ext E m (vers S.h) E' m' (vers S2.h)∧Rep E' C m' S2 a' w')→wpList P ops Q rest a' w':=by
      rintro a' w' ⟨E',m',S2,rfl,k2,k3⟩
      exact h3 E' m' a' w' k3 (hx.trans k2) hQ
     by_cases hw:Region.wanted o (yielded ops a.tmps)=true
     ·rw [if_pos hw] at h4 ⊢
      exact .inl (ZU h4 next)
     ·rw [if_neg hw] at h4 ⊢
      exact next _ _ h4
theorem ZcV {rs:List Nat} {x:Option Eff} {e:Eff} (h:Z88 rs x=some e):∃ e0,x=some e0∧e=e0.also rs:=by
 cases x with
 | none=>simp [Z88] at h
 | some e0=>simp [Z88] at h;exact ⟨e0,rfl,h.symm⟩
theorem Z9p {x:Option (Eff×Nat)} {e:Eff} (h:fstE x=some e):∃ n,x=some (e,n):=by
 cases x with
 | none=>simp [fstE] at h
 | some q=>obtain ⟨e0,n⟩:=q;simp [fstE] at h;exact ⟨n,by rw [h]⟩
theorem OpD.any {n n1:Nat} {K:Eff→Nat→St→Prop} {S:St} (h:OpD P ops o n K S):OpD P ops o n1 K S:=⟨h.out⟩
theorem OpD.mono {n:Nat} {K K':Eff→Nat→St→Prop} {S:St} (h:OpD P ops o n K S) (hk:∀ e n' S',K e n' S'→K' e n' S'):OpD P ops o n K' S:=by
 obtain ⟨e,n',h1,h2,h3,h4,h5⟩:=h.out
 exact ⟨⟨e,n',h1,h2,h3,h4,hk _ _ _ h5⟩⟩
theorem ZgT (hT:TabOk P T) (hcall:Z1L P call) {lo:Nat} {S:St} {e:Eff} (hN:NG S.t) (h:dop1 T call lo ops o S=some e):OpD P ops o 0 (fun e2 _ _=>e2=e) S∧notG e.v=true:=by
 unfold dop1 at h
 cases hg:gdO ops S.t o with
 | none=>rw [hg] at h;simp at h
 | some q=>
   obtain ⟨rs,b⟩:=q
   rw [hg] at h
   cases b with
   | false=>
     simp only [Option.some.injEq] at h
     subst h
     exact ⟨OpD.skip hg rfl,rfl⟩
   | true=>
     simp only at h
     obtain ⟨e0,hh,rfl⟩:=ZcV h
     clear h
     have h:=hh
     clear hh
     have fin:∀ n n2,OpD P ops (ung o) n (fun e2 n' _=>e2=e0∧n'=n2) S→OpD P ops o 0 (fun e2 _ _=>e2=e0.also rs) S:=fun n n2 h1=>
      OpD.want hg (h1.mono fun e n' S' hk=>by rw [hk.1]).any
     cases hc:Z3C o.op with
     | some c=>
       rw [hc] at h
       obtain ⟨h1,h2⟩:=ZfM (P:=P) (ops:=ops) (o:=ung o) hcall 0 0 (Z89 hc) rfl hN h
       exact ⟨fin _ _ h1,h2⟩
     | none=>
       rw [hc] at h
       simp only at h
       cases hm:mkN2 o.op with
       | zero=>
         rw [hm] at h
         obtain ⟨n',he⟩:=Z9p h
         obtain ⟨h1,h2⟩:=Z8M (P:=P) (ops:=ops) hT (o:=ung o) rfl hN he
         exact ⟨fin _ _ h1,h2⟩
       | succ n=>
         rw [hm] at h
         simp only at h
         cases hf:Z7Z lo S.h 0 with
         | none=>rw [hf] at h;simp at h
         | some k=>
           rw [hf] at h
           simp only [Z1s] at h
           obtain ⟨n',he⟩:=Z9p h
           obtain ⟨h1,h2⟩:=Z8M (P:=P) (ops:=ops) hT (o:=ung o) rfl hN he
           exact ⟨fin _ _ h1,h2⟩
theorem ZaS (hT:TabOk P T) (hcall:Z1L P call) {S0:St} (hcl:∀ (i:Nat) (o:Oper) (d:Nat),ops[i]?=some o→o.dst=some d→Z1n d S0.t=S0.t) :
 ∀ (lo:Nat) (l:List Oper) (acc:List Eff) (S S':St),(∀ x:Nat,l[x]?=ops[acc.length+x]?)→acc.length+l.length=ops.size→NG S.t→Pre P ops S0 acc.reverse S→Z3D T call ops lo l acc S=some S'→∃ es,Plan P ops es S0∧S'=stL es 0 (fun _=>true) S0∧NG S'.t
 | lo,[],acc,S,S',hl,hsz,hN,hp,h=>by
   have hlen:acc.length=ops.size:=by simpa using hsz
   simp only [Z3D] at h
   cases hck:chk ops acc.reverse with
   | false=>rw [hck] at h;simp at h
   | true=>
   rw [hck] at h
   simp only [cond_true,Option.some.injEq] at h
   subst h
   refine ⟨acc.reverse,?_,hp.st,hN⟩
   simp only [chk,Bool.and_eq_true] at hck
   have hca:=Z3z (pre:=[]) hck.2
   have has:=Z3I (ops:=ops) ops.toList [] (fun x o hx=>by simpa using hx) (fun j i hb=>by simp at hb)
   have get:∀ i e,acc.reverse[i]?=some e→∃ o,ops[i]?=some o:=fun i e he=>by
    have:=(List.getElem?_eq_some_iff.1 he).1
    exact ⟨ops[i]'(by simpa [hlen] using this),Array.getElem?_eq_getElem _⟩
   refine ⟨by simp [hlen],fun i o e ho he=>(hp.each i o e ho he).2.1,fun i o ho p hp'=>?_,fun i j e f hij he hf hcf=>?_,fun i j e f hij he hf=>(hca i j e f hij (by simp) (by simpa using he) (by simpa using hf)).2,fun i e he=>?_,fun i e d he hd=>?_,fun i e he=>?_⟩
   ·have:=Z3V hck.1 i o (by simpa using ho) p hp'
    omega
   ·exact has j i ((hca i j e f hij (by simp) (by simpa using he) (by simpa using hf)).1 hcf)
   ·obtain ⟨o,ho⟩:=get i e he
    exact (hp.each i o e ho he).2.2.1
   ·obtain ⟨o,ho⟩:=get i e he
    exact hcl i o d ho (by rw [← (hp.each i o e ho he).1];exact hd)
   ·obtain ⟨o,ho⟩:=get i e he
    exact (hp.each i o e ho he).2.2.2
 | lo,o::r,acc,S,S',hl,hsz,hN,hp,h=>by
   simp only [Z3D] at h
   cases hd:dop1 T call lo ops o S with
   | none=>rw [hd] at h;simp at h
   | some e=>
     rw [hd] at h
     simp only [Z6C,Z1s] at h
     obtain ⟨hD,hng⟩:=ZgT (P:=P) hT hcall hN hd
     obtain ⟨e',n',h1,h2,h3,h4,rfl⟩:=hD.out
     have ho:ops[acc.length]?=some o:=by have:=hl 0;simpa using this.symm
     refine ZaS hT hcall hcl _ r (e'::acc) _ S' (fun x=>by have:=hl (x+1);simpa [Nat.add_assoc,Nat.add_comm 1 x] using this) (by simp at hsz ⊢;omega) (hN.setT _ hng) ?_ h
     have hst:=hp.st
     refine ⟨?_,fun i o' e2 ho' he'=>?_⟩
     ·rw [List.reverse_cons,Z22,← hst];rfl
     ·rw [List.reverse_cons] at he'
      rw [List.reverse_cons,Z22]
      by_cases hi:i < acc.length
      ·rw [List.getElem?_append_left (by simpa using hi)] at he'
       have:=hp.each i o' e2 ho' he'
       refine ⟨this.1,?_,this.2.2⟩
       have hf:decide (0+acc.reverse.length < i)=false:=by simp;omega
       simp only [stL,hf,cond_false]
       exact this.2.1
      ·have hi':i=acc.length:=by
        have:=(List.getElem?_eq_some_iff.1 he').1
        simp at this;omega
       subst hi'
       rw [List.getElem?_append_right (by simp)] at he'
       simp at he';subst he'
       rw [ho] at ho';cases ho'
       refine ⟨h1,?_,h3,h4⟩
       have hf:decide (0+acc.reverse.length < acc.length)=false:=by simp
       simp only [stL,hf,cond_false]
       rw [Z2z acc.reverse 0 (fun j=>decide (j < acc.length)) (fun _=>true) S0 (fun j hj=>by simp at hj ⊢;omega),← hst]
       exact h2
theorem ZaT (hT:TabOk P T) (hm:P.follows .mixedOrders=true) (hcall:Z1L P call) {id:Nat} {K:Exit→St→Prop} {S S':St} (hN:NG S.t) (h:Z3D T call ops 0 ops.toList [] S=some S') (hK:K .normal S'):WpC P (.region id ops true) K S∧NG S'.t:=by
 obtain ⟨es,hp,hS,hN'⟩:=ZaS (P:=P) hT hcall (S0:=S) (fun i o d ho hd=>hN.kill d) 0 ops.toList [] S S' (fun x=>by simp) (by simp) hN ⟨rfl,fun i o e ho he=>by simp at he⟩ h
 refine ⟨⟨fun C E m a w hr=>?_⟩,hN'⟩
 exact Zc3 hm hp hr fun E' m' a' w' k1 k2=>⟨E',m',_,by rw [← hS];exact hK,k1,k2⟩
theorem Z8a (hT:TabOk P T) (hm:P.follows .mixedOrders=true) (hcall:Z1L P call) {id:Nat} {draw:Bool} {K:Exit→St→Prop} {S S':St} (hN:NG S.t) (h:Z49 T call ops draw S=some S') (hK:K .normal S'):WpC P (.region id ops draw) K S∧NG S'.t:=by
 unfold Z49 at h
 cases draw with
 | false=>
   have h1:=fun (C:Fr) (E0:Env) (m0:Mem) (V0:List Nat) (Q:Exit→Act→World→Prop)=>Zcb (P:=P) hT hcall (Q:=Q) (C:=C) (E0:=E0) (m0:=m0) (V0:=V0) ops.toList S S' hN h
   refine ⟨⟨fun C E m a w hr=>wp_region_list ?_⟩,(h1 ⟨default,default,default,fun _=>none,0⟩ E0 (fun _=>none) [] (fun _ _ _=>True)).1⟩
   exact (h1 C E m (vers S.h) _).2 E m a w hr (.refl ..) fun E' m' a' w' k1 k2=>⟨E',m',S',hK,k1,k2⟩
 | true=>
   simp only [Z1s,Z3L,Z3m] at h
   cases hb:Nat.ble (Z5L ops.toList) (cntF S.h 0) with
   | true=>rw [hb] at h;exact ZaT hT hm hcall hN h hK
   | false=>
     rw [hb] at h
     simp only [cond_false] at h
     have:=ZaT (P:=P) (id:=id) (S:=⟨S.t,S.h++List.replicate (Z5L ops.toList) .fresh⟩) hT hm hcall hN h hK
     exact ⟨WpC.pad _ this.1,this.2⟩
end
end
section
section
variable {P:Program} {T:Tb} {call:FRun}
def ZaU (P:Program) (c:Code) (S:St) (e:Exit) (S':St):Prop:=∀ K:Exit→St→Prop,K e S'→WpC P c K S
theorem Z3n {a b:Code} {K:Exit→St→Prop} {S:St} (h:WpC P a (fun e S'=>match e with | .normal=>WpC P b K S' | e=>K e S') S):WpC P (.seq a b) K S:=by
 refine ⟨fun C E m a w hr=>wp_seq ?_⟩
 refine wp_mono (h.out C E m a w hr) ?_
 rintro e a' w' ⟨E',m',S',k1,k2,k3⟩
 cases e with
 | normal=>
   refine wp_mono (k1.out C E' m' a' w' k3) ?_
   rintro e a'' w'' ⟨E'',m'',S'',q1,q2,q3⟩
   exact ⟨E'',m'',S'',q1,k2.trans q2,q3⟩
 | exit id=>exact ⟨E',m',S',k1,k2,k3⟩
 | goto l=>exact ⟨E',m',S',k1,k2,k3⟩
 | ret=>exact ⟨E',m',S',k1,k2,k3⟩
 | panic ch=>exact ⟨E',m',S',k1,k2,k3⟩
 | outgrown=>exact ⟨E',m',S',k1,k2,k3⟩
theorem Z23 {id:Nat} {c:Code} {K:Exit→St→Prop} {S:St} (h:WpC P c (fun e S'=>match e with | .exit j=>bif Nat.beq j id then K .normal S' else K (.exit j) S' | e=>K e S') S):WpC P (.block id c) K S:=by
 refine ⟨fun C E m a w hr=>wp_block ?_⟩
 refine wp_mono (h.out C E m a w hr) ?_
 rintro e a' w' ⟨E',m',S',k1,k2,k3⟩
 cases e with
 | exit j=>
   simp only [Exit.inBlock]
   simp only at k1
   cases hb:Nat.beq j id with
   | true=>
     rw [hb] at k1
     rw [if_pos (Nat.eq_of_beq_eq_true hb)]
     exact ⟨E',m',S',k1,k2,k3⟩
   | false=>
     rw [hb] at k1
     rw [if_neg (Nat.ne_of_beq_eq_false hb)]
     exact ⟨E',m',S',k1,k2,k3⟩
 | normal=>exact ⟨E',m',S',k1,k2,k3⟩
 | goto l=>exact ⟨E',m',S',k1,k2,k3⟩
 | ret=>exact ⟨E',m',S',k1,k2,k3⟩
 | panic ch=>exact ⟨E',m',S',k1,k2,k3⟩
 | outgrown=>exact ⟨E',m',S',k1,k2,k3⟩
theorem Z9q {c:Operand} {x y:Code} {K:Exit→St→Prop} {S:St} {b:Bool} (he:evO S.t c=.b b) (h:WpC P (if b then x else y) K S):WpC P (.cond c x y) K S:=by
 refine ⟨fun C E m a w hr=>?_⟩
 have hev:=(hr.evs .nil).gd c
 have hg:evG [] S.t c=.b b:=by simp [evG,he]
 rw [hg] at hev
 have hb:a.eval c=.bool b:=by
  have:=hev.resolve_left (by simp)
  simpa [den_v] using this.2
 refine wp_cond hb ?_
 cases b with
 | true=>exact h.out C E m a w hr
 | false=>exact h.out C E m a w hr
theorem Zcc {c:Code} {f:St→Option (Exit×St)} (hf:∀ S e S',NG S.t→f S=some (e,S')→ZaU P c S e S'∧NG S'.t) :
 ∀ (n:Nat) (S:St) (e:Exit) (S':St),NG S.t→iter f n S=some (e,S')→(∀ C E m a w,Rep E C m S a w→Code.rounds P c (fun e2 a' w'=>∃ E' m',e2=e∧Ext E m (vers S.h) E' m' (vers S'.h)∧Rep E' C m' S' a' w') n a w)∧NG S'.t
 | 0,S,e,S',hN,h=>by simp [iter] at h
 | n+1,S,e,S',hN,h=>by
   simp only [iter] at h
   have other:∀ e1 S1,f S=some (e1,S1)→e1≠.normal→e1=e∧S1=S'→(∀ C E m a w,Rep E C m S a w→Code.rounds P c (fun e2 a' w'=>∃ E' m',e2=e∧Ext E m (vers S.h) E' m' (vers S'.h)∧Rep E' C m' S' a' w') (n+1) a w)∧NG S'.t:=by
    rintro e1 S1 h1 hne ⟨rfl,rfl⟩
    obtain ⟨k1,k2⟩:=hf S e1 S1 hN h1
    refine ⟨fun C E m a w hr=>?_,k2⟩
    rw [rounds_succ]
    refine wp_mono ((k1 (fun e2 S2=>e2=e1∧S2=S1) ⟨rfl,rfl⟩).out C E m a w hr) ?_
    rintro e2 a' w' ⟨E',m',S2,⟨rfl,rfl⟩,q2,q3⟩
    cases e2 with
    | normal=>exact absurd rfl hne
    | exit id=>exact ⟨E',m',rfl,q2,q3⟩
    | goto l=>exact ⟨E',m',rfl,q2,q3⟩
    | ret=>exact ⟨E',m',rfl,q2,q3⟩
    | panic ch=>exact ⟨E',m',rfl,q2,q3⟩
    | outgrown=>exact ⟨E',m',rfl,q2,q3⟩
   cases h1:f S with
   | none=>rw [h1] at h;simp at h
   | some q=>
     obtain ⟨e1,S1⟩:=q
     rw [h1] at h
     cases e1 with
     | normal=>
       simp only at h
       obtain ⟨k1,k2⟩:=hf S .normal S1 hN h1
       obtain ⟨k3,k4⟩:=Zcc hf n S1 e S' k2 h
       refine ⟨fun C E m a w hr=>?_,k4⟩
       rw [rounds_succ]
       refine wp_mono ((k1 (fun e2 S2=>e2=.normal∧S2=S1) ⟨rfl,rfl⟩).out C E m a w hr) ?_
       rintro e2 a' w' ⟨E',m',S2,⟨rfl,rfl⟩,q2,q3⟩
       have mono:∀ (n:Nat) (a:Act) (w:World),Code.rounds P c (fun e2 a' w'=>∃ E2 m2,e2=e∧Ext E' m' (vers S2.h) E2 m2 (vers S'.h)∧Rep E2 C m2 S' a' w') n a w→Code.rounds P c (fun e2 a' w'=>∃ E2 m2,e2=e∧Ext E m (vers S.h) E2 m2 (vers S'.h)∧Rep E2 C m2 S' a' w') n a w:=by
        intro n
        induction n with
        | zero=>intro a w h;exact h
        | succ n ih=>
          intro a w h
          rw [rounds_succ] at h ⊢
          refine wp_mono h ?_
          intro e3 a3 w3 h3
          cases e3 with
          | normal=>exact ih _ _ h3
          | exit id=>obtain ⟨E2,m2,r1,r2,r3⟩:=h3;exact ⟨E2,m2,r1,q2.trans r2,r3⟩
          | goto l=>obtain ⟨E2,m2,r1,r2,r3⟩:=h3;exact ⟨E2,m2,r1,q2.trans r2,r3⟩
          | ret=>obtain ⟨E2,m2,r1,r2,r3⟩:=h3;exact ⟨E2,m2,r1,q2.trans r2,r3⟩
          | panic ch=>obtain ⟨E2,m2,r1,r2,r3⟩:=h3;exact ⟨E2,m2,r1,q2.trans r2,r3⟩
          | outgrown=>obtain ⟨E2,m2,r1,r2,r3⟩:=h3;exact ⟨E2,m2,r1,q2.trans r2,r3⟩
       exact mono n a' w' (k3 C E' m' a' w' q3)
     | exit id=>simp at h;exact other _ _ h1 (by simp) h
     | goto l=>simp at h;exact other _ _ h1 (by simp) h
     | ret=>simp at h;exact other _ _ h1 (by simp) h
     | panic ch=>simp at h;exact other _ _ h1 (by simp) h
     | outgrown=>simp at h;exact other _ _ h1 (by simp) h
theorem ZfN (hT:TabOk P T) (hm:P.follows .mixedOrders=true) (hcall:Z1L P call) (lf:Nat):∀ (c:Code) (S:St) (e:Exit) (S':St),NG S.t→ZW T call lf c S=some (e,S')→ZaU P c S e S'∧NG S'.t:=by
 intro c
 induction c with
 | skip=>
   intro S e S' hN h
   simp [ZW] at h;obtain ⟨rfl,rfl⟩:=h
   exact ⟨fun K hK=>⟨fun C E m a w hr=>wp_skip ⟨E,m,S,hK,.refl ..,hr⟩⟩,hN⟩
 | label l=>
   intro S e S' hN h
   simp [ZW] at h;obtain ⟨rfl,rfl⟩:=h
   exact ⟨fun K hK=>⟨fun C E m a w hr=>wp_label ⟨E,m,S,hK,.refl ..,hr⟩⟩,hN⟩
 | exit id=>
   intro S e S' hN h
   simp [ZW] at h;obtain ⟨rfl,rfl⟩:=h
   exact ⟨fun K hK=>⟨fun C E m a w hr=>wp_exit ⟨E,m,S,hK,.refl ..,hr⟩⟩,hN⟩
 | ret=>
   intro S e S' hN h
   simp [ZW] at h;obtain ⟨rfl,rfl⟩:=h
   exact ⟨fun K hK=>⟨fun C E m a w hr=>wp_ret ⟨E,m,S,hK,.refl ..,hr⟩⟩,hN⟩
 | seq x y ihx ihy=>
   intro S e S' hN h
   simp only [ZW] at h
   cases h1:ZW T call lf x S with
   | none=>rw [h1] at h;simp at h
   | some q=>
     obtain ⟨e1,S1⟩:=q
     rw [h1] at h
     obtain ⟨k1,k2⟩:=ihx S e1 S1 hN h1
     cases e1 with
     | normal=>
       obtain ⟨k3,k4⟩:=ihy S1 e S' k2 h
       exact ⟨fun K hK=>Z3n (k1 _ (k3 K hK)),k4⟩
     | exit id=>simp at h;obtain ⟨rfl,rfl⟩:=h;exact ⟨fun K hK=>Z3n (k1 _ hK),k2⟩
     | goto l=>simp at h;obtain ⟨rfl,rfl⟩:=h;exact ⟨fun K hK=>Z3n (k1 _ hK),k2⟩
     | ret=>simp at h;obtain ⟨rfl,rfl⟩:=h;exact ⟨fun K hK=>Z3n (k1 _ hK),k2⟩
     | panic ch=>simp at h;obtain ⟨rfl,rfl⟩:=h;exact ⟨fun K hK=>Z3n (k1 _ hK),k2⟩
     | outgrown=>simp at h;obtain ⟨rfl,rfl⟩:=h;exact ⟨fun K hK=>Z3n (k1 _ hK),k2⟩
 | cond c x y ihx ihy=>
   intro S e S' hN h
   simp only [ZW] at h
   cases he:evO S.t c <;> rw [he] at h <;> try (simp at h;done)
   rename_i b
   cases b with
   | true=>obtain ⟨k1,k2⟩:=ihx S e S' hN h;exact ⟨fun K hK=>Z9q he (k1 K hK),k2⟩
   | false=>obtain ⟨k1,k2⟩:=ihy S e S' hN h;exact ⟨fun K hK=>Z9q he (k1 K hK),k2⟩
 | block id c ih=>
   intro S e S' hN h
   simp only [ZW] at h
   cases h1:ZW T call lf c S with
   | none=>rw [h1] at h;simp at h
   | some q=>
     obtain ⟨e1,S1⟩:=q
     rw [h1] at h
     obtain ⟨k1,k2⟩:=ih S e1 S1 hN h1
     cases e1 with
     | exit j=>
       simp only at h
       cases hb:Nat.beq j id with
       | true=>rw [hb] at h;simp at h;obtain ⟨rfl,rfl⟩:=h;exact ⟨fun K hK=>Z23 (k1 _ (by simpa only [hb,cond_true] using hK)),k2⟩
       | false=>rw [hb] at h;simp at h;obtain ⟨rfl,rfl⟩:=h;exact ⟨fun K hK=>Z23 (k1 _ (by simpa only [hb,cond_false] using hK)),k2⟩
     | normal=>simp at h;obtain ⟨rfl,rfl⟩:=h;exact ⟨fun K hK=>Z23 (k1 _ hK),k2⟩
     | goto l=>simp at h;obtain ⟨rfl,rfl⟩:=h;exact ⟨fun K hK=>Z23 (k1 _ hK),k2⟩
     | ret=>simp at h;obtain ⟨rfl,rfl⟩:=h;exact ⟨fun K hK=>Z23 (k1 _ hK),k2⟩
     | panic ch=>simp at h;obtain ⟨rfl,rfl⟩:=h;exact ⟨fun K hK=>Z23 (k1 _ hK),k2⟩
     | outgrown=>simp at h;obtain ⟨rfl,rfl⟩:=h;exact ⟨fun K hK=>Z23 (k1 _ hK),k2⟩
 | region id ops draw=>
   intro S e S' hN h
   simp only [ZW] at h
   cases h1:Z49 T call ops draw S with
   | none=>rw [h1] at h;simp at h
   | some S1=>
     rw [h1] at h
     simp at h;obtain ⟨rfl,rfl⟩:=h
     exact ⟨fun K hK=>(Z8a hT hm hcall hN h1 hK).1,(Z8a (P:=P) (id:=id) (K:=fun _ S=>S=S1) hT hm hcall hN h1 rfl).2⟩
 | loop c ih=>
   intro S e S' hN h
   simp only [ZW] at h
   obtain ⟨k1,k2⟩:=Zcc ih lf S e S' hN h
   refine ⟨fun K hK=>⟨fun C E m a w hr=>?_⟩,k2⟩
   refine wp_mono (wp_loop_rounds lf (k1 C E m a w hr)) ?_
   rintro e2 a' w' ⟨E',m',rfl,q2,q3⟩
   exact ⟨E',m',S',hK,q2,q3⟩
 | rangeFunc f ps c d ih ih2=>intro S e S' hN h;simp [ZW] at h
 | scope c ih=>intro S e S' hN h;simp [ZW] at h
 | goto l=>intro S e S' hN h;simp [ZW] at h
 | refuse why=>intro S e S' hN h;simp [ZW] at h
theorem ZcW (hT:TabOk P T) {f:FuncId} {fn:Func} {c:Code} (hf:P.funcs[f]?=some fn) (hb:fn.body=some c) (hnm:(fn.name == "runtime.NumGoroutine")=false) {args:List SV} {H:List SB} {K:SV→List SB→Prop}
 (hl0:Nat.ble args.length fn.ntmps=true) (h:WpC P c (retK T fn.results.toList K) ⟨args++List.replicate (fn.ntmps - args.length) .dead,H⟩):Ctr P f args H K:=by
 have hl:args.length≤fn.ntmps:=Nat.le_of_ble_eq_true hl0
 refine ⟨fun C E m w hr ha=>?_⟩
 have hrun:(callFunc f (denL E args).toArray).run P w=.ok (.enter f (denL E args).toArray) w:=by
  have h1:fn.name ≠ "runtime.NumGoroutine":=by simpa using hnm
  simp [callFunc,hf,h1,hb]
 unfold Z2T
 rw [hrun]
 refine calls_of_wp hf hb ?_
 have hok:∀ (i:Nat) (x:SV),args[i]?=some x→Gd m (vers H) x:=fun i x hi=>Z8A ha hi
 have hrep:Rep E C m ⟨args++List.replicate (fn.ntmps - args.length) .dead,H⟩ { tmps:=(denL E args).toArray++Array.replicate (fn.ntmps - (denL E args).toArray.size) undef,defers:=[] } w:=by
  refine ⟨?_,?_,rfl,hr⟩
  ·simp [Z2O]
  ·intro i x v hx hv
   by_cases hi:i < args.length
   ·rw [List.getElem?_append_left hi] at hx
    rw [Array.getElem?_append_left (by simp [Z2O,hi])] at hv
    have hg:=hok i x hx
    simp only [List.getElem?_toArray,Z79,hx,Option.map_some,Option.some.injEq] at hv
    subst hv
    exact Z1p hg
   ·rw [List.getElem?_append_right (by omega)] at hx
    have:x=.dead:=by
     have:=List.mem_of_getElem? hx
     exact List.eq_of_mem_replicate this
    subst this
    exact trivial
 refine wp_mono (h.out C E m _ w hrep) ?_
 rintro e a' w' ⟨E',m',S',k1,k2,k3⟩
 exact Z9c hT k3 k1 fun r hK hg=>⟨_,rfl,r,S'.h,E',m',rfl,hK,hg,k2,k3.rel⟩
def FtOk (P:Program) (FT:FuncId→Option Func):Prop:=∀ f fn,FT f=some fn→P.funcs[f]?=some fn∧(fn.name == "runtime.NumGoroutine")=false
theorem ZgU (hT:TabOk P T) {f:FuncId} {fn:Func} {c:Code} (h1:P.funcs[f]?=some fn) (hb:fn.body=some c) (h2:(fn.name == "runtime.NumGoroutine")=false) {args:List SV} {H H':List SB} {r:SV} {e:Exit} {S:St} (hc:Nat.ble args.length fn.ntmps=true) (he:e=.normal∨e=.ret)
 (hru:ZaU P c ⟨args++List.replicate (fn.ntmps - args.length) .dead,H⟩ e S) (hres:rres T fn H S=some (r,H')):Ctr P f args H (fun r' h'=>r'=r∧h'=H'):=by
 unfold rres at hres
 cases hxs:resL T S fn.results.toList with
 | none=>rw [hxs] at hres;simp at hres
 | some xs=>
   rw [hxs] at hres
   have go:∀ x,(match xs with | [y]=>x=y | ys=>x=.tup ys)→some (fin false H x S.h)=some (r,H')→Ctr P f args H (fun r' h'=>r'=r∧h'=H'):=by
    intro x hx hfin
    have h3:Ctr P f args H (fun r' h'=>r'=x∧h'=S.h):=by
     refine ZcW hT h1 hb h2 hc (hru _ ?_)
     rcases he with rfl | rfl
     ·simp only [retK,hxs]
      match xs,hx with
      | [],hx=>exact ⟨hx.symm,trivial⟩
      | [y],hx=>exact ⟨hx.symm,trivial⟩
      | y::z::ys,hx=>exact ⟨hx.symm,trivial⟩
     ·simp only [retK,hxs]
      match xs,hx with
      | [],hx=>exact ⟨hx.symm,trivial⟩
      | [y],hx=>exact ⟨hx.symm,trivial⟩
      | y::z::ys,hx=>exact ⟨hx.symm,trivial⟩
    have h4:=ZaO ZK false h3
    simp only [Option.some.injEq] at hfin
    rw [hfin] at h4
    exact h4
   match xs,go,hres with
   | [],go,hres=>exact go _ rfl hres
   | [y],go,hres=>exact go _ rfl hres
   | y::z::ys,go,hres=>exact go _ rfl hres
end
inductive FTr:Type where
 | leaf
 | node (k:Nat) (v:Func) (l r:FTr)
def FTr.get:FTr→FuncId→Option Func
 | .leaf,_=>none
 | .node k v l r,t=>bif Nat.beq t k then some v else bif Nat.blt t k then l.get t else r.get t
def FTr.All (p:Nat→Func→Prop):FTr→Prop
 | .leaf=>True
 | .node k v l r=>p k v∧l.All p∧r.All p
theorem Z4W {p:Nat→Func→Prop}:∀ {tr:FTr},tr.All p→∀ {t:Nat} {fn:Func},tr.get t=some fn→p t fn
 | .leaf,_,t,ti,h=>by simp [FTr.get] at h
 | .node k v l r,ha,t,ti,h=>by
   simp only [FTr.get] at h
   cases h1:Nat.beq t k with
   | true=>
     rw [h1] at h
     have:=Nat.eq_of_beq_eq_true h1
     subst this
     simp only [cond_true,Option.some.injEq] at h
     subst h;exact ha.1
   | false=>
     rw [h1] at h
     simp only [cond_false] at h
     cases h2:Nat.blt t k <;> rw [h2] at h <;> simp only [cond_true,cond_false] at h
     ·exact Z4W ha.2.2 h
     ·exact Z4W ha.2.1 h
def FnOk (P:Program) (k:Nat) (fn:Func):Prop:=P.funcs[k]?=some fn∧(fn.name == "runtime.NumGoroutine")=false
theorem ZaV {P:Program} {tr:FTr} (h:tr.All (FnOk P)):FtOk P tr.get:=fun f fn hf=>Z4W h hf
end
section
universe u v w
noncomputable section
variable {α:Sort u} {β:Type v}
def Z2h (d:β) (l:List β):Nat→β:=@List.rec β (fun _=>Nat→β) (fun _=>d) (fun x _ ih n=>@Nat.rec (fun _=>β) x (fun m _=>ih m) n) l
theorem Z2l (d:β):∀ (l:List β) (n:Nat),Z2h d l n=l.getD n d
 | [],n=>by simp [Z2h]
 | x::r,0=>rfl
 | x::r,n+1=>by
   show Z2h d r n=_
   rw [Z2l d r n,List.getD_cons_succ]
def Za2 (l:List β):Nat→β→(List β→α)→α:=@List.rec β (fun _=>Nat→β→(List β→α)→α) (fun _ _ K=>K []) (fun x xs ih n v K=>@Nat.rec (fun _=>α) (K (v::xs)) (fun m _=>ih m v (fun ys=>K (x::ys))) n) l
theorem ZaW:∀ (l:List β) (n:Nat) (v:β) (K:List β→α),Za2 l n v K=K (l.set n v)
 | [],n,v,K=>by cases n <;> rfl
 | x::r,0,v,K=>rfl
 | x::r,n+1,v,K=>by
   show Za2 r n v (fun ys=>K (x::ys))=_
   rw [ZaW r n v];rfl
def Z4E (l m:List β):(List β→α)→α:=@List.rec β (fun _=>(List β→α)→α) (fun K=>K m) (fun x _ ih K=>ih (fun ys=>K (x::ys))) l
theorem Z4n:∀ (l m:List β) (K:List β→α),Z4E l m K=K (l++m)
 | [],m,K=>rfl
 | x::r,m,K=>by
   show Z4E r m (fun ys=>K (x::ys))=_
   rw [Z4n r m];rfl
def Za3 {γ:Type w} (f:β→γ) (l:List β):(List γ→α)→α:=@List.rec β (fun _=>(List γ→α)→α) (fun K=>K []) (fun x _ ih K=>ih (fun ys=>K (f x::ys))) l
theorem ZaX {γ:Type w} (f:β→γ):∀ (l:List β) (K:List γ→α),Za3 f l K=K (l.map f)
 | [],K=>rfl
 | x::r,K=>by
   show Za3 f r (fun ys=>K (f x::ys))=_
   rw [ZaX f r];rfl
def fSF (l:List SV):(List SV→α)→α:=@List.rec SV (fun _=>(List SV→α)→α) (fun K=>K []) (fun x _ ih K=>ih (fun ys=>K (x::ys))) l
theorem Z8b:∀ (l:List SV) (K:List SV→α),fSF l K=K l
 | [],K=>rfl
 | x::r,K=>by
   show fSF r (fun ys=>K (x::ys))=_
   rw [Z8b r]
def fBsF (l:List UInt8):(List UInt8→α)→α:=@List.rec UInt8 (fun _=>(List UInt8→α)→α) (fun K=>K []) (fun x _ ih K=>fBy x fun x=>ih (fun ys=>K (x::ys))) l
theorem Z8P:∀ (l:List UInt8) (K:List UInt8→α),fBsF l K=K l
 | [],K=>rfl
 | x::r,K=>by
   show fBy x (fun x=>fBsF r (fun ys=>K (x::ys)))=_
   rw [ZdQ,Z8P r]
def fVF (v:SV) (K:SV→α):α:=match v with
 | .i k n=>fI n fun n=>K (.i k n)
 | .b true=>K (.b true)
 | .b false=>K (.b false)
 | .s l=>fBsF l fun l=>K (.s l)
 | .ptr k ver off ix=>fN k fun k=>fN ver fun ver=>fN off fun off=>K (.ptr k ver off ix)
 | .sl k ver off len cap dc=>fN k fun k=>fN ver fun ver=>fN off fun off=>fN len fun len=>fO cap fun cap=>fN dc fun dc=>K (.sl k ver off len cap dc)
 | .agg cs=>fSF cs fun cs=>K (.agg cs)
 | .tup cs=>fSF cs fun cs=>K (.tup cs)
 | .fn f cs=>fSF cs fun cs=>K (.fn f cs)
 | .map k=>fN k fun k=>K (.map k)
 | .iface t x=>K (.iface t x)
 | .bm t x=>K (.bm t x)
 | v=>K v
theorem Z5g (v:SV) (K:SV→α):fVF v K=K v:=by
 cases v <;> simp only [fVF,ZcQ,Z8P,Z1s,Z9Z,Z8b]
 rename_i x;cases x <;> rfl
def fBF (B:SB) (K:SB→α):α:=match B with
 | .mem t segs v g=>fSF segs fun segs=>fN v fun v=>K (.mem t segs v g)
 | .mp kv v=>fM kv fun kv=>K (.mp kv v)
 | .gone v=>K (.gone v)
 | .fresh=>K .fresh
theorem fBF_eq (B:SB) (K:SB→α):fBF B K=K B:=by cases B <;> simp only [fBF,Z8b,Z1s,Za0]
def ZcX (l:List (Nat×SB)):List SB→(List SB→α)→α:=@List.rec (Nat×SB) (fun _=>List SB→(List SB→α)→α) (fun h K=>K h) (fun p _ ih h K=>fBF p.2 fun B=>Za2 h p.1 B fun h=>ih h K) l
theorem ZaY:∀ (l:List (Nat×SB)) (h:List SB) (K:List SB→α),ZcX l h K=K (setB h l)
 | [],h,K=>rfl
 | (k,B)::r,h,K=>by
   show fBF B (fun B=>Za2 h k B fun h=>ZcX r h K)=_
   rw [fBF_eq,ZaW,ZaY r];rfl
def ZaZ (n:Nat):(List SB→α)→α:=@Nat.rec (fun _=>(List SB→α)→α) (fun K=>K []) (fun _ ih K=>ih fun l=>K (.fresh::l)) n
theorem Z9r:∀ (n:Nat) (K:List SB→α),ZaZ n K=K (List.replicate n .fresh)
 | 0,K=>rfl
 | n+1,K=>by
   show ZaZ n (fun l=>K (.fresh::l))=_
   rw [Z9r n,List.replicate_succ]
end
noncomputable section
def Z4F (l:List SV):Nat→Option (List SV):=@List.rec SV (fun _=>Nat→Option (List SV)) (fun n=>@Nat.rec (fun _=>Option (List SV)) (some []) (fun _ _=>none) n)
 (fun x xs ih n=>@Nat.rec (fun _=>Option (List SV)) (some (x::xs)) (fun m _=>bif Nat.ble (wd x) (m+1) then ih (m+1 - wd x) else none) n) l
theorem Z4o:∀ (l:List SV) (n:Nat),Z4F l n=ZI l n
 | [],0=>rfl
 | [],n+1=>rfl
 | x::r,0=>rfl
 | x::r,n+1=>by
   show (bif Nat.ble (wd x) (n+1) then Z4F r (n+1 - wd x) else none)=ZI (x::r) (n+1)
   rw [Z4o r,ZI]
def Z8c (l:List SV):Nat→Option (List SV):=@List.rec SV (fun _=>Nat→Option (List SV)) (fun n=>@Nat.rec (fun _=>Option (List SV)) (some []) (fun _ _=>none) n)
 (fun x xs ih n=>@Nat.rec (fun _=>Option (List SV)) (some []) (fun m _=>bif Nat.ble (wd x) (m+1) then @Option.rec _ (fun _=>Option (List SV)) none (fun r=>some (x::r)) (ih (m+1 - wd x)) else none) n) l
theorem Z5M:∀ (l:List SV) (n:Nat),Z8c l n=Z17 l n
 | [],0=>rfl
 | [],n+1=>rfl
 | x::r,0=>rfl
 | x::r,n+1=>by
   show (bif Nat.ble (wd x) (n+1) then @Option.rec _ (fun _=>Option (List SV)) none (fun q=>some (x::q)) (Z8c r (n+1 - wd x)) else none)=Z17 (x::r) (n+1)
   rw [Z5M r,Z17]
   cases Z17 r (n+1 - wd x) <;> rfl
def wdLF (l:List SV):Nat:=@List.rec SV (fun _=>Nat) 0 (fun x _ ih=>wd x+ih) l
theorem Z5h:∀ l:List SV,wdLF l=wdL l
 | []=>rfl
 | x::r=>by show wd x+wdLF r=_;rw [Z5h r,wdL]
def splF (new:List SV) (wn:Nat) (l:List SV):Nat→Option (List SV):=@List.rec SV (fun _=>Nat→Option (List SV))
 (fun n=>@Nat.rec (fun _=>Option (List SV)) (@Option.rec _ (fun _=>Option (List SV)) none (fun post=>Z4E new post some) (Z4F [] wn)) (fun _ _=>none) n)
 (fun x xs ih n=>@Nat.rec (fun _=>Option (List SV)) (@Option.rec _ (fun _=>Option (List SV)) none (fun post=>Z4E new post some) (Z4F (x::xs) wn))
  (fun m _=>bif Nat.ble (wd x) (m+1) then @Option.rec _ (fun _=>Option (List SV)) none (fun r=>some (x::r)) (ih (m+1 - wd x)) else none) n) l
def Z6I (segs:List SV) (off:Nat) (new:List SV):Option (List SV):=splF new (wdLF new) segs off
theorem Z8Q {β γ:Type _} (o:Option β) (f:β→Option γ):@Option.rec β (fun _=>Option γ) none f o=(match o with | some x=>f x | none=>none):=by cases o <;> rfl
theorem ZcY:∀ (segs:List SV) (off:Nat) (new:List SV),Z6I segs off new=Z1i segs off new:=by
 intro segs
 induction segs with
 | nil=>
   intro off new
   cases off with
   | zero=>
     show @Option.rec _ (fun _=>Option (List SV)) none (fun post=>Z4E new post some) (Z4F [] (wdLF new))=_
     rw [Z8Q,Z4o,Z5h,Z1i,Z4a]
     simp only [Z17,Nat.zero_add,Z4n,List.nil_append]
     cases ZI [] (wdL new) <;> rfl
   | succ n=>rfl
 | cons x r ih=>
   intro off new
   cases off with
   | zero=>
     show @Option.rec _ (fun _=>Option (List SV)) none (fun post=>Z4E new post some) (Z4F (x::r) (wdLF new))=_
     rw [Z8Q,Z4o,Z5h,Z1i,Z4a]
     simp only [Z17,Nat.zero_add,Z4n,List.nil_append]
     cases ZI (x::r) (wdL new) <;> rfl
   | succ n=>
     show (bif Nat.ble (wd x) (n+1) then @Option.rec _ (fun _=>Option (List SV)) none (fun q=>some (x::q)) (Z6I r (n+1 - wd x) new) else none)=_
     rw [ih,Z8Q,Z1i,Z1i,Z4a,Z4a]
     simp only [Z17]
     cases hb:Nat.ble (wd x) (n+1) with
     | false=>rfl
     | true=>
       have hle:=Nat.le_of_ble_eq_true hb
       simp only [cond_true]
       have e1:ZI (x::r) (n+1+wdL new)=ZI r (n+1 - wd x+wdL new):=by
        rw [show n+1+wdL new=(n+wdL new)+1 by omega,ZI,Nat.ble_eq_true_of_le (show wd x≤n+wdL new+1 by omega)]
        simp only [cond_true]
        congr 1;omega
       rw [e1]
       cases Z17 r (n+1 - wd x) with
       | none=>rfl
       | some pre=>cases ZI r (n+1 - wd x+wdL new) <;> rfl
def rdF (agg:Bool) (size:Nat) (segs:List SV):Option SV:=
 bif agg then (match Z8c segs size with | some cs=>some (.agg cs) | none=>none)
 else match segs with
  | x::_=>bif Z27 x then some x else none
  | []=>none
theorem ZdW (agg:Bool) (size:Nat) (segs:List SV):rdF agg size segs=rdT agg size segs:=by unfold rdF rdT;rw [Z5M];rfl
inductive Tre:Type 1 where
 | e
 | n (l:Tre) (v:SV) (r:Tre)
def Tre.get (t:Tre):Nat→SV:=@Tre.rec (fun _=>Nat→SV) (fun _=>.dead) (fun _ v _ il ir k=>@Nat.rec (fun _=>SV) v (fun m _=>bif Nat.beq (Nat.land m 1) 0 then il (Nat.div m 2) else ir (Nat.div m 2)) k) t
def Tre.set {α:Sort u} (t:Tre):Nat→SV→(Tre→α)→α:=@Tre.rec (fun _=>Nat→SV→(Tre→α)→α) (fun _ _ K=>K .e)
 (fun l v r il ir k x K=>@Nat.rec (fun _=>α) (K (.n l x r)) (fun m _=>bif Nat.beq (Nat.land m 1) 0 then il (Nat.div m 2) x (fun l'=>K (.n l' v r)) else ir (Nat.div m 2) x (fun r'=>K (.n l v r'))) k) t
def Tre.in (t:Tre):Nat→Prop:=@Tre.rec (fun _=>Nat→Prop) (fun _=>False) (fun _ v _ il ir k=>@Nat.rec (fun _=>Prop) True (fun m _=>bif Nat.beq (Nat.land m 1) 0 then il (Nat.div m 2) else ir (Nat.div m 2)) k) t
def Tre.upd (t:Tre):Nat→SV→Tre:=@Tre.rec (fun _=>Nat→SV→Tre) (fun _ _=>.e)
 (fun l v r il ir k x=>@Nat.rec (fun _=>Tre) (.n l x r) (fun m _=>bif Nat.beq (Nat.land m 1) 0 then .n (il (Nat.div m 2) x) v r else .n l v (ir (Nat.div m 2) x)) k) t
theorem Z2m (l r:Tre) (v:SV) (m:Nat) (x:SV):(Tre.n l v r).upd (m+1) x=bif Nat.beq (Nat.land m 1) 0 then Tre.n (l.upd (Nat.div m 2) x) v r else Tre.n l v (r.upd (Nat.div m 2) x):=rfl
theorem Z3Y {α:Sort u}:∀ (t:Tre) (k:Nat) (x:SV) (K:Tre→α),t.set k x K=K (t.upd k x)
 | .e,k,x,K=>rfl
 | .n l v r,0,x,K=>rfl
 | .n l v r,m+1,x,K=>by
   have e1:(Tre.n l v r).set (m+1) x K=bif Nat.beq (Nat.land m 1) 0 then l.set (Nat.div m 2) x (fun l'=>K (.n l' v r)) else r.set (Nat.div m 2) x (fun r'=>K (.n l v r')):=rfl
   rw [e1,Z2m]
   cases Nat.beq (Nat.land m 1) 0 <;> simp only [cond_true,cond_false]
   ·rw [Z3Y r]
   ·rw [Z3Y l]
theorem Z3g (l r:Tre) (v:SV) (m:Nat):(Tre.n l v r).get (m+1)=bif Nat.beq (Nat.land m 1) 0 then l.get (Nat.div m 2) else r.get (Nat.div m 2):=rfl
theorem Z4X (l r:Tre) (v:SV) (m:Nat):(Tre.n l v r).in (m+1)=bif Nat.beq (Nat.land m 1) 0 then l.in (Nat.div m 2) else r.in (Nat.div m 2):=rfl
theorem Zb0 {a b:Nat} (h1:Nat.beq (Nat.land a 1) 0=Nat.beq (Nat.land b 1) 0) (h2:Nat.div a 2=Nat.div b 2):a=b:=by
 have e:∀ n,Nat.land n 1=n % 2:=fun n=>Nat.and_one_is_mod n
 have h2':a / 2=b / 2:=h2
 rw [e,e] at h1
 have ha:=Nat.mod_two_eq_zero_or_one a
 have hb:=Nat.mod_two_eq_zero_or_one b
 rcases ha with ha | ha <;> rcases hb with hb | hb <;> rw [ha,hb] at h1 <;> first | omega | (simp at h1)
theorem Z3E:∀ (t:Tre) (k j:Nat) (x:SV),t.in k→(t.upd k x).get j=if j=k then x else t.get j
 | .e,k,j,x,h=>h.elim
 | .n l v r,0,0,x,h=>rfl
 | .n l v r,0,j+1,x,h=>rfl
 | .n l v r,k+1,0,x,h=>by
   rw [Z2m]
   cases Nat.beq (Nat.land k 1) 0 <;> rfl
 | .n l v r,k+1,j+1,x,h=>by
   rw [Z2m,Z3g]
   rw [Z4X] at h
   cases hk:Nat.beq (Nat.land k 1) 0 with
   | true=>
     rw [hk] at h
     simp only [cond_true] at h ⊢
     rw [Z3g]
     cases hj:Nat.beq (Nat.land j 1) 0 with
     | true=>
       simp only [cond_true]
       rw [Z3E l _ _ x h]
       by_cases hjk:j=k
       ·subst hjk;simp
       ·rw [if_neg (fun e=>hjk (Zb0 (by rw [hj,hk]) e)),if_neg (by omega)]
     | false=>
       simp only [cond_false]
       rw [if_neg (fun e=>by have:j=k:=by omega
                             subst this;rw [hk] at hj;cases hj)]
   | false=>
     rw [hk] at h
     simp only [cond_false] at h ⊢
     rw [Z3g]
     cases hj:Nat.beq (Nat.land j 1) 0 with
     | true=>
       simp only [cond_true]
       rw [if_neg (fun e=>by have:j=k:=by omega
                             subst this;rw [hk] at hj;cases hj)]
     | false=>
       simp only [cond_false]
       rw [Z3E r _ _ x h]
       by_cases hjk:j=k
       ·subst hjk;simp
       ·rw [if_neg (fun e=>hjk (Zb0 (by rw [hj,hk]) e)),if_neg (by omega)]
theorem Z3Z:∀ (t:Tre) (k j:Nat) (x:SV),(t.upd k x).in j ↔ t.in j
 | .e,k,j,x=>Iff.rfl
 | .n l v r,0,j,x=>Iff.rfl
 | .n l v r,k+1,0,x=>by
   rw [Z2m]
   cases Nat.beq (Nat.land k 1) 0 <;> exact Iff.rfl
 | .n l v r,k+1,j+1,x=>by
   rw [Z2m]
   cases Nat.beq (Nat.land k 1) 0 <;> simp only [cond_true,cond_false,Z4X] <;> cases Nat.beq (Nat.land j 1) 0 <;> simp only [cond_true,cond_false]
   ·exact Z3Z r _ _ x
   ·exact Z3Z l _ _ x
def Za4 {α:Sort u} (d:Nat):(Tre→α)→α:=@Nat.rec (fun _=>(Tre→α)→α) (fun K=>K .e) (fun _ ih K=>ih fun t=>K (.n t .dead t)) d
def full:Nat→Tre
 | 0=>.e
 | d+1=>.n (full d) .dead (full d)
theorem Zb1 {α:Sort u}:∀ (d:Nat) (K:Tre→α),Za4 d K=K (full d)
 | 0,K=>rfl
 | d+1,K=>by
   show Za4 d (fun t=>K (.n t .dead t))=_
   rw [Zb1 d];rfl
theorem Zcd:∀ (d k:Nat),k+1 < 2 ^ d→(full d).in k
 | 0,k,h=>by simp at h
 | d+1,0,h=>trivial
 | d+1,k+1,h=>by
   show (Tre.n (full d) .dead (full d)).in (k+1)
   rw [Z4X]
   have:Nat.div k 2+1 < 2 ^ d:=by
    have:Nat.div k 2=k / 2:=rfl
    rw [Nat.pow_succ] at h
    omega
   cases Nat.beq (Nat.land k 1) 0 <;> exact Zcd d _ this
theorem Zb2:∀ (d k:Nat),(full d).get k=.dead
 | 0,k=>rfl
 | d+1,0=>rfl
 | d+1,k+1=>by
   show (Tre.n (full d) .dead (full d)).get (k+1)=_
   rw [Z3g]
   cases Nat.beq (Nat.land k 1) 0 <;> exact Zb2 d _
structure CS:Type 1 where
 tr:Tre
 n:Nat
 h:List SB
def CS.st (c:CS):St:=⟨(List.range c.n).map c.tr.get,c.h⟩
def CS.wf (c:CS):Prop:=∀ k,k < c.n→c.tr.in k
def sl (tr:Tre) (n k:Nat):SV:=bif Nat.blt k n then tr.get k else .dead
def evF (tr:Tre) (n:Nat) (o:Operand):SV:=match o with
 | .tmp k=>sl tr n k
 | .const v=>ofV v
 | .global g=>gV g
 | .func f=>.fn f []
theorem sl_eq (c:CS) (k:Nat):sl c.tr c.n k=c.st.t.getD k .dead:=by
 unfold sl CS.st
 rw [List.getD_eq_getElem?_getD,List.getElem?_map]
 cases hb:Nat.blt k c.n with
 | true=>
   have:=Nat.le_of_ble_eq_true hb
   simp [show k < c.n from this]
 | false=>
   have:¬ k < c.n:=fun h=>by have:=Nat.ble_eq_true_of_le h;rw [show Nat.ble (k+1) c.n=Nat.blt k c.n from rfl,hb] at this;cases this
   simp [this]
theorem Z6i (c:CS):evF c.tr c.n=evO c.st.t:=by
 funext o
 cases o <;> simp only [evF,evO]
 exact sl_eq c _
def CS.put (c:CS) (d:Nat) (v:SV):CS:=bif Nat.blt d c.n then ⟨c.tr.upd d v,c.n,c.h⟩ else c
theorem CS.put_st (c:CS) (hw:c.wf) (d:Nat) (v:SV):(c.put d v).st=⟨c.st.t.set d v,c.h⟩:=by
 unfold CS.put
 cases hb:Nat.blt d c.n with
 | true=>
   have hd:d < c.n:=Nat.le_of_ble_eq_true hb
   simp only [cond_true,CS.st]
   congr 1
   apply List.ext_getElem?
   intro j
   rw [List.getElem?_set,List.getElem?_map]
   by_cases hj:j < c.n
   ·simp only [List.getElem?_range,hj,Option.map_some,List.length_map,List.length_range,List.getElem?_map]
    rw [Z3E _ _ _ _ (hw d hd)]
    by_cases hjd:d=j
    ·subst hjd;simp [hd]
    ·rw [if_neg (fun e=>hjd e.symm),if_neg hjd]
   ·have hdj:d≠j:=fun e=>hj (e ▸ hd)
    simp [hj,hdj]
 | false=>
   have hd:¬ d < c.n:=fun h=>by have:=Nat.ble_eq_true_of_le h;rw [show Nat.ble (d+1) c.n=Nat.blt d c.n from rfl,hb] at this;cases this
   simp only [cond_false,CS.st]
   rw [List.set_eq_of_length_le (by simp;omega)]
theorem CS.put_wf (c:CS) (hw:c.wf) (d:Nat) (v:SV):(c.put d v).wf∧(c.put d v).n=c.n∧(c.put d v).h=c.h:=by
 unfold CS.put
 cases hb:Nat.blt d c.n with
 | true=>exact ⟨fun k hk=>(Z3Z _ _ _ _).2 (hw k hk),rfl,rfl⟩
 | false=>exact ⟨hw,rfl,rfl⟩
def Z6J {α:Sort u} (tr:Tre) (n:Nat) (h:List SB) (d:Option Nat) (v:SV) (K:CS→α):α:=match d with
 | some d=>bif Nat.blt d n then tr.set d v fun tr=>K ⟨tr,n,h⟩ else K ⟨tr,n,h⟩
 | none=>K ⟨tr,n,h⟩
def CS.putO (c:CS) (d:Option Nat) (v:SV):CS:=match d with
 | some d=>c.put d v
 | none=>c
theorem Zb3 {α:Sort u} (c:CS) (d:Option Nat) (v:SV) (K:CS→α):Z6J c.tr c.n c.h d v K=K (c.putO d v):=by
 cases d with
 | none=>rfl
 | some d=>
   simp only [Z6J,CS.putO,CS.put,Z3Y]
   cases Nat.blt d c.n <;> rfl
theorem CS.putO_st (c:CS) (hw:c.wf) (d:Option Nat) (v:SV):(c.putO d v).st=⟨setT c.st.t d v,c.h⟩:=by
 cases d with
 | none=>rfl
 | some d=>exact c.put_st hw d v
theorem CS.putO_wf (c:CS) (hw:c.wf) (d:Option Nat) (v:SV):(c.putO d v).wf∧(c.putO d v).n=c.n∧(c.putO d v).h=c.h:=by
 cases d with
 | none=>exact ⟨hw,rfl,rfl⟩
 | some d=>exact c.put_wf hw d v
end
end
section
universe u
noncomputable section
def Za5 (T:Tb) (h:List SB) (t:TypeId) (p:SV):Option SV:=
 match T t with
 | some ti=>(match p with
   | .ptr k ver off []=>(match Z2h .fresh h k with
     | .mem _ segs ver' gw=>(match Z4F segs off with
       | some l=>(match rdF ti.k.agg ti.size l with
         | some x=>bif Nat.beq gw 0||Nat.beq ver ver' then some x else none
         | none=>none)
       | none=>none)
     | _=>none)
   | p=>(Z20 T h t p).get)
 | none=>none
theorem ZfO (T:Tb) (h:List SB) (t:TypeId) (p:SV):Za5 T h t p=(Z20 T h t p).get:=by
 unfold Za5
 cases ht:T t with
 | none=>simp [Z20,ht,R.get]
 | some ti=>
   simp only
   split
   ·rename_i k ver off
    simp only [Z20,ht,Z2l]
    cases h.getD k .fresh <;> try rfl
    rename_i ty segs ver' gw
    simp only [nav,Z4o]
    have hn:∀ l:List SV,navI l []=.ok l:=fun l=>by cases l <;> rfl
    cases gw with
    | zero=>
      cases ZI segs off with
      | none=>rfl
      | some l=>
        simp only [hn,rdR,ZdW]
        cases rdT ti.k.agg ti.size l <;> rfl
    | succ gw=>
      have hz:Nat.beq (gw+1) 0=false:=rfl
      cases ZI segs off with
      | none=>rfl
      | some l=>
        simp only [hn,rdR,ZdW,hz,Bool.false_or]
        cases rdT ti.k.agg ti.size l with
        | none=>rfl
        | some x=>
          simp only [andR,R.get]
          by_cases hv:ver=ver'
          ·subst hv
           rw [show instDecidableEqNat ver ver=.isTrue rfl from by cases instDecidableEqNat ver ver with
            | isTrue _=>rfl
            | isFalse h=>exact absurd rfl h]
           simp
          ·have:Nat.beq ver ver'=false:=by
            cases hb:Nat.beq ver ver' with
            | false=>rfl
            | true=>exact absurd (Nat.eq_of_beq_eq_true hb) hv
           rw [this]
           cases instDecidableEqNat ver ver' with
           | isTrue h=>exact absurd h hv
           | isFalse _=>rfl
   ·rfl
def Za6 (T:Tb) (h:List SB) (ev:Operand→SV) (op:Op):Option SV:=
 match op with
 | .load t p=>Za5 T h t (ev p)
 | op=>(Zx T h ev op).get
theorem ZfP (T:Tb) (h:List SB) (ev:Operand→SV) (op:Op):Za6 T h ev op=(Zx T h ev op).get:=by
 cases op <;> simp only [Za6]
 rw [ZfO];rfl
def valF (o:Oper) (x:SV) (rb:List Nat) (n:Nat):Option (Eff×Nat):=
 bif notG x then fVF x fun x=>some (⟨o.dst,x,Zc o [],rb,[]⟩,n) else none
theorem Zce (o:Oper) (x:SV) (rb:List Nat) (n:Nat):valF o x rb n=valE o x rb n:=by simp only [valF,valE,Z5g,Z3W]
def newF (h:List SB) (o:Oper) (B:SB) (x:SV) (n:Nat):Option (Eff×Nat):=
 match Z2h (.gone 0) h n with
 | .fresh=>some (⟨o.dst,x,Zc o [],[n],[(n,B)]⟩,n+1)
 | _=>none
theorem Zcf (h:List SB) (o:Oper) (B:SB) (x:SV) (n:Nat):newF h o B x n=newE h o B x n:=by
 simp only [newF,newE,Z2l]
 all_goals rfl
def Z8d (T:Tb) (n:Nat) (o:Oper) (ev:Operand→SV) (h:List SB):Option (Eff×Nat):=
 match o.op with
 | .pick c a b=>(match ev c with
   | .b x=>valF o (bif x then ev a else ev b) [] n
   | _=>none)
 | .box ty x=>bif Zs (ev x) then newF h o (.mem ty (Zj (ev x)) 1 0) (.ptr n 1 0 []) n else none
 | .alloc ty=>(match T ty with
   | some ti=>newF h o (.mem ty ti.zero 1 0) (.ptr n 1 0 []) n
   | none=>none)
 | .buildSlice ty len parts=>(match T ty with
   | some ti=>match ti.k with
     | .slice e=>match T e with
       | some te=>bif !(Nat.ble (len * te.size) 16777216)||Nat.beq te.size 0 then none else match ZZ te.size (parts.toList.map fun q=>(q.1,ev q.2)) (ZF len te.zero) with
         | some segs=>newF h o (.mem e (Z2s ti.flat te len segs) 1 0) (.sl n 1 0 len (some len) 0) n
         | none=>none
       | none=>none
     | _=>none
   | none=>none)
 | .makeSlice ty l c=>(match T ty,ev l,ev c with
   | some ti,.i _ (.ofNat m),.i _ (.ofNat m')=>match ti.k with
     | .slice e=>match T e with
       | some te=>bif !(Nat.beq m m')||(!(Nat.ble (m * te.bytes) 16777216)||(!(Nat.ble (m * te.size) 16777216)||Nat.beq te.size 0)) then none else newF h o (.mem e (Z2s ti.flat te m (ZF m te.zero)) 1 0) (.sl n 1 0 m (some m) 0) n
       | none=>none
     | _=>none
   | _,_,_=>none)
 | .store ty x v=>(match T ty,ev x with
   | some ti,.ptr k ver off ix=>match Z2h .fresh h k with
     | .mem ty' segs ver' gr=>bif Zs (ev v)&&Nat.beq (wdLF (Zj (ev v))) ti.size&&(Nat.beq gr 0||Nat.beq ver ver') then
      (match (match ix with | []=>Z6I segs off (Zj (ev v)) | _::_=>none) with
      | some segs'=>some (⟨o.dst,.dead,Zc o [],[k],[(k,.mem ty' segs' ver' gr)]⟩,n)
      | none=>none) else none
     | _=>none
   | _,_=>none)
 | op=>(match Za6 T h ev op with
   | some x=>valF o x (Z2B ev op) n
   | none=>none)
theorem ZfQ (T:Tb) (n:Nat) (o:Oper) (S:St):Z8d T n o (evO S.t) S.h=eff1 T n o S:=by
 unfold Z8d eff1
 simp only [Zce,Zcf,Z2l,Z5h,ZfP,ZcY,updO]
 all_goals rfl
def Z4p (segs:List SV) (off n:Nat):Option (List SV):=
 match Z4F segs off with
 | some l=>Z8c l n
 | none=>none
theorem Z4Y (segs:List SV) (off n:Nat):Z4p segs off n=Z1B segs off n:=by
 simp only [Z4p,Z1B,Z4o,Z5M]
 all_goals rfl
def strF (T:Tb) (h:List SB) (src dst:TypeId) (x:SV):Option (SV×List Nat):=
 match T src,T dst with
 | some ti,some td=>match ti.k with
   | .slice e=>match T e with
     | some te=>bif isU8 te.k&&Z3X td.k then (match x with
       | .nils=>some (.s [],[])
       | .sl k ver off len _ _=>(match len with
         | 0=>some (.s [],[])
         | _+1=>(match Z2h .fresh h k with
           | .mem _ segs ver' _=>bif Nat.beq ver ver'&&!Nat.beq ver 0 then (match Z4p segs off len with
             | some l=>(match Z1W l with
               | some ns=>some (.s (Z48 ns),[k])
               | none=>none)
             | none=>none) else none
           | _=>none))
       | _=>none) else none
     | none=>none
   | _=>none
 | _,_=>none
theorem ZgV (T:Tb) (h:List SB) (src dst:TypeId) (x:SV):strF T h src dst x=strR T h src dst x:=by
 unfold strF strR
 simp only [Z2l,Z4Y]
 all_goals rfl
def srcF (T:Tb) (h:List SB) (tx:TypeId) (sz:Nat) (x:SV):Option (Nat×List SV×List Nat):=
 match T tx with
 | some ti=>match ti.k,x with
   | .slice _,.nils=>some (0,[],[])
   | .slice _,.sl j vj off n _ _=>(match n with
     | 0=>some (0,[],[])
     | n+1=>(match Z2h .fresh h j with
       | .mem _ segs vj' _=>bif Nat.beq vj vj'&&!Nat.beq vj 0 then (match Z4p segs off ((n+1) * sz) with
         | some l=>some (n+1,l,[j])
         | none=>none) else none
       | _=>none))
   | .str,.s l=>bif Nat.beq sz 1 then some (l.length,[.ints .u8 l.length (Z5d l)],[]) else none
   | _,_=>none
 | none=>none
theorem ZgW (T:Tb) (h:List SB) (tx:TypeId) (sz:Nat) (x:SV):srcF T h tx sz x=srcO T h tx sz x:=by
 unfold srcF srcO
 simp only [Z2l,Z4Y]
 all_goals rfl
def Z6K (a b:List SV):List SV:=Z4E a b id
theorem Zb4 (a b:List SV):Z6K a b=a++b:=by simp only [Z6K,Z4n,id]
def appF (T:Tb) (p:Nat) (o:Oper) (ev:Operand→SV) (h:List SB) (s x:Operand) (ty tx:TypeId):Option Eff:=
 match T ty with
 | some ti=>match ti.k with
   | .slice e=>match T e with
     | some te=>match te.size with
       | g+1=>match srcF T h tx (g+1) (ev x) with
         | some (n,news,rb)=>match ev s with
           | .nils=>(match n with
             | 0=>some ⟨o.dst,.nils,Zc o [],rb,[]⟩
             | n+1=>bif isFr (Z2h (.gone 0) h p)&&Nat.ble (0+(n+1)) maxLen&&Nat.ble ((0+(n+1)) * te.bytes) 140737488355328 then some (appE o p 0 (n+1) g e (Z6K [] (Z2g news)) ([]++rb)) else none)
           | .sl k ver off len (some c) dc=>(match n with
             | 0=>bif Nat.ble len c then some ⟨o.dst,.sl k ver off len (some c) dc,Zc o [],rb,[]⟩ else none
             | n+1=>bif Nat.ble (len+(n+1)) c then none else
               (match (match len with
                | 0=>some (([]:List SV),([]:List Nat))
                | len+1=>(match Z2h .fresh h k with
                  | .mem _ segs ver' _=>bif Nat.beq ver ver'&&!Nat.beq ver 0 then (match Z4p segs off ((len+1) * (g+1)) with
                    | some l=>some (l,[k])
                    | none=>none) else none
                  | _=>none)) with
               | some (olds,rb1)=>bif isFr (Z2h (.gone 0) h p)&&Nat.ble (len+(n+1)) maxLen&&Nat.ble ((len+(n+1)) * te.bytes) 140737488355328 then some (appE o p len (n+1) g e (Z6K olds (Z2g news)) (rb1++rb)) else none
               | none=>none))
           | .sl k ver 0 len none 0=>(match Z2h .fresh h k with
             | .mem e' segs ver' (g'+1)=>bif Nat.beq e' e&&Nat.beq ver ver'&&Nat.beq g' g then
              Z7Y o k ver len g e te.bytes (wdLF segs) rb (Z8c segs (len * (g+1))) news n else none
             | _=>none)
           | _=>none
         | none=>none
       | 0=>none
     | none=>none
   | _=>none
 | none=>none
theorem ZgX (T:Tb) (p:Nat) (o:Oper) (S:St) (s x:Operand) (ty tx:TypeId):appF T p o (evO S.t) S.h s x ty tx=appR T p o S s x ty tx:=by
 unfold appF appR
 simp only [Z2l,Z4Y,ZgW,Z5h,Zb4,Z5M]
 all_goals rfl
def Z5N (T:Tb) (n:Nat) (o:Oper) (ev:Operand→SV) (h:List SB):Option (Eff×Nat):=
 match o.op with
 | .call ⟨.builtin .append,args,ats⟩=>(match args.toList,ats.toList with
   | [s,x],[ty,tx]=>(match appF T n o ev h s x ty tx with
     | some e=>fVF e.v fun v=>some ({ e with v:=v },n)
     | none=>none)
   | _,_=>none)
 | .makeMap ty r=>(match r with
   | none=>newF h o (.mp [] 1) (.map n) n
   | some _=>none)
 | .lookup ty x k ok=>(match Z3B T h ty (ev x) (ev k) ok with
   | some (v,rb)=>valF o v rb n
   | none=>none)
 | .mapUpdate ty x k v=>(match T ty,ev x,ev k with
   | some ti,.map j,.s l=>(match ti.k with
     | .map kt et=>(match T kt,Z2h .fresh h j with
       | some tk,.mp kv ver=>bif Z3X tk.k&&live (ev v) then (match putM l (ev v) kv with
         | some kv'=>some (⟨o.dst,.dead,Zc o [],[j],[(j,.mp kv' ver)]⟩,n)
         | none=>none) else none
       | _,_=>none)
     | _=>none)
   | _,_,_=>none)
 | .convert src dst x=>(match strF T h src dst (ev x) with
   | some (v,rb)=>valF o v rb n
   | none=>Z8d T n o ev h)
 | _=>Z8d T n o ev h
theorem Zb5 (T:Tb) (n:Nat) (o:Oper) (S:St):Z5N T n o (evO S.t) S.h=eff2 T n o S:=by
 unfold Z5N eff2
 simp only [Z2l,ZgX,Zcf,Zce,ZgV,ZfQ,Z5g,Z3W]
 all_goals rfl
end
end
section
universe u
noncomputable section
section
variable {α:Sort u}
def fVi (k:IntKind) (n:Int) (K:SV→α):α:=fI n fun n=>K (.i k n)
def fVb (b:Bool) (K:SV→α):α:=match b with
 | true=>K (.b true)
 | false=>K (.b false)
def fVst (l:List UInt8) (K:SV→α):α:=fBsF l fun l=>K (.s l)
def fVp (k ver off:Nat) (ix:List Ix) (K:SV→α):α:=fN k fun k=>fN ver fun ver=>fN off fun off=>K (.ptr k ver off ix)
def fVl (k ver off len:Nat) (cap:Option Nat) (dc:Nat) (K:SV→α):α:=fN k fun k=>fN ver fun ver=>fN off fun off=>fN len fun len=>fO cap fun cap=>fN dc fun dc=>K (.sl k ver off len cap dc)
def fVa (cs:List SV) (K:SV→α):α:=fSF cs fun cs=>K (.agg cs)
def fVt (cs:List SV) (K:SV→α):α:=fSF cs fun cs=>K (.tup cs)
def fVg (v:SV) (K:SV→α):α:=match v with
 | .i k n=>fVi k n K
 | .b x=>fVb x K
 | .s l=>fVst l K
 | .ptr k ver off ix=>fVp k ver off ix K
 | .sl k ver off len cap dc=>fVl k ver off len cap dc K
 | .agg cs=>fVa cs K
 | .tup cs=>fVt cs K
 | v=>fVF v K
theorem fVg_eq (v:SV) (K:SV→α):fVg v K=K v:=by
 cases v <;> simp only [fVg,Z5g,fVi,ZcQ,fVst,Z8P,fVp,Z1s,fVl,Z9Z,fVa,fVt,Z8b]
 rename_i x;cases x <;> rfl
end
def hv2 (o:Oper) (rb:List Nat) (n:Nat) (x:SV):Option (Eff×Nat):=some (⟨o.dst,x,Zc o [],rb,[]⟩,n)
def hv (o:Oper) (x:SV) (rb:List Nat) (n:Nat):Option (Eff×Nat):=bif notG x then fVg x (hv2 o rb n) else none
theorem ZcZ (o:Oper) (x:SV) (rb:List Nat) (n:Nat):hv o x rb n=valF o x rb n:=by
 unfold hv valF
 simp only [fVg_eq,Z5g]
 all_goals rfl
def hr (o:Oper) (n:Nat) (r:R):Option (Eff×Nat):=match r with
 | .v x=>hv o x [] n
 | @R.ob _ d x=>match d with
   | .isTrue _=>hv o x [] n
   | .isFalse _=>none
 | .no=>none
theorem hr_eq (o:Oper) (n:Nat) (r:R):hr o n r=(match r.get with | some x=>valF o x [] n | none=>none):=by
 cases r with
 | v x=>simp only [hr,R.get,ZcZ]
 | ob p x=>
   rename_i d
   cases d <;> simp only [hr,R.get,ZcZ]
 | no=>rfl
def hld (T:Tb) (h:List SB) (o:Oper) (n:Nat) (t:TypeId) (p:SV):Option (Eff×Nat):=match Za5 T h t p with
 | some x=>hv o x (match p with | .ptr k _ _ _=>[k] | _=>[]) n
 | none=>none
def hst (T:Tb) (h:List SB) (o:Oper) (n:Nat) (ty:TypeId) (x v:SV):Option (Eff×Nat):=match T ty,x with
 | some ti,.ptr k ver off ix=>match Z2h .fresh h k with
   | .mem ty' segs ver' gr=>bif Zs v&&Nat.beq (wdLF (Zj v)) ti.size&&(Nat.beq gr 0||Nat.beq ver ver') then
    (match (match ix with | []=>Z6I segs off (Zj v) | _::_=>none) with
    | some segs'=>some (⟨o.dst,.dead,Zc o [],[k],[(k,.mem ty' segs' ver' gr)]⟩,n)
    | none=>none) else none
   | _=>none
 | _,_=>none
def hal (T:Tb) (h:List SB) (o:Oper) (n:Nat) (ty:TypeId):Option (Eff×Nat):=match T ty with
 | some ti=>newF h o (.mem ty ti.zero 1 0) (.ptr n 1 0 []) n
 | none=>none
def hbx (h:List SB) (o:Oper) (n:Nat) (ty:TypeId) (x:SV):Option (Eff×Nat):=bif Zs x then newF h o (.mem ty (Zj x) 1 0) (.ptr n 1 0 []) n else none
def hpk (o:Oper) (n:Nat) (c a b:SV):Option (Eff×Nat):=match c with
 | .b x=>hv o (bif x then a else b) [] n
 | _=>none
def Z6L (T:Tb) (n:Nat) (o:Oper) (ev:Operand→SV) (h:List SB):Option (Eff×Nat):=
 match o.op with
 | .move x=>hv o (ev x) [] n
 | .assign x=>hv o (ev x) [] n
 | .load t p=>hld T h o n t (ev p)
 | .store ty x v=>hst T h o n ty (ev x) (ev v)
 | .fieldAddr t p f=>hr o n (Z56 T t (ev p) f)
 | .binOp op t x y _=>hr o n (binR T op t (Z1y x||Z1y y) (ev x) (ev y))
 | .indexAddr t x ix=>hr o n (Z4b T t (ev x) ix (ev ix))
 | .extract x k=>hr o n (extR (ev x) k)
 | .nilCheck x=>hr o n (Z7D (ev x))
 | .alloc ty=>hal T h o n ty
 | .box ty x=>hbx h o n ty (ev x)
 | .pick c a b=>hpk o n (ev c) (ev a) (ev b)
 | _=>Z5N T n o ev h
theorem Zb6 (T:Tb) (n:Nat) (o:Oper) (ev:Operand→SV) (h:List SB):Z6L T n o ev h=Z5N T n o ev h:=by
 unfold Z6L
 have lb:∀ op:Op,Z2B ev op=match op with
  | .load _ x=>(match ev x with | .ptr k _ _ _=>[k] | _=>[])
  | .slice _ x _ _ none=>(match ev x with | .sl k _ _ _ none _=>[k] | _=>[])
  | _=>[]:=fun op=>by cases op <;> rfl
 cases hop:o.op <;> simp only [Z5N,Z8d,hop,ZcZ,hr_eq,Za6,Zx,R.get,lb,hld,hst,hal,hbx,hpk]
 all_goals try rfl
end
end
def Zd0:Value→Value→Bool
 | .pointer none,.pointer none=>true
 | .map none,.map none=>true
 | _,_=>false
theorem ZfR {x y:Value} (h:Zd0 x y=true):x=y:=by
 unfold Zd0 at h
 split at h <;> simp_all
mutual
def sveq:SV→SV→Bool
 | .i k n,.i k' n'=>decide (k=k')&&decide (n=n')
 | .b x,.b y=>x == y
 | .s l,.s l'=>eqBy l l'
 | .nils,.nils=>true
 | .ptr k v o [],.ptr k' v' o' []=>Nat.beq k k'&&Nat.beq v v'&&Nat.beq o o'
 | .sl k v o l c d,.sl k' v' o' l' c' d'=>Nat.beq k k'&&Nat.beq v v'&&Nat.beq o o'&&Nat.beq l l'&&decide (c=c')&&Nat.beq d d'
 | .fn f cs,.fn f' cs'=>Nat.beq f f'&&svL cs cs'
 | .iface t x,.iface t' x'=>Nat.beq t t'&&sveq x x'
 | .bm t x,.bm t' x'=>Nat.beq t t'&&sveq x x'
 | .map k,.map k'=>Nat.beq k k'
 | .agg cs,.agg cs'=>svL cs cs'
 | .tup cs,.tup cs'=>svL cs cs'
 | .dead,.dead=>true
 | .raw v,.raw w=>Zd0 v w
 | _,_=>false
def svL:List SV→List SV→Bool
 | [],[]=>true
 | x::r,y::s=>sveq x y&&svL r s
 | _,_=>false
end
mutual
theorem sveq_ok:∀ (x y:SV),sveq x y=true→x=y:=by
 intro x y h
 cases x <;> cases y <;> try (simp [sveq] at h;done)
 case i.i=>simp [sveq] at h;obtain ⟨rfl,rfl⟩:=h;rfl
 case b.b=>simp [sveq] at h;subst h;rfl
 case s.s=>rw [sveq,eqBy_iff] at h;subst h;rfl
 case raw.raw=>rw [sveq] at h;rw [ZfR h]
 case nils.nils=>rfl
 case dead.dead=>rfl
 case ptr.ptr ix _ _ _ ix'=>
  cases ix <;> cases ix' <;> simp [sveq] at h
  obtain ⟨⟨rfl,rfl⟩,rfl⟩:=h;rfl
 case sl.sl=>simp [sveq] at h;obtain ⟨⟨⟨⟨⟨rfl,rfl⟩,rfl⟩,rfl⟩,rfl⟩,rfl⟩:=h;rfl
 case fn.fn f cs f' cs'=>
  rw [sveq,Bool.and_eq_true] at h
  have h1:=Nat.eq_of_beq_eq_true h.1
  have h2:=svL_ok cs cs' h.2
  subst h1;subst h2;rfl
 case iface.iface t x t' x'=>
  rw [sveq,Bool.and_eq_true] at h
  have h1:=Nat.eq_of_beq_eq_true h.1
  have h2:=sveq_ok x x' h.2
  subst h1;subst h2;rfl
 case bm.bm t x t' x'=>
  rw [sveq,Bool.and_eq_true] at h
  have h1:=Nat.eq_of_beq_eq_true h.1
  have h2:=sveq_ok x x' h.2
  subst h1;subst h2;rfl
 case map.map=>rw [sveq] at h;rw [Nat.eq_of_beq_eq_true h]
 case agg.agg cs cs'=>rw [sveq] at h;rw [svL_ok cs cs' h]
 case tup.tup cs cs'=>rw [sveq] at h;rw [svL_ok cs cs' h]
theorem svL_ok:∀ (x y:List SV),svL x y=true→x=y:=by
 intro x y h
 cases x <;> cases y <;> try (simp [svL] at h;done)
 ·rfl
 ·rename_i a r b s
  rw [svL,Bool.and_eq_true] at h
  rw [sveq_ok a b h.1,svL_ok r s h.2]
end
def kvL:List (SV×SV)→List (SV×SV)→Bool
 | [],[]=>true
 | (a,b)::r,(c,d)::s=>sveq a c&&sveq b d&&kvL r s
 | _,_=>false
theorem ZdX:∀ (x y:List (SV×SV)),kvL x y=true→x=y
 | [],[],_=>rfl
 | [],_::_,h=>by simp [kvL] at h
 | _::_,[],h=>by simp [kvL] at h
 | (a,b)::r,(c,d)::s,h=>by
   simp only [kvL,Bool.and_eq_true] at h
   rw [sveq_ok _ _ h.1.1,sveq_ok _ _ h.1.2,ZdX r s h.2]
def sbeq:SB→SB→Bool
 | .mem t l v g,.mem t' l' v' g'=>Nat.beq t t'&&svL l l'&&Nat.beq v v'&&Nat.beq g g'
 | .mp kv v,.mp kv' v'=>kvL kv kv'&&Nat.beq v v'
 | .gone v,.gone v'=>Nat.beq v v'
 | .fresh,.fresh=>true
 | _,_=>false
theorem ZgY {x y:SB} (h:sbeq x y=true):x=y:=by
 cases x <;> cases y <;> try (simp [sbeq] at h;done)
 ·simp only [sbeq,Bool.and_eq_true] at h
  rw [Nat.eq_of_beq_eq_true h.1.1.1,svL_ok _ _ h.1.1.2,Nat.eq_of_beq_eq_true h.1.2,Nat.eq_of_beq_eq_true h.2]
 ·simp only [sbeq,Bool.and_eq_true] at h
  rw [ZdX _ _ h.1,Nat.eq_of_beq_eq_true h.2]
 ·rw [Nat.eq_of_beq_eq_true h]
 ·rfl
def sbL:List SB→List SB→Bool
 | [],[]=>true
 | x::r,y::s=>sbeq x y&&sbL r s
 | _,_=>false
theorem Zb7:∀ (x y:List SB),sbL x y=true→x=y
 | [],[],_=>rfl
 | [],_::_,h=>by simp [sbL] at h
 | _::_,[],h=>by simp [sbL] at h
 | a::r,c::s,h=>by
   simp only [sbL,Bool.and_eq_true] at h
   rw [ZgY h.1,Zb7 r s h.2]
structure Memo:Type 1 where
 f:FuncId
 args:List SV
 H:List SB
 r:SV
 H':List SB
def Z8e (P:Program) (m:Memo):Prop:=Ctr P m.f m.args m.H (fun r' h'=>r'=m.r∧h'=m.H')
def isE:List SB→Bool
 | []=>true
 | _=>false
theorem ZdY {l:List SB} (h:isE l=true):l=[]:=by cases l <;> first | rfl | cases h
def Z4G:List Memo→FuncId→List SV→List SB→Option (SV×List SB)
 | [],_,_,_=>none
 | ⟨f',a',h',r,hr⟩::l,f,a,h=>bif Nat.beq f' f&&svL a' a then (bif sbL h' h then some (r,hr) else bif isE h'&&(isE hr&&nmL a') then some (r,h) else Z4G l f a h) else Z4G l f a h
theorem Zb8 {P:Program}:∀ {l:List Memo} {f:FuncId} {a:List SV} {h:List SB} {r:SV} {hr:List SB},(∀ m ∈ l,Z8e P m)→Z4G l f a h=some (r,hr)→Ctr P f a h (fun r' h'=>r'=r∧h'=hr)
 | [],_,_,_,_,_,_,h=>by simp [Z4G] at h
 | ⟨f',a',h',r',hr'⟩::l,f,a,hh,r,hr,hm,h=>by
   have next:Z4G l f a hh=some (r,hr)→Ctr P f a hh (fun r' h'=>r'=r∧h'=hr):=Zb8 fun m hm'=>hm m (List.mem_cons_of_mem _ hm')
   have h0:=hm ⟨f',a',h',r',hr'⟩ (List.mem_cons_self ..)
   simp only [Z4G] at h
   cases hb:(Nat.beq f' f&&svL a' a) with
   | false=>rw [hb] at h;exact next h
   | true=>
     rw [hb] at h
     simp only [cond_true] at h
     simp only [Bool.and_eq_true] at hb
     have h1:=Nat.eq_of_beq_eq_true hb.1
     have h2:=svL_ok _ _ hb.2
     subst h1;subst h2
     cases h3:sbL h' hh with
     | true=>
       rw [h3] at h
       simp only [cond_true,Option.some.injEq,Prod.mk.injEq] at h
       have h3:=Zb7 _ _ h3
       subst h3
       obtain ⟨rfl,rfl⟩:=h
       exact h0
     | false=>
       rw [h3] at h
       simp only [cond_false] at h
       cases h4:(isE h'&&(isE hr'&&nmL a')) with
       | false=>rw [h4] at h;exact next h
       | true=>
         rw [h4] at h
         simp only [cond_true,Option.some.injEq,Prod.mk.injEq] at h
         simp only [Bool.and_eq_true] at h4
         have e1:=ZdY h4.1
         have e2:=ZdY h4.2.1
         subst e1;subst e2
         obtain ⟨rfl,rfl⟩:=h
         exact Z6Y ZK h0 h4.2.2 _
noncomputable def orc (l:List Memo) (call:FRun):FRun:=fun f a h=>match Z4G l f a h with
 | some q=>some q
 | none=>call f a h
theorem orc_ok {P:Program} {l:List Memo} {call:FRun} (hl:∀ m ∈ l,Z8e P m) (hc:Z1L P call):Z1L P (orc l call):=fun f a h r h' he=>by
 unfold orc at he
 cases hf:Z4G l f a h with
 | none=>rw [hf] at he;exact hc f a h r h' he
 | some q=>
   obtain ⟨r0,h0⟩:=q
   rw [hf] at he
   simp only [Option.some.injEq,Prod.mk.injEq] at he
   obtain ⟨rfl,rfl⟩:=he
   exact Zb8 hl hf
section
section
variable {P:Program} {T:Tb} {ops:Array Oper} {o:Oper}
end
end
def rdsC (P:Program) (T:Tb) (c:Code) (K:Exit→St→Prop):Nat→St→Prop
 | 0,_=>False
 | n+1,S=>sx P T c (fun e S'=>match e with | .normal=>rdsC P T c K n S' | e=>K e S') S
theorem WpC.rounds {P:Program} {T:Tb} (hT:TabOk P T) {c:Code} {K:Exit→St→Prop} (n:Nat) {S:St} (h:rdsC P T c K n S):WpC P (.loop c) K S:=by
 refine ⟨fun C E m a w hr=>wp_loop_rounds n ?_⟩
 have key:∀ (n:Nat) (S1:St),rdsC P T c K n S1→∀ E1 m1 a1 w1,Ext E m (vers S.h) E1 m1 (vers S1.h)→Rep E1 C m1 S1 a1 w1 →
  Code.rounds P c (fun e a' w'=>∃ E' m' S',K e S'∧Ext E m (vers S.h) E' m' (vers S'.h)∧Rep E' C m' S' a' w') n a1 w1:=by
  intro n
  induction n with
  | zero=>intro S1 h;exact h.elim
  | succ n ih=>
    intro S1 h E1 m1 a1 w1 hx hr1
    rw [rounds_succ]
    refine wp_mono ((Z7d hT c _ _ h).out C E1 m1 a1 w1 hr1) ?_
    rintro e a2 w2 ⟨E2,m2,S2,k1,k2,k3⟩
    cases e with
    | normal=>exact ih S2 k1 E2 m2 a2 w2 (hx.trans k2) k3
    | exit id=>exact ⟨E2,m2,S2,k1,hx.trans k2,k3⟩
    | goto l=>exact ⟨E2,m2,S2,k1,hx.trans k2,k3⟩
    | ret=>exact ⟨E2,m2,S2,k1,hx.trans k2,k3⟩
    | panic ch=>exact ⟨E2,m2,S2,k1,hx.trans k2,k3⟩
    | outgrown=>exact ⟨E2,m2,S2,k1,hx.trans k2,k3⟩
 exact key n S h E m a w (.refl ..) hr
theorem Z7m {P:Program} {T:Tb} (hT:TabOk P T) {ops:Array Oper} {o:Oper} {S:St} {ty:TypeId} {l c:Operand} {n p:Nat} {k1 k2:IntKind} {ti te:TI} {e:TypeId} (hg:Zt ops S.t o=some []) (hop:o.op=.makeSlice ty l c) (ht:T ty=some ti) (hk:ti.k=.slice e) (hte:T e=some te)
 (hl:evG [] S.t l=.i k1 n) (hc:evG [] S.t c=.i k2 n) (hb:n * te.bytes≤16777216) (hs:n * te.size≤16777216) (h0:te.size≠0) (hp:S.h[p]?=some .fresh) :
 Yld P ops o ⟨o.dst,.sl p 1 0 n (some n) 0,Zc o [],[p],[(p,.mem e (Z2s ti.flat te n (ZF n te.zero)) 1 0)]⟩ S:=by
 refine Z3H (mk:=fun k=>.sl k 1 0 n (some n) 0) hg hp fun S' hlk=>?_
 have hops:=ZO hlk
 rw [hop] at hops
 exact Z4z hT hop ht hk hte (by rw [ZL (hops l (by simp [Op.operands]))];exact hl) (by rw [ZL (hops c (by simp [Op.operands]))];exact hc) hb hs h0
theorem ZeA:tabs 3=some (.ints .u64 Lib.pow10Tab):=by kernel_rfl
theorem Z6Q (n:Int) (h0 : -9223372036854775808≤n) (h1:n≤9223372036854775807):CtrV Tryz.prog 219 [.i .i64 n] (.s (Lib.itoa n)):=
 Z3i (fn:=Tryz.f219) Tryz.func219 Z Z (fun m=>trivial) rfl fun w hT E m _=>
  Any.strconv_Itoa Zer n h0 h1 w (Zg1 hT (by kernel_rfl) ZeA)
section
def byE (c:UInt8):List SV:=[.i .u8 (c.toNat:Int)]
section
variable {P:Program} {T:Tb} {ops:Array Oper} {o:Oper}
theorem OpC.bytes (hT:TabOk P T) {K:St→Prop} {t:List SV} {h:List SB} {src dst:TypeId} {x:Operand} (hop:o.op=.convert src dst x) (hg:Zt ops t o=some []) {s:List UInt8} (hx:evG [] t x=.s s) {ts td te:TI} {e:TypeId}
 (h1:T src=some ts) (h2:ts.k=.str) (h3:T dst=some td) (h4:td.k=.slice e) (h5:T e=some te) (h6:te.k=.int .u8) (hK:∀ ad cap,putK t h o.dst (.imm UInt8 0 1 byE s (some ad) cap) K):OpC P T ops o K ⟨t,h⟩:=by
 refine ⟨fun C E m a w hr=>?_⟩
 have hwant:Region.wanted o (yielded ops a.tmps)=true:=by simp [Region.wanted,Z1f hg]
 unfold opW
 rw [hwant,if_pos rfl]
 obtain ⟨g1,g2⟩:=(hr.evs .nil).live (o:=x) (by rw [hx];rfl)
 rw [hx] at g2
 have hxv:a.eval x=.string ⟨⟨s⟩⟩:=by rw [g2];simp [den_v]
 have hs:=(hT.ti src ts h1).str h2
 have hd:=(hT.ti dst td h3).slice h4
 have he:=TiOk.int_und (hT.ti e te h5) h6
 have hrun:=Lib.run_convert_string_bytes w src dst e ⟨⟨s⟩⟩ hs hd he
 simp only [Oper.wp,execOp,hop,hxv,Sem.run_bind,hrun,Result.andThen_ok,Sem.run_pure,Oper.upon]
 have hfresh:∀ b o',w.heap[b]?=some o'→b < w.heap.size:=fun b o' hb=>Zw hb
 have hmn:m w.heap.size=none:=by
  cases hm:m w.heap.size with
  | none=>rfl
  | some o'=>have:=hfresh _ _ (hr.rel.im _ _ hm);omega
 have hFn:C.F w.heap.size=none:=by
  cases hm:C.F w.heap.size with
  | none=>rfl
  | some o'=>have:=hfresh _ _ (hr.rel.fr _ _ hm);omega
 have hm1:∀ b o',m b=some o'→(fun b=>if b=w.heap.size then some (.cells (Lib.bytesCells w e ⟨⟨s⟩⟩) e ((Lib.bytesCells w e ⟨⟨s⟩⟩).size,(Lib.bytesCells w e ⟨⟨s⟩⟩).size+1)) else m b) b=some o':=fun b o' hb=>by
  have:b≠w.heap.size:=fun e=>by subst e;rw [hmn] at hb;cases hb
  simp only [if_neg this];exact hb
 have hx':Ext E m (vers h) E (fun b=>if b=w.heap.size then some (.cells (Lib.bytesCells w e ⟨⟨s⟩⟩) e ((Lib.bytesCells w e ⟨⟨s⟩⟩).size,(Lib.bytesCells w e ⟨⟨s⟩⟩).size+1)) else m b) (vers h):=⟨hm1,fun _ _ h=>h,fun _ _ _=>rfl⟩
 have hold:∀ b o',w.heap[b]?=some o'→(Lib.bytesWorld w e ⟨⟨s⟩⟩).heap[b]?=some o':=fun b o' hb=>by rw [Lib.bytesWorld_at_old _ _ _ _ (hfresh _ _ hb)];exact hb
 have hos:(Lib.bytesWorld w e ⟨⟨s⟩⟩).os=w.os∧(Lib.bytesWorld w e ⟨⟨s⟩⟩).tape=w.tape∧(Lib.bytesWorld w e ⟨⟨s⟩⟩).output=w.output∧w.drawn≤(Lib.bytesWorld w e ⟨⟨s⟩⟩).drawn:=by
  simp [Lib.bytesWorld,World.freeze,World.alloc,World.drew,-World.alloc_eq,-World.drew_eq]
 have hrel:Rel E C (fun b=>if b=w.heap.size then some (.cells (Lib.bytesCells w e ⟨⟨s⟩⟩) e ((Lib.bytesCells w e ⟨⟨s⟩⟩).size,(Lib.bytesCells w e ⟨⟨s⟩⟩).size+1)) else m b) h (Lib.bytesWorld w e ⟨⟨s⟩⟩):=by
  refine ⟨hos.1.trans hr.rel.os,hos.2.1.trans hr.rel.tape,⟨hos.2.2.1.trans hr.rel.output.1,hr.rel.output.2.trans hos.2.2.2⟩,fun b o' hb=>?_,fun b o' hb=>hold b o' (hr.rel.fr b o' hb),⟨fun b o' hb=>?_,hr.rel.mf.2.mono hm1⟩,fun k B hB=>?_,hr.rel.nn,fun k b hb=>?_,hr.rel.inj⟩
  ·by_cases hbs:b=w.heap.size
   ·subst hbs;simp only [if_true] at hb;cases hb;exact Lib.bytesWorld_at_new w e ⟨⟨s⟩⟩
   ·simp only [if_neg hbs] at hb;exact hold b o' (hr.rel.im b o' hb)
  ·have:b≠w.heap.size:=fun e=>by subst e;rw [hFn] at hb;cases hb
   simp only [if_neg this];exact hr.rel.mf.1 b o' hb
  ·refine (hr.rel.bl k B hB).mono hx' (fun _ _=>rfl) fun b hb=>?_
   obtain ⟨o',ho'⟩:=(hr.rel.bl k B hB).block hB b ⟨B,hB,hb⟩
   rw [hold b o' ho',ho']
  ·have:=hr.rel.sp k b hb
   obtain ⟨B,hB,hb'⟩:=id hb
   obtain ⟨o',ho'⟩:=(hr.rel.bl k B hB).block hB b hb
   have hne:b≠w.heap.size:=fun e=>by have:=hfresh _ _ ho';omega
   simp only [if_neg hne];exact this
 have hcap:s.length≤grownCap w (⟨⟨s⟩⟩:ByteArray).size 0 e:=by
  have:=grownCap_ge w (⟨⟨s⟩⟩:ByteArray).size 0 e
  exact this
 have hk:=hK ⟨w.heap.size,0,none⟩ (grownCap w (⟨⟨s⟩⟩:ByteArray).size 0 e)
 rw [ZV] at hk
 refine ⟨E,_,_,hk,hx',?_⟩
 refine (hr.up hx' hrel).putG (o:=o) (p:=[]) .nil (x:=.imm UInt8 0 1 byE s (some ⟨w.heap.size,0,none⟩) (grownCap w (⟨⟨s⟩⟩:ByteArray).size 0 e)) (v:=.slice (some ⟨w.heap.size,0,none⟩) s.length (grownCap w (⟨⟨s⟩⟩:ByteArray).size 0 e)) (fun _=>.inr ⟨⟨?_,rfl⟩,by simp [den,wrapV,cells]⟩) (fun h=>by cases h)
 simp only [Ok]
 refine ⟨hcap,fun hne=>⟨_,Lib.bytesCells w e ⟨⟨s⟩⟩,e,_,rfl,rfl,if_pos rfl,fun j hj u c hu=>?_⟩,fun _=>rfl,fun j hj=>by simp [byE,OkL,Ok,isUnit]⟩
 have hu0:u=0:=by
  cases u with
  | zero=>rfl
  | succ u=>simp [byE,cellsL,cells] at hu
 subst hu0
 have hc:c=.int .u8 ((s.getD j 0).toNat:Int):=by simpa [byE,cellsL,cells] using hu.symm
 subst hc
 simp only [Nat.zero_add,Nat.mul_one,Nat.add_zero]
 unfold Lib.bytesCells
 rw [Array.getElem?_append_left (by simpa using hj)]
 simp [List.getD_eq_getElem?_getD,List.getElem?_eq_getElem hj,hj]
end
end
theorem Z74 {t:List SV} {h:List SB} {i:Nat} {ty':TypeId} {pre post:List SV} (hi:h[i]?=some (.mem ty' (pre++.nils::post) 1 0)) (g:Nat) (ty:TypeId) (segs:List SV) (hs:∀ E,cellsL E segs=[]) (hok:∀ m V,OkL m V segs)
 {h':List SB} (hh:h'=(h++[SB.mem ty segs 0 (g+1)]).set i (SB.mem ty' (pre++SV.sl h.length 0 0 0 none 0::post) 1 0)):Shift ⟨t,h⟩ ⟨t,h'⟩:=by
 subst hh
 intro C E m a w hr
 obtain ⟨E',e1,e2,e3⟩:=hr.rel.row0 g ty segs hs hok
 have hil:i < h.length:=(List.getElem?_eq_some_iff.1 hi).1
 have hi2:(h++[SB.mem ty segs 0 (g+1)])[i]?=some (.mem ty' (pre++.nils::post) 1 0):=by rw [List.getElem?_append_left hil];exact hi
 obtain ⟨_,b,c,k1,k2,k3⟩:=e3.bl i _ hi2
 have hlim:(SB.mem ty' (pre++SV.sl h.length 0 0 0 none 0::post) 1 0).lim=(SB.mem ty' (pre++.nils::post) 1 0).lim:=rfl
 have hv:=ZJ (B':=SB.mem ty' (pre++SV.sl h.length 0 0 0 none 0::post) 1 0) hi2 hlim
 have hce:cellsL E' (pre++SV.sl h.length 0 0 0 none 0::post)=cellsL E' (pre++.nils::post):=by
  simp only [Zl,cellsL]
  congr 2
  simp [cells,e1]
 have hok2:OkL m (vers (h++[SB.mem ty segs 0 (g+1)])) (pre++SV.sl h.length 0 0 0 none 0::post):=by
  rw [OkL_append] at k3 ⊢
  refine ⟨k3.1,?_⟩
  simp only [OkL] at k3 ⊢
  refine ⟨⟨rfl,?_⟩,k3.2.2⟩
  simp only [Ok]
  exact ⟨Vle_iff.2 ⟨SB.mem ty segs 0 (g+1),by simp,by simp [SB.lim]⟩,fun _=>trivial⟩
 have hrel:Rel E' C m ((h++[SB.mem ty segs 0 (g+1)]).set i (SB.mem ty' (pre++SV.sl h.length 0 0 0 none 0::post) 1 0)) w:=by
  refine e3.set hi2 hlim (b:=b) ⟨by decide,c,k1⟩ (fun c' hc'=>?_) ⟨rfl,rfl,rfl,Nat.le_refl _⟩ (fun _ _=>rfl) ⟨rfl,b,c,k1,?_,hok2⟩
  ·obtain ⟨_,c2,hc2⟩:=hc'
   rw [k1] at hc2;cases hc2;rfl
  ·rw [hce];exact k2
 have hx:Ext E m (vers h) E' m (vers ((h++[SB.mem ty segs 0 (g+1)]).set i (SB.mem ty' (pre++SV.sl h.length 0 0 0 none 0::post) 1 0))):=by rw [hv];exact e2
 refine ⟨E',m,hx,?_,?_,hr.df,hrel⟩
 ·exact hr.sz
 ·intro n x v hxn hvn
  exact (hr.sl n x v hxn hvn).mono hx
end SX
end Go.Proofs.YtdddpbmcoimgdaaGreatDoor
