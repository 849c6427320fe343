/- A part of SX: symbolic and concrete runs of the program, with contracts of functions; lemmas without further conditions. Shortened by a tool (mini.py). -/
import Derived.LoopN
import Derived.Test.YtdddpbmcoimgdaaGreatDoorChecked
import Derived.ChangeSame
import Derived.ChangeReads
import Derived.ProofKit
import Derived.Deep.Fields
import Derived.IntWalk
import Derived.Shelf.LaysM
import Derived.Lib.ItoaNum
import Derived.OpenShut
import Derived.SizedLaws
import Derived.Lib.LaidTab
import Derived.Handed
import Derived.Shelf.Lays
import Derived.Shelf.Pu.Lays
import Derived.Sort.Grow
import Derived.Deep.Draws
import Derived.Below
import Derived.Shelf.Strconv.Itoa3
import Derived.Lib.ItoaLen
import Derived.Test.YtdddpbmcoimgdaaGreatDoorRows
import Derived.Shelf.Vars
import Derived.Test.YtdddpbmcoimgdaaGreatDoorWAA
import Derived.Test.YtdddpbmcoimgdaaGreatDoorWAB
set_option linter.unusedVariables false
set_option linter.unusedSimpArgs false
set_option linter.unusedSectionVars false
set_option maxRecDepth 100000
namespace Go.Proofs.YtdddpbmcoimgdaaGreatDoor
namespace SX
open Go Go.Proofs
section
universe u
mutual
def nd (mk:Nat):SV→Bool
 | .ptr k _ _ _=>!tb mk k
 | .sl k _ _ _ _ _=>!tb mk k
 | .map k=>!tb mk k
 | .arr _ _ _ _ _ _=>false
 | .fn _ caps=>ndL mk caps
 | .iface _ x=>nd mk x
 | .bm _ x=>nd mk x
 | .agg cs=>ndL mk cs
 | .tup vs=>ndL mk vs
 | .grd _ _=>false
 | _=>true
def ndL (mk:Nat):List SV→Bool
 | []=>true
 | x::r=>nd mk x&&ndL mk r
end
def ndB (mk:Nat):SB→Bool
 | .mem _ segs _ _=>ndL mk segs
 | .mp kv _=>kv.all fun p=>nd mk p.1&&nd mk p.2
 | _=>true
def Z3r (mk:Nat):List SB→Nat→List SB
 | [],_=>[]
 | B::r,i=>(bif tb mk i then .fresh else B)::Z3r mk r (i+1)
def ndH (mk:Nat):List SB→Nat→Bool
 | [],_=>true
 | B::r,i=>(tb mk i||ndB mk B)&&ndH mk r (i+1)
section
variable {m:Mem} {V V':List Nat} {mk:Nat} (hV:∀ k v,tb mk k=false→Vle V k v→Vle V' k v)
include hV
mutual
theorem nd_ok:∀ x:SV,nd mk x=true→Ok m V x→Ok m V' x
 | .i _ _,_,_ | .b _,_,_ | .s _,_,_ | .raw _,_,_ | .nils,_,_ | .dead,_,_=>by simp [Ok]
 | .ptr k v _ _,hn,h=>by simp only [nd,Bool.not_eq_true'] at hn;simp only [Ok] at h ⊢;exact ⟨hV k v hn h.1,h.2⟩
 | .sl k v _ _ _ _,hn,h=>by simp only [nd,Bool.not_eq_true'] at hn;simp only [Ok] at h ⊢;exact ⟨hV k v hn h.1,h.2⟩
 | .map k,hn,h=>by simp only [nd,Bool.not_eq_true'] at hn;simp only [Ok] at h ⊢;exact hV k 1 hn h
 | .arr _ _ _ _ _ _,hn,_ | .grd _ _,hn,_=>by simp [nd] at hn
 | .ipt _ _ _ _ _ _ _ _ _,_,h | .imm _ _ _ _ _ _ _,_,h | .ints _ _ _,_,h=>by simpa only [Ok] using h
 | .fn _ caps,hn,h=>by simp only [nd] at hn;simp only [Ok] at h ⊢;exact nd_okA caps hn h
 | .iface _ x,hn,h=>by simp only [nd] at hn;simp only [Ok] at h ⊢;exact ⟨nd_ok x hn h.1,h.2⟩
 | .bm _ x,hn,h=>by simp only [nd] at hn;simp only [Ok] at h ⊢;exact ⟨nd_ok x hn h.1,h.2⟩
 | .agg cs,hn,h=>by simp only [nd] at hn;simp only [Ok] at h ⊢;exact nd_okL cs hn h
 | .tup vs,hn,h=>by simp only [nd] at hn;simp only [Ok] at h ⊢;exact nd_okA vs hn h
theorem nd_okL:∀ l:List SV,ndL mk l=true→OkL m V l→OkL m V' l
 | [],_,_=>by simp [OkL]
 | x::r,hn,h=>by
   simp only [ndL,Bool.and_eq_true] at hn
   simp only [OkL] at h ⊢
   exact ⟨⟨h.1.1,nd_ok x hn.1 h.1.2⟩,nd_okL r hn.2 h.2⟩
theorem nd_okA:∀ l:List SV,ndL mk l=true→OkA m V l→OkA m V' l
 | [],_,_=>by simp [OkA]
 | x::r,hn,h=>by
   simp only [ndL,Bool.and_eq_true] at hn
   simp only [OkA] at h ⊢
   exact ⟨⟨h.1.1,nd_ok x hn.1 h.1.2⟩,nd_okA r hn.2 h.2⟩
end
theorem Zez {E:Env} {w:World} {k:Nat} {B:SB} (hn:ndB mk B=true) (h:Holds E m V w k B):Holds E m V' w k B:=by
 cases B with
 | mem t segs ver gr=>
   cases gr with
   | zero=>obtain ⟨h0,b,c,h1,h2,h3⟩:=h;exact ⟨h0,b,c,h1,h2,nd_okL hV _ hn h3⟩
   | succ gr=>obtain ⟨h3,h4,h5⟩:=h;exact ⟨nd_okL hV _ hn h3,h4,h5⟩
 | mp kv ver=>
   obtain ⟨h0,b,c,es,clock,h1,h2,h3,h4⟩:=h
   refine ⟨h0,b,c,es,clock,h1,h2,h3,fun p hp=>?_⟩
   have:=List.all_eq_true.1 hn p hp
   simp only [Bool.and_eq_true] at this
   exact ⟨⟨nd_ok hV _ this.1 (h4 p hp).1.1,(h4 p hp).1.2⟩,nd_ok hV _ this.2 (h4 p hp).2.1,(h4 p hp).2.2⟩
 | gone v=>trivial
 | fresh=>trivial
end
theorem Z43 {mk:Nat}:∀ {H:List SB} {i k:Nat},(Z3r mk H i)[k]?=(H[k]?).map fun B=>bif tb mk (i+k) then .fresh else B
 | [],i,k=>by simp [Z3r]
 | B::r,i,0=>by simp [Z3r]
 | B::r,i,k+1=>by simp only [Z3r,List.getElem?_cons_succ,Z43 (H:=r),Nat.add_assoc,Nat.add_comm 1 k]
theorem ZcM {mk:Nat}:∀ {H:List SB} {i k:Nat} {B:SB},ndH mk H i=true→H[k]?=some B→tb mk (i+k)=false→ndB mk B=true
 | [],i,k,B,_,h,_=>by simp at h
 | C::r,i,0,B,hn,h,ht=>by
   simp at h;subst h
   simp only [ndH,Bool.and_eq_true,Bool.or_eq_true] at hn
   rcases hn.1 with h1 | h1
   ·rw [Nat.add_zero] at ht;rw [ht] at h1;cases h1
   ·exact h1
 | C::r,i,k+1,B,hn,h,ht=>by
   simp only [ndH,Bool.and_eq_true] at hn
   exact ZcM hn.2 (by simpa using h) (by rw [show i+1+k=i+(k+1) by omega];exact ht)
theorem Vle_free {mk:Nat} {H:List SB} {k v:Nat}:Vle (vers (Z3r mk H 0)) k v ↔ tb mk k=false∧Vle (vers H) k v:=by
 constructor
 ·intro h
  obtain ⟨B,hB,hl⟩:=Vle_iff.1 h
  rw [Z43,Nat.zero_add] at hB
  cases hk:H[k]? with
  | none=>rw [hk] at hB;simp at hB
  | some B'=>
    rw [hk] at hB
    cases ht:tb mk k with
    | true=>rw [ht] at hB;simp at hB;subst hB;simp [SB.lim] at hl
    | false=>rw [ht] at hB;simp at hB;subst hB;exact ⟨rfl,Vle_iff.2 ⟨_,hk,hl⟩⟩
 ·rintro ⟨ht,h⟩
  obtain ⟨B,hB,hl⟩:=Vle_iff.1 h
  exact Vle_iff.2 ⟨B,by rw [Z43,Nat.zero_add,hB,ht];rfl,hl⟩
theorem Z68 {mk:Nat} {E:Env} {H:List SB} {k b:Nat} (h:Zm E (Z3r mk H 0) k b):Zm E H k b:=by
 obtain ⟨B,hB,hk⟩:=h
 rw [Z43,Nat.zero_add] at hB
 cases hH:H[k]? with
 | none=>rw [hH] at hB;simp at hB
 | some B'=>
   rw [hH] at hB
   cases ht:tb mk k with
   | true=>rw [ht] at hB;simp at hB;subst hB;exact hk.elim
   | false=>rw [ht] at hB;simp at hB;subst hB;exact ⟨_,hH,hk⟩
theorem Rel.free {E C m H w} (h:Rel E C m H w) {mk:Nat} (hn:ndH mk H 0=true):Rel E C m (Z3r mk H 0) w:=by
 refine ⟨h.os,h.tape,h.output,h.im,h.fr,h.mf,fun k B hB=>?_,fun k v hv=>h.nn k v (Vle_free.1 hv).2,fun k b hb=>h.sp k b (Z68 hb),fun j k b hj hk=>h.inj j k b (Z68 hj) (Z68 hk)⟩
 rw [Z43,Nat.zero_add] at hB
 cases hH:H[k]? with
 | none=>rw [hH] at hB;simp at hB
 | some B'=>
   rw [hH] at hB
   cases ht:tb mk k with
   | true=>rw [ht] at hB;simp at hB;subst hB;trivial
   | false=>
     rw [ht] at hB;simp at hB;subst hB
     exact Zez (fun j v hj hv=>Vle_free.2 ⟨hj,hv⟩) (ZcM hn hH (by rw [Nat.zero_add];exact ht)) (h.bl k _ hH)
theorem Cp.free {X:List Value→World→(Value→World→Prop)→Prop} (hX:Z2G X) {args:List SV} {H H1:List SB} {r:SV} {mk:Nat} (h:Cp X args H (fun r' h'=>r'=r∧h'=H1))
 (hold:∀ k B,H[k]?=some B→tb mk k=true→B=.fresh) (hn:ndH mk H1 0=true) (hr:nd mk r=true):Cp X args H (fun r' h'=>r'=r∧h'=Z3r mk H1 0):=by
 refine ⟨fun C E m w hr' ha=>hX _ _ _ _ (h.out C E m w hr' ha) ?_⟩
 rintro v w' ⟨_,_,E',m',h1,⟨rfl,rfl⟩,h3,h4,h5⟩
 refine ⟨_,_,E',m',h1,⟨rfl,rfl⟩,⟨nd_ok (fun k v hk hv=>Vle_free.2 ⟨hk,hv⟩) _ hr h3.1,h3.2⟩,⟨h4.mm,fun k v hv=>?_,h4.ee⟩,h5.free hn⟩
 refine Vle_free.2 ⟨?_,h4.vv k v hv⟩
 obtain ⟨B,hB,hl⟩:=Vle_iff.1 hv
 cases ht:tb mk k with
 | false=>rfl
 | true=>have:=hold k B hB ht;subst this;simp [SB.lim] at hl
mutual
def nms (x:SV) (acc:Nat):Nat:=
 match x with
 | .ptr k _ _ _=>Nat.lor acc (Nat.shiftLeft 1 k)
 | .sl k _ _ _ _ _=>Nat.lor acc (Nat.shiftLeft 1 k)
 | .map k=>Nat.lor acc (Nat.shiftLeft 1 k)
 | .fn _ caps=>nmsL caps acc
 | .iface _ x=>nms x acc
 | .bm _ x=>nms x acc
 | .agg cs=>nmsL cs acc
 | .tup vs=>nmsL vs acc
 | _=>acc
def nmsL (l:List SV) (acc:Nat):Nat:=
 match l with
 | []=>acc
 | x::r=>fN (nms x acc) fun acc=>nmsL r acc
end
def nmsB (B:SB) (acc:Nat):Nat:=
 match B with
 | .mem _ segs _ _=>nmsL segs acc
 | .mp kv _=>kv.foldl (fun acc p=>nms p.2 (nms p.1 acc)) acc
 | _=>acc
def Zdy (mk:Nat):List SB→Nat→Nat→Nat
 | [],_,acc=>acc
 | B::r,i,acc=>bif tb mk i then fN (nmsB B acc) fun acc=>Zdy mk r (i+1) acc else Zdy mk r (i+1) acc
def Z79:Nat→List SB→Nat→Nat
 | 0,_,mk=>mk
 | n+1,H,mk=>fN (Zdy mk H 0 mk) fun mk'=>bif Nat.beq mk' mk then mk else Z79 n H mk'
def Z7a:List SB→Nat→Nat→Nat
 | [],_,acc=>acc
 | B::r,i,acc=>bif isFr B then Z7a r (i+1) acc else fN (Nat.lor acc (Nat.shiftLeft 1 i)) fun acc=>Z7a r (i+1) acc
def andNot (a b:Nat):Nat:=Nat.xor a (Nat.land a b)
def fst1:List SB→Nat→Option Nat
 | [],_=>none
 | B::r,i=>bif isFr B then some i else fst1 r (i+1)
def Z8H (lo:Nat):List SB→Nat→Option Nat
 | [],_=>none
 | B::r,i=>bif isFr B&&Nat.ble lo i then some i else Z8H lo r (i+1)
def Z8I (lo:Nat):List SB→Nat→Nat→List Nat
 | [],_,_=>[]
 | B::r,i,0=>[]
 | B::r,i,n+1=>bif isFr B&&Nat.ble lo i then i::Z8I lo r (i+1) n else Z8I lo r (i+1) (n+1)
def maxW:List (Nat×SB)→Nat→Nat
 | [],n=>n
 | p::r,n=>bif Nat.blt p.1 n then maxW r n else fN (p.1+1) fun n=>maxW r n
def cntF:List SB→Nat→Nat
 | [],n=>n
 | B::r,n=>bif isFr B then cntF r (n+1) else cntF r n
def Z8J {α:Sort u} (mk:Nat):List SB→Nat→(List SB→α)→α
 | [],_,K=>K []
 | B::r,i,K=>bif tb mk i then Z8J mk r (i+1) (fun r=>K (.fresh::r)) else Z8J mk r (i+1) (fun r=>K (B::r))
theorem Zbp {α:Sort u} (mk:Nat):∀ (l:List SB) (i:Nat) (K:List SB→α),Z8J mk l i K=K (Z3r mk l i)
 | [],i,K=>rfl
 | B::r,i,K=>by
   cases h:tb mk i <;> simp only [Z8J,Z3r,Zbp mk r,h,cond_true,cond_false]
def Z7b (mk:Nat):List SB→Nat→Bool
 | [],_=>true
 | B::r,i=>(isFr B||!tb mk i)&&Z7b mk r (i+1)
theorem Z9Z {mk:Nat}:∀ {H:List SB} {i k:Nat} {B:SB},Z7b mk H i=true→H[k]?=some B→tb mk (i+k)=true→B=.fresh
 | [],i,k,B,_,h,_=>by simp at h
 | C::r,i,0,B,hn,h,ht=>by
   simp at h;subst h
   simp only [Z7b,Bool.and_eq_true,Bool.or_eq_true,Bool.not_eq_true'] at hn
   rw [Nat.add_zero] at ht
   rcases hn.1 with h1 | h1
   ·cases C <;> first | rfl | cases h1
   ·rw [ht] at h1;cases h1
 | C::r,i,k+1,B,hn,h,ht=>by
   simp only [Z7b,Bool.and_eq_true] at hn
   exact Z9Z hn.2 (by simpa using h) (by rw [show i+1+k=i+(k+1) by omega];exact ht)
def gcR (H:List SB) (r:SV) (H1:List SB):SV×List SB:=
 fN (Z7a H 0 0) fun old=>fN (Z79 60 H1 (nms r old)) fun keep=>fN (andNot (Z7a H1 0 0) keep) fun mk=>
  bif Nat.beq mk 0 then (r,H1) else
  bif Z7b mk H 0&&ndH mk H1 0&&nd mk r then Z8J mk H1 0 fun H2=>(r,H2) else (r,H1)
theorem gcR_ok {X:List Value→World→(Value→World→Prop)→Prop} (hX:Z2G X) {args:List SV} {H H1:List SB} {r:SV} (h:Cp X args H (fun r' h'=>r'=r∧h'=H1)) :
 Cp X args H (fun r' h'=>r'=(gcR H r H1).1∧h'=(gcR H r H1).2):=by
 unfold gcR
 simp only [Z1B,Zbp]
 generalize andNot (Z7a H1 0 0) (Z79 60 H1 (nms r (Z7a H 0 0)))=mk
 cases hz:Nat.beq mk 0 with
 | true=>exact h
 | false=>
   simp only [cond_false]
   cases hc:(Z7b mk H 0&&ndH mk H1 0&&nd mk r) with
   | false=>exact h
   | true=>
     simp only [Bool.and_eq_true] at hc
     exact Cp.free hX h (fun k B hk hm=>Z9Z hc.1.1 hk (by rw [Nat.zero_add];exact hm)) hc.1.2 hc.2
def Z8K:List SB→List SB
 | []=>[]
 | B::r=>match Z8K r with
   | []=>bif isFr B then [] else [B]
   | C::r'=>B::C::r'
def Z44:Nat→List SB→List SB
 | 0,l=>Z8K l
 | n+1,B::r=>B::Z44 n r
 | _+1,[]=>[]
theorem Z8L:∀ l:List SB,∃ n,l=Z8K l++List.replicate n .fresh
 | []=>⟨0,rfl⟩
 | B::r=>by
   obtain ⟨n,hn⟩:=Z8L r
   simp only [Z8K]
   cases hs:Z8K r with
   | nil=>
     rw [hs] at hn
     simp only
     cases hf:isFr B with
     | true=>rw [Zhg hf,hn];exact ⟨n+1,by simp [List.replicate_succ]⟩
     | false=>exact ⟨n,by rw [hn];rfl⟩
   | cons C r'=>rw [hs] at hn;exact ⟨n,by rw [hn];rfl⟩
theorem Z7H:∀ (k:Nat) (l:List SB),(∃ n,l=Z44 k l++List.replicate n .fresh)∧(k≤l.length→k≤(Z44 k l).length)
 | 0,l=>⟨Z8L l,fun _=>Nat.zero_le _⟩
 | k+1,[]=>⟨⟨0,rfl⟩,fun h=>h⟩
 | k+1,B::r=>by
   obtain ⟨⟨n,hn⟩,h2⟩:=Z7H k r
   exact ⟨⟨n,by simp only [Z44,List.cons_append];rw [← hn]⟩,fun h=>by simp only [Z44,List.length_cons] at h ⊢;have:=h2 (by omega);omega⟩
theorem Rel.unpad {E C m H w n} (h:Rel E C m (H++List.replicate n .fresh) w):Rel E C m H w:=by
 refine ⟨h.os,h.tape,h.output,h.im,h.fr,h.mf,fun k B hB=>?_,fun k v hv=>h.nn k v (Vle_pad.2 hv),fun k b hb=>h.sp k b ?_,fun j k b hj hk=>h.inj j k b ?_ ?_⟩
 ·have hk:=(List.getElem?_eq_some_iff.1 hB).1
  have h1:=h.bl k B (by rw [List.getElem?_append_left hk];exact hB)
  exact h1.mono (m':=m) (w':=w) (V':=vers H) (E':=E) ⟨fun _ _ h=>h,fun _ _ h=>Vle_pad.1 h,fun _ _ _=>rfl⟩ (fun _ _=>rfl) (fun _ _=>rfl)
 ·exact Z2J hb
 ·exact Z2J hj
 ·exact Z2J hk
theorem Cp.unpad {X:List Value→World→(Value→World→Prop)→Prop} (hX:Z2G X) {args:List SV} {H H1:List SB} {r:SV} {n:Nat} (h:Cp X args H (fun r' h'=>r'=r∧h'=H1++List.replicate n .fresh)):Cp X args H (fun r' h'=>r'=r∧h'=H1):=by
 refine ⟨fun C E m w hr' ha=>hX _ _ _ _ (h.out C E m w hr' ha) ?_⟩
 rintro v w' ⟨_,_,E',m',h1,⟨rfl,rfl⟩,h3,h4,h5⟩
 exact ⟨_,_,E',m',h1,⟨rfl,rfl⟩,⟨Ok.mono (fun _ _ h=>h) _ _ _ (fun k v hv=>Vle_pad.1 hv) h3.1,h3.2⟩,⟨h4.mm,fun k v hv=>Vle_pad.1 (h4.vv k v hv),h4.ee⟩,h5.unpad⟩
theorem Za0 {X:List Value→World→(Value→World→Prop)→Prop} (hX:Z2G X) {args:List SV} {H H1:List SB} {r:SV} (k:Nat) (h:Cp X args H (fun r' h'=>r'=r∧h'=H1)):Cp X args H (fun r' h'=>r'=r∧h'=Z44 k H1):=by
 obtain ⟨⟨n,hn⟩,_⟩:=Z7H k H1
 refine Cp.unpad (n:=n) hX ?_
 rw [← hn];exact h
def Zbq {α:Sort u} (k:Nat) (l:List SB) (K:List SB→α):α:=Z76 (Z44 k l) [] K
theorem Za1 {α:Sort u} (k:Nat) (l:List SB) (K:List SB→α):Zbq k l K=K (Z44 k l):=by simp only [Zbq,Z3A,List.append_nil]
def fin (all:Bool) (H:List SB) (r:SV) (H1:List SB):SV×List SB:=
 match (bif all||!(Nat.ble 24 (cntF H1 0)||Nat.blt H1.length 40) then gcR H r H1 else (r,H1)) with
 | (r,H1)=>Zbq H.length H1 fun H1=>(r,H1)
theorem Zbr {X:List Value→World→(Value→World→Prop)→Prop} (hX:Z2G X) {args:List SV} {H H1:List SB} {r:SV} (all:Bool) (h:Cp X args H (fun r' h'=>r'=r∧h'=H1)) :
 Cp X args H (fun r' h'=>r'=(fin all H r H1).1∧h'=(fin all H r H1).2):=by
 unfold fin
 cases (all||!(Nat.ble 24 (cntF H1 0)||Nat.blt H1.length 40)) with
 | true=>
   simp only [cond_true,Za1]
   exact Za0 hX _ (gcR_ok hX h)
 | false=>
   simp only [cond_false,Za1]
   exact Za0 hX _ h
end
section
universe u
def idx:List Nat→Nat→Nat
 | [],_=>0
 | x::r,k=>bif Nat.beq x k then 0 else idx r k+1
theorem ZcN {k d:Nat} {ns:List Nat}:∀ {ks:List Nat},hasN k ks=true→(ks++ns).getD (idx ks k) d=k
 | [],h=>by simp [hasN] at h
 | x::r,h=>by
   simp only [idx]
   cases hx:Nat.beq x k with
   | true=>have:=Nat.eq_of_beq_eq_true hx;subst this;rfl
   | false=>
     simp only [hasN,hx,Bool.false_or] at h
     simp only [cond_false,List.cons_append,List.getD_cons_succ]
     exact ZcN h
mutual
def inN (ks:List Nat):SV→Bool
 | .ptr k _ _ _=>hasN k ks
 | .sl k _ _ _ _ _=>hasN k ks
 | .map k=>hasN k ks
 | .arr _ _ _ _ _ _=>false
 | .fn _ caps=>inNL ks caps
 | .iface _ x=>inN ks x
 | .bm _ x=>inN ks x
 | .agg cs=>inNL ks cs
 | .tup vs=>inNL ks vs
 | .grd _ _=>false
 | _=>true
def inNL (ks:List Nat):List SV→Bool
 | []=>true
 | x::r=>inN ks x&&inNL ks r
end
section
variable {ks:List Nat} {ρ σ:Nat→Nat} (hρ:∀ k,hasN k ks=true→ρ (σ k)=k)
include hρ
mutual
theorem ren_inv:∀ x:SV,inN ks x=true→ren ρ (ren σ x)=x
 | .i _ _,_ | .b _,_ | .s _,_ | .raw _,_ | .nils,_ | .dead,_=>by simp [ren]
 | .ptr k v _ _,h=>by simp only [inN] at h;simp only [ren,hρ k h]
 | .sl k v _ _ _ _,h=>by simp only [inN] at h;simp only [ren,hρ k h]
 | .map k,h=>by simp only [inN] at h;simp only [ren,hρ k h]
 | .arr _ _ _ _ _ _,h | .grd _ _,h=>by simp [inN] at h
 | .ipt _ _ _ _ _ _ _ _ _,_ | .imm _ _ _ _ _ _ _,_ | .ints _ _ _,_=>by simp [ren]
 | .fn _ caps,h=>by simp only [inN] at h;simp only [ren,ren_invL caps h]
 | .iface _ x,h=>by simp only [inN] at h;simp only [ren,ren_inv x h]
 | .bm _ x,h=>by simp only [inN] at h;simp only [ren,ren_inv x h]
 | .agg cs,h=>by simp only [inN] at h;simp only [ren,ren_invL cs h]
 | .tup vs,h=>by simp only [inN] at h;simp only [ren,ren_invL vs h]
theorem ren_invL:∀ l:List SV,inNL ks l=true→renL ρ (renL σ l)=l
 | [],_=>by simp [renL]
 | x::r,h=>by
   simp only [inNL,Bool.and_eq_true] at h
   simp only [renL,ren_inv x h.1,ren_invL r h.2]
end
end
def inNB (ks:List Nat):SB→Bool
 | .mem _ segs _ _=>inNL ks segs
 | .mp kv _=>kv.all fun p=>inN ks p.1&&inN ks p.2
 | _=>true
theorem Zgk {ks:List Nat} {ρ σ:Nat→Nat} (hρ:∀ k,hasN k ks=true→ρ (σ k)=k) {B:SB} (h:inNB ks B=true):renB ρ (renB σ B)=B:=by
 cases B with
 | mem t segs v g=>simp only [inNB] at h;simp only [renB,ren_invL hρ segs h]
 | mp kv v=>
   simp only [renB,List.map_map]
   congr 1
   conv=>rhs;rw [← List.map_id kv]
   refine List.map_congr_left fun p hp=>?_
   have:=List.all_eq_true.1 h p hp
   simp only [Bool.and_eq_true] at this
   simp only [Function.comp,ren_inv hρ _ this.1,ren_inv hρ _ this.2,id]
 | gone v=>rfl
 | fresh=>rfl
section
variable {α:Sort u}
def renC (ρ:Nat→Nat):List SV→(List SV→α)→α
 | [],K=>K []
 | x::r,K=>fV (ren ρ x) fun y=>renC ρ r fun r=>K (y::r)
def ZaD (ρ:Nat→Nat) (B:SB) (K:SB→α):α:=match B with
 | .mem t segs v g=>renC ρ segs fun s=>K (.mem t s v g)
 | .mp kv v=>fM (kv.map fun p=>(ren ρ p.1,ren ρ p.2)) fun kv=>K (.mp kv v)
 | .gone v=>K (.gone v)
 | .fresh=>K .fresh
def Z8M (σ:Nat→Nat) (h:List SB):List Nat→(List SB→α)→α
 | [],K=>K []
 | k::r,K=>ZaD σ (h.getD k .fresh) fun B=>Z8M σ h r fun l=>K (B::l)
def zipC (ρ:Nat→Nat):List SB→Nat→(List (Nat×SB)→α)→α
 | [],_,K=>K []
 | B::r,i,K=>fN (ρ i) fun k=>ZaD ρ B fun B=>zipC ρ r (i+1) fun l=>K ((k,B)::l)
def fNs:List Nat→(List Nat→α)→α
 | [],K=>K []
 | k::r,K=>fN k fun k=>fNs r fun r=>K (k::r)
theorem Z9t (ρ:Nat→Nat):∀ (l:List SV) (K:List SV→α),renC ρ l K=K (renL ρ l)
 | [],K=>rfl
 | x::r,K=>by simp only [renC,Z4g,Z9t ρ r,renL]
theorem Zbs (ρ:Nat→Nat) (B:SB) (K:SB→α):ZaD ρ B K=K (renB ρ B):=by cases B <;> simp only [ZaD,Z9t,ZaC,renB]
theorem Zbt (σ:Nat→Nat) (h:List SB):∀ (l:List Nat) (K:List SB→α),Z8M σ h l K=K (l.map fun k=>renB σ (h.getD k .fresh))
 | [],K=>rfl
 | x::r,K=>by simp only [Z8M,Zbs,Zbt σ h r,List.map_cons]
theorem ZcO (ρ:Nat→Nat):∀ (l:List SB) (i:Nat) (K:List (Nat×SB)→α),zipC ρ l i K=K (zipB ρ l i)
 | [],i,K=>rfl
 | x::r,i,K=>by simp only [zipC,Z1B,Zbs,ZcO ρ r,zipB]
theorem Zbu:∀ (l:List Nat) (K:List Nat→α),fNs l K=K l
 | [],K=>rfl
 | x::r,K=>by simp only [fNs,Z1B,Zbu r]
end
def Z8N (mk:Nat):List SB→Nat→List Nat
 | [],_=>[]
 | _::r,i=>bif tb mk i then i::Z8N mk r (i+1) else Z8N mk r (i+1)
def Z5A (ks:List Nat) (h:List SB):List Nat→Bool
 | []=>true
 | k::r=>Nat.blt k h.length&&inNB ks (h.getD k .fresh)&&Z5A ks h r
theorem Z8O {ks:List Nat} {h:List SB}:∀ {l:List Nat},Z5A ks h l=true→∀ k ∈ l,k < h.length∧inNB ks (h.getD k .fresh)=true
 | [],_,k,hk=>by cases hk
 | x::r,ho,k,hk=>by
   simp only [Z5A,Bool.and_eq_true] at ho
   rcases List.mem_cons.1 hk with rfl | hk
   ·exact ⟨Nat.le_of_ble_eq_true ho.1.1,ho.1.2⟩
   ·exact Z8O ho.2 k hk
def Z7c (call:FRun) (lo:Nat) (o:Oper) (c:Call) (S:St):Option Eff:=
 match Z2L S.t c with
 | none=>none
 | some (f,args)=>
   fN (Z79 60 S.h (nmsL args 0)) fun mk=>fNs (Z8N mk S.h 0) fun ks=>
   bif inNL ks args&&Z5A ks S.h ks then
    renC (idx ks) args fun args0=>Z8M (idx ks) S.h ks fun H0=>
    match call f args0 H0 with
    | none=>none
    | some (r1,H1)=>match fin true H0 r1 H1 with
      | (r0,H1)=>fNs (Z8I lo S.h 0 (H1.length - H0.length)) fun ns=>
        bif Z2e (ks++ns)&&Z1q S.h ns&&(Nat.ble H0.length H1.length&&Nat.ble H1.length (ks++ns).length)&&notG (ren (rho (ks++ns) S.h.length) r0) then
         fV (ren (rho (ks++ns) S.h.length) r0) fun r=>zipC (rho (ks++ns) S.h.length) H1 0 fun wb=>some ⟨o.dst,r,hang r++Ze o [],ks++ns,wb⟩
        else none
   else none
def Z1O (P:Program) (call:FRun):Prop:=∀ f args H r H',call f args H=some (r,H')→Ctr P f args H (fun r' h'=>r'=r∧h'=H')
section
variable {P:Program} {T:Tb} {ops:Array Oper} {o:Oper}
theorem ZcP {ρ:Nat→Nat} {Hc:List SB}:∀ {H:List SB} {i:Nat},(∀ (j:Nat) (B:SB),H[j]?=some B→Hc[ρ (i+j)]?=some (renB ρ B))→Lent ρ Hc H i
 | [],_,_=>trivial
 | B::r,i,h=>⟨by have:=h 0 B rfl;rwa [Nat.add_zero] at this,ZcP fun j B' hB=>by have:=h (j+1) B' (by simpa using hB);rwa [show i+(j+1)=i+1+j by omega] at this⟩
theorem Z8P {t:List SV} {c:Call} {f:FuncId} {args:List SV} (hN:NG t) (h:Z2L t c=some (f,args)) :
 ∃ fo fst caps,c.callee=.value fo∧calB (evG [] t fo)=some (f,fst,caps)∧(c.args.toList.map (evG [] t)).all live=true∧args=fst++(c.args.toList.map (evG [] t)++caps):=by
 unfold Z2L at h
 cases hc:c.callee <;> rw [hc] at h <;> simp only [reduceCtorEq] at h
 rename_i fo
 cases hf:evO t fo <;> rw [hf] at h <;> simp only [reduceCtorEq] at h
 all_goals
  rename_i g caps
  cases hl:(c.args.toList.map (evO t)).all live with
  | false=>rw [hl] at h;simp at h
  | true=>
    rw [hl] at h
    simp only [cond_true,Option.some.injEq,Prod.mk.injEq] at h
    obtain ⟨rfl,rfl⟩:=h
    exact ⟨fo,_,_,rfl,by rw [hN.evG,hf];rfl,by rw [hN.evGf];exact hl,by rw [hN.evGf];rfl⟩
theorem Zgl {call:FRun} {lo:Nat} (hcall:Z1O P call) {c:Call} {S:St} {e:Eff} (n n2:Nat) (hop:o.op=.call c) (hg:o.guard=none) (hN:NG S.t) (h:Z7c call lo o c S=some e) :
 OpD P ops o n (fun e2 n' _=>e2=e∧n'=n2) S∧notG e.v=true:=by
 unfold Z7c at h
 cases hc:Z2L S.t c with
 | none=>rw [hc] at h;simp at h
 | some fa=>
   obtain ⟨f,args⟩:=fa
   rw [hc] at h
   simp only [Z1B,Zbu,Z9t,Zbt,Z4g,ZcO] at h
   generalize Z8N (Z79 60 S.h (nmsL args 0)) S.h 0=ks at h
   cases hi:(inNL ks args&&Z5A ks S.h ks) with
   | false=>rw [hi] at h;simp at h
   | true=>
     rw [hi] at h
     simp only [cond_true] at h
     rw [Bool.and_eq_true] at hi
     generalize hH0:(ks.map fun k=>renB (idx ks) (S.h.getD k .fresh))=H0 at h
     cases hr:call f (renL (idx ks) args) H0 with
     | none=>rw [hr] at h;simp at h
     | some q=>
       obtain ⟨r1,H1'⟩:=q
       rw [hr] at h
       simp only at h
       have hctr:=Zbr Z11 true (hcall _ _ _ _ _ hr)
       generalize fin true H0 r1 H1'=q at h hctr
       obtain ⟨r0,H1⟩:=q
       simp only at h hctr
       generalize Z8I lo S.h 0 (H1.length - H0.length)=ns at h
       cases hk:(Z2e (ks++ns)&&Z1q S.h ns&&(Nat.ble H0.length H1.length&&Nat.ble H1.length (ks++ns).length)&&notG (ren (rho (ks++ns) S.h.length) r0)) with
       | false=>rw [hk] at h;simp at h
       | true=>
         rw [hk] at h
         simp only [cond_true,Option.some.injEq] at h
         subst h
         rw [Bool.and_eq_true,Bool.and_eq_true,Bool.and_eq_true] at hk
         obtain ⟨⟨⟨k1,k2⟩,k3⟩,k4⟩:=hk
         have hρ:∀ k,hasN k ks=true→rho (ks++ns) S.h.length (idx ks k)=k:=fun k hk=>ZcN hk
         obtain ⟨fo,fst,caps,c1,c2,c3,c4⟩:=Z8P hN hc
         refine ⟨Z9X (t:=S.t) (h:=S.h) hop c1 (Z1K S.t hg) c2 ks ns n2 rfl hctr (by rw [← c4];exact (ren_invL hρ args hi.1).symm) c3 k1 (by rw [← hH0];simp) (ZcP fun j B hB=>?_) k2 k3 ?_,k4⟩
         ·rw [← hH0] at hB
          simp only [List.getElem?_map] at hB
          cases hj:ks[j]? with
          | none=>rw [hj] at hB;simp at hB
          | some k=>
            rw [hj] at hB
            simp only [Option.map_some,Option.some.injEq] at hB
            subst hB
            have hm:=List.mem_of_getElem? hj
            have hg1:=Z8O hi.2 k hm
            have hjl:=(List.getElem?_eq_some_iff.1 hj).1
            have e1:rho (ks++ns) S.h.length (0+j)=k:=by
             simp only [rho,Nat.zero_add,List.getD_eq_getElem?_getD,List.getElem?_append_left hjl,hj,Option.getD_some]
            rw [e1,Zgk hρ hg1.2,List.getD_eq_getElem?_getD,List.getElem?_eq_getElem hg1.1]
            rfl
         ·simp only [Z1o,Z2I,Z62]
          exact ⟨trivial,trivial⟩
end
end
section
universe u
section
variable {α:Sort u}
def Z6K:Nat→(List SB→α)→α
 | 0,K=>K []
 | n+1,K=>Z6K n fun l=>K (.fresh::l)
theorem Z45:∀ (n:Nat) (K:List SB→α),Z6K n K=K (List.replicate n .fresh)
 | 0,K=>rfl
 | n+1,K=>by simp only [Z6K,Z45 n,List.replicate_succ]
end
def mkN2:Op→Nat
 | .call ⟨.builtin .append,_,_⟩=>1
 | .makeMap _ _=>1
 | op=>mkN op
def Z3U:Op→Option Call
 | .call c=>(match c.callee with
   | .value _=>some c
   | _=>none)
 | _=>none
def runE (T:Tb) (n:Nat) (o:Oper) (S:St):Option St:=
 match eff2 T n (ung o) S with
 | some (e,_)=>putE e S
 | none=>none
def rop (T:Tb) (call:FRun) (ops:Array Oper) (o:Oper) (S:St):Option St:=
 match gdO ops S.t o with
 | none=>none
 | some (_,false)=>Z8D S.t o.dst udf fun t=>some ⟨t,S.h⟩
 | some (_,true)=>match Z3U o.op with
   | some c=>(match Z2L S.t c with
     | some (f,args)=>(match call f args S.h with
       | some (r,h')=>bif notG r then fV r fun r=>Z8D S.t o.dst r fun t=>some ⟨t,h'⟩ else none
       | none=>none)
     | none=>none)
   | none=>match mkN2 o.op with
     | 0=>runE T 0 o S
     | _+1=>match fst1 S.h 0 with
       | some n=>fN n fun n=>runE T n o S
       | none=>Z6K 8 fun l=>Z76 S.h l fun h1=>runE T S.h.length o ⟨S.t,h1⟩
def rreg (T:Tb) (call:FRun) (ops:Array Oper):List Oper→St→Option St
 | [],S=>some S
 | o::r,S=>match rop T call ops o S with
   | some S'=>rreg T call ops r S'
   | none=>none
def Z8Q (rs:List Nat):Option Eff→Option Eff
 | some e=>some (e.also rs)
 | none=>none
def fstE:Option (Eff×Nat)→Option Eff
 | some (e,_)=>some e
 | none=>none
def dop1 (T:Tb) (call:FRun) (lo:Nat) (ops:Array Oper) (o:Oper) (S:St):Option Eff:=
 match gdO ops S.t o with
 | none=>none
 | some (rs,false)=>some ⟨o.dst,udf,rs,[],[]⟩
 | some (rs,true)=>Z8Q rs (match Z3U o.op with
   | some c=>Z7c call lo (ung o) c S
   | none=>match mkN2 o.op with
     | 0=>fstE (eff2 T 0 (ung o) S)
     | _+1=>match Z8H lo S.h 0 with
       | some n=>fN n fun n=>fstE (eff2 T n (ung o) S)
       | none=>none)
def Z3V (T:Tb) (call:FRun) (ops:Array Oper):Nat→List Oper→List Eff→St→Option St
 | lo,[],acc,S=>bif chk ops acc.reverse then some S else none
 | lo,o::r,acc,S=>match dop1 T call lo ops o S with
   | some e=>(match putE e S with
     | some S'=>fN (maxW e.wb lo) fun lo=>Z3V T call ops lo r (e::acc) S'
     | none=>none)
   | none=>none
def needW (c:Call):Nat:=match c.callee with
 | .value (.tmp _)=>80
 | _=>16
def Z69:List Oper→Nat
 | []=>0
 | o::r=>(match Z3U o.op with
   | some c=>needW c
   | none=>mkN2 o.op)+Z69 r
def Z4r (T:Tb) (call:FRun) (ops:Array Oper) (draw:Bool) (S:St):Option St:=
 match draw with
 | false=>rreg T call ops ops.toList S
 | true=>fN (Z69 ops.toList) fun n=>bif Nat.ble n (cntF S.h 0) then Z3V T call ops 0 ops.toList [] S else Z6K n fun l=>Z76 S.h l fun h1=>Z3V T call ops 0 ops.toList [] ⟨S.t,h1⟩
def iter (f:St→Option (Exit×St)):Nat→St→Option (Exit×St)
 | 0,_=>none
 | n+1,S=>match f S with
   | some (.normal,S')=>iter f n S'
   | r=>r
def Z15 (T:Tb) (call:FRun) (lf:Nat):Code→St→Option (Exit×St)
 | .seq a b,S=>match Z15 T call lf a S with
   | some (.normal,S')=>Z15 T call lf b S'
   | r=>r
 | .cond c x y,S=>match evO S.t c with
   | .b true=>Z15 T call lf x S
   | .b false=>Z15 T call lf y S
   | _=>none
 | .block id c,S=>match Z15 T call lf c S with
   | some (.exit j,S')=>bif Nat.beq j id then some (.normal,S') else some (.exit j,S')
   | r=>r
 | .exit id,S=>some (.exit id,S)
 | .ret,S=>some (.ret,S)
 | .skip,S=>some (.normal,S)
 | .label _,S=>some (.normal,S)
 | .region _ ops draw,S=>match Z4r T call ops draw S with
   | some S'=>some (.normal,S')
   | none=>none
 | .loop c,S=>iter (Z15 T call lf c) lf S
 | _,_=>none
def rres (T:Tb) (fn:Func) (H:List SB) (S:St):Option (SV×List SB):=
 match resL T S fn.results.toList with
 | some [x]=>some (fin false H x S.h)
 | some xs=>some (fin false H (.tup xs) S.h)
 | none=>none
section
variable {P:Program} {T:Tb} {ops:Array Oper} {o:Oper} {call:FRun}
theorem Z8R {op:Op} {c:Call} (h:Z3U op=some c):op=.call c:=by
 unfold Z3U at h
 split at h
 ·split at h
  ·cases h;rfl
  ·cases h
 ·cases h
theorem Z9u (hT:TabOk P T) {n:Nat} {K:St→Prop} {S S':St} {rs:List Nat} (hg:gdO ops S.t o=some (rs,true)) (hN:NG S.t) (h:runE T n o S=some S') (hK:K S'):OpC P T ops o K S∧NG S'.t:=by
 unfold runE at h
 cases he:eff2 T n (ung o) S with
 | none=>rw [he] at h;simp at h
 | some q=>
   obtain ⟨e,n'⟩:=q
   rw [he] at h
   simp only [Z77,Option.some.injEq] at h
   obtain ⟨h1,h2⟩:=Z9s (P:=P) (ops:=ops) hT (o:=ung o) rfl hN he
   refine ⟨OpC.want hg (h1.toC hN fun e2 n2 hk=>by rw [hk.1,h];exact hK),?_⟩
   rw [← h]
   exact hN.setT e.d h2
theorem OpC.pad {K:St→Prop} {t:List SV} {h:List SB} (n:Nat) (h1:OpC P T ops o K ⟨t,h++List.replicate n .fresh⟩):OpC P T ops o K ⟨t,h⟩:=by
 refine OpC.shift (fun C E m a w hr=>⟨E,m,Ext.pad E m h n,?_⟩) h1
 exact hr.up (Ext.pad E m h n) (hr.rel.pad n)
theorem WpC.pad {c:Code} {K:Exit→St→Prop} {t:List SV} {h:List SB} (n:Nat) (h1:WpC P c K ⟨t,h++List.replicate n .fresh⟩):WpC P c K ⟨t,h⟩:=by
 refine WpC.shift (fun C E m a w hr=>⟨E,m,Ext.pad E m h n,?_⟩) h1
 exact hr.up (Ext.pad E m h n) (hr.rel.pad n)
theorem rop_ok (hT:TabOk P T) (hcall:Z1O P call) {K:St→Prop} {S S':St} (hN:NG S.t) (h:rop T call ops o S=some S') (hK:K S'):OpC P T ops o K S∧NG S'.t:=by
 unfold rop at h
 cases hg:gdO ops S.t o with
 | none=>rw [hg] at h;simp at h
 | some q=>
   obtain ⟨rs,b⟩:=q
   rw [hg] at h
   cases b with
   | false=>
     simp only [Z4H,Option.some.injEq] at h
     subst h
     exact ⟨OpC.skip hg hN hK,hN.setT _ rfl⟩
   | true=>
     simp only at h
     cases hc:Z3U o.op with
     | some c=>
       rw [hc] at h
       have hop:=Z8R hc
       simp only at h
       cases hca:Z2L S.t c with
       | none=>rw [hca] at h;simp at h
       | some fa=>
         obtain ⟨f,args⟩:=fa
         rw [hca] at h
         simp only at h
         cases hr:call f args S.h with
         | none=>rw [hr] at h;simp at h
         | some q=>
           obtain ⟨r,h'⟩:=q
           rw [hr] at h
           simp only [Z4g,Z4H] at h
           cases hn:notG r with
           | false=>rw [hn] at h;simp at h
           | true=>
             rw [hn] at h
             simp only [cond_true,Option.some.injEq] at h
             subst h
             obtain ⟨fo,fst,caps,c1,c2,c3,c4⟩:=Z8P hN hca
             refine ⟨OpC.want hg ?_,hN.setT _ hn⟩
             refine OpC.call (o:=ung o) (t:=S.t) (h:=S.h) hop c1 (Z1K S.t rfl) c2 c4.symm c3 (hcall _ _ _ _ _ hr) ?_
             rintro r' h'' ⟨rfl,rfl⟩
             rw [Z13,ZX fun d _=>hN.kill d]
             exact hK
     | none=>
       rw [hc] at h
       simp only at h
       cases hm:mkN2 o.op with
       | zero=>rw [hm] at h;exact Z9u hT hg hN h hK
       | succ n=>
         rw [hm] at h
         simp only at h
         cases hf:fst1 S.h 0 with
         | some k=>rw [hf] at h;simp only [Z1B] at h;exact Z9u hT hg hN h hK
         | none=>
           rw [hf] at h
           simp only [Z45,Z3A] at h
           generalize hz:S.h++List.replicate 8 .fresh=hh at h
           have:=Z9u (P:=P) (T:=T) (ops:=ops) (o:=o) (n:=S.h.length) (S:=⟨S.t,hh⟩) (S':=S') (rs:=rs) hT hg hN h hK
           subst hz
           exact ⟨OpC.pad 8 this.1,this.2⟩
theorem ZcQ (hT:TabOk P T) (hcall:Z1O P call) {Q:Exit→Act→World→Prop} {C:Fr} {E0:Env} {m0:Mem} {V0:List Nat}:∀ (l:List Oper) (S S':St),NG S.t→rreg T call ops l S=some S'→NG S'.t∧∀ E m a w,Rep E C m S a w→Ext E0 m0 V0 E m (vers S.h) →
 (∀ E' m' a' w',Ext E0 m0 V0 E' m' (vers S'.h)→Rep E' C m' S' a' w'→Q .normal a' w')→wpList P ops Q l a w
 | [],S,S',hN,h=>by
   simp [rreg] at h;subst h
   exact ⟨hN,fun E m a w hr hx hQ=>hQ E m a w hx hr⟩
 | o::rest,S,S',hN,h=>by
   simp only [rreg] at h
   cases ho:rop T call ops o S with
   | none=>rw [ho] at h;simp at h
   | some S1=>
     rw [ho] at h
     simp only at h
     have h1:=rop_ok (P:=P) hT hcall hN ho (K:=fun S=>S=S1) rfl
     obtain ⟨h2,h3⟩:=ZcQ hT hcall (Q:=Q) (C:=C) (E0:=E0) (m0:=m0) (V0:=V0) rest S1 S' h1.2 h
     refine ⟨h2,fun E m a w hr hx hQ=>?_⟩
     have h4:=h1.1.out C E m a w hr
     unfold opW at h4
     unfold wpList
     have next:∀ a' w',(∃ E' m' S2,S2=S1∧Ext E m (vers S.h) E' m' (vers S2.h)∧Rep E' C m' S2 a' w')→wpList P ops Q rest a' w':=by
      rintro a' w' ⟨E',m',S2,rfl,k2,k3⟩
      exact h3 E' m' a' w' k3 (hx.trans k2) hQ
     by_cases hw:Region.wanted o (yielded ops a.tmps)=true
     ·rw [if_pos hw] at h4 ⊢
      exact .inl (Z19 h4 next)
     ·rw [if_neg hw] at h4 ⊢
      exact next _ _ h4
theorem Zdz {rs:List Nat} {x:Option Eff} {e:Eff} (h:Z8Q rs x=some e):∃ e0,x=some e0∧e=e0.also rs:=by
 cases x with
 | none=>simp [Z8Q] at h
 | some e0=>simp [Z8Q] at h;exact ⟨e0,rfl,h.symm⟩
theorem Za2 {x:Option (Eff×Nat)} {e:Eff} (h:fstE x=some e):∃ n,x=some (e,n):=by
 cases x with
 | none=>simp [fstE] at h
 | some q=>obtain ⟨e0,n⟩:=q;simp [fstE] at h;exact ⟨n,by rw [h]⟩
theorem OpD.any {n n1:Nat} {K:Eff→Nat→St→Prop} {S:St} (h:OpD P ops o n K S):OpD P ops o n1 K S:=⟨h.out⟩
theorem OpD.mono {n:Nat} {K K':Eff→Nat→St→Prop} {S:St} (h:OpD P ops o n K S) (hk:∀ e n' S',K e n' S'→K' e n' S'):OpD P ops o n K' S:=by
 obtain ⟨e,n',h1,h2,h3,h4,h5⟩:=h.out
 exact ⟨⟨e,n',h1,h2,h3,h4,hk _ _ _ h5⟩⟩
theorem Zhl (hT:TabOk P T) (hcall:Z1O P call) {lo:Nat} {S:St} {e:Eff} (hN:NG S.t) (h:dop1 T call lo ops o S=some e):OpD P ops o 0 (fun e2 _ _=>e2=e) S∧notG e.v=true:=by
 unfold dop1 at h
 cases hg:gdO ops S.t o with
 | none=>rw [hg] at h;simp at h
 | some q=>
   obtain ⟨rs,b⟩:=q
   rw [hg] at h
   cases b with
   | false=>
     simp only [Option.some.injEq] at h
     subst h
     exact ⟨OpD.skip hg rfl,rfl⟩
   | true=>
     simp only at h
     obtain ⟨e0,hh,rfl⟩:=Zdz h
     clear h
     have h:=hh
     clear hh
     have fin:∀ n n2,OpD P ops (ung o) n (fun e2 n' _=>e2=e0∧n'=n2) S→OpD P ops o 0 (fun e2 _ _=>e2=e0.also rs) S:=fun n n2 h1=>
      OpD.want hg (h1.mono fun e n' S' hk=>by rw [hk.1]).any
     cases hc:Z3U o.op with
     | some c=>
       rw [hc] at h
       obtain ⟨h1,h2⟩:=Zgl (P:=P) (ops:=ops) (o:=ung o) hcall 0 0 (Z8R hc) rfl hN h
       exact ⟨fin _ _ h1,h2⟩
     | none=>
       rw [hc] at h
       simp only at h
       cases hm:mkN2 o.op with
       | zero=>
         rw [hm] at h
         obtain ⟨n',he⟩:=Za2 h
         obtain ⟨h1,h2⟩:=Z9s (P:=P) (ops:=ops) hT (o:=ung o) rfl hN he
         exact ⟨fin _ _ h1,h2⟩
       | succ n=>
         rw [hm] at h
         simp only at h
         cases hf:Z8H lo S.h 0 with
         | none=>rw [hf] at h;simp at h
         | some k=>
           rw [hf] at h
           simp only [Z1B] at h
           obtain ⟨n',he⟩:=Za2 h
           obtain ⟨h1,h2⟩:=Z9s (P:=P) (ops:=ops) hT (o:=ung o) rfl hN he
           exact ⟨fin _ _ h1,h2⟩
theorem Zbv (hT:TabOk P T) (hcall:Z1O P call) {S0:St} (hcl:∀ (i:Nat) (o:Oper) (d:Nat),ops[i]?=some o→o.dst=some d→Z2n d S0.t=S0.t) :
 ∀ (lo:Nat) (l:List Oper) (acc:List Eff) (S S':St),(∀ x:Nat,l[x]?=ops[acc.length+x]?)→acc.length+l.length=ops.size→NG S.t→Pre P ops S0 acc.reverse S→Z3V T call ops lo l acc S=some S'→∃ es,Plan P ops es S0∧S'=stL es 0 (fun _=>true) S0∧NG S'.t
 | lo,[],acc,S,S',hl,hsz,hN,hp,h=>by
   have hlen:acc.length=ops.size:=by simpa using hsz
   simp only [Z3V] at h
   cases hck:chk ops acc.reverse with
   | false=>rw [hck] at h;simp at h
   | true=>
   rw [hck] at h
   simp only [cond_true,Option.some.injEq] at h
   subst h
   refine ⟨acc.reverse,?_,hp.st,hN⟩
   simp only [chk,Bool.and_eq_true] at hck
   have hca:=Z5f (pre:=[]) hck.2
   have has:=Z6A (ops:=ops) ops.toList [] (fun x o hx=>by simpa using hx) (fun j i hb=>by simp at hb)
   have get:∀ i e,acc.reverse[i]?=some e→∃ o,ops[i]?=some o:=fun i e he=>by
    have:=(List.getElem?_eq_some_iff.1 he).1
    exact ⟨ops[i]'(by simpa [hlen] using this),Array.getElem?_eq_getElem _⟩
   refine ⟨by simp [hlen],fun i o e ho he=>(hp.each i o e ho he).2.1,fun i o ho p hp'=>?_,fun i j e f hij he hf hcf=>?_,fun i j e f hij he hf=>(hca i j e f hij (by simp) (by simpa using he) (by simpa using hf)).2,fun i e he=>?_,fun i e d he hd=>?_,fun i e he=>?_⟩
   ·have:=Z5Y hck.1 i o (by simpa using ho) p hp'
    omega
   ·exact has j i ((hca i j e f hij (by simp) (by simpa using he) (by simpa using hf)).1 hcf)
   ·obtain ⟨o,ho⟩:=get i e he
    exact (hp.each i o e ho he).2.2.1
   ·obtain ⟨o,ho⟩:=get i e he
    exact hcl i o d ho (by rw [← (hp.each i o e ho he).1];exact hd)
   ·obtain ⟨o,ho⟩:=get i e he
    exact (hp.each i o e ho he).2.2.2
 | lo,o::r,acc,S,S',hl,hsz,hN,hp,h=>by
   simp only [Z3V] at h
   cases hd:dop1 T call lo ops o S with
   | none=>rw [hd] at h;simp at h
   | some e=>
     rw [hd] at h
     simp only [Z77,Z1B] at h
     obtain ⟨hD,hng⟩:=Zhl (P:=P) hT hcall hN hd
     obtain ⟨e',n',h1,h2,h3,h4,rfl⟩:=hD.out
     have ho:ops[acc.length]?=some o:=by have:=hl 0;simpa using this.symm
     refine Zbv hT hcall hcl _ r (e'::acc) _ S' (fun x=>by have:=hl (x+1);simpa [Nat.add_assoc,Nat.add_comm 1 x] using this) (by simp at hsz ⊢;omega) (hN.setT _ hng) ?_ h
     have hst:=hp.st
     refine ⟨?_,fun i o' e2 ho' he'=>?_⟩
     ·rw [List.reverse_cons,Z3q,← hst];rfl
     ·rw [List.reverse_cons] at he'
      rw [List.reverse_cons,Z3q]
      by_cases hi:i < acc.length
      ·rw [List.getElem?_append_left (by simpa using hi)] at he'
       have:=hp.each i o' e2 ho' he'
       refine ⟨this.1,?_,this.2.2⟩
       have hf:decide (0+acc.reverse.length < i)=false:=by simp;omega
       simp only [stL,hf,cond_false]
       exact this.2.1
      ·have hi':i=acc.length:=by
        have:=(List.getElem?_eq_some_iff.1 he').1
        simp at this;omega
       subst hi'
       rw [List.getElem?_append_right (by simp)] at he'
       simp at he';subst he'
       rw [ho] at ho';cases ho'
       refine ⟨h1,?_,h3,h4⟩
       have hf:decide (0+acc.reverse.length < acc.length)=false:=by simp
       simp only [stL,hf,cond_false]
       rw [Z4e acc.reverse 0 (fun j=>decide (j < acc.length)) (fun _=>true) S0 (fun j hj=>by simp at hj ⊢;omega),← hst]
       exact h2
theorem Zbw (hT:TabOk P T) (hm:P.follows .mixedOrders=true) (hcall:Z1O P call) {id:Nat} {K:Exit→St→Prop} {S S':St} (hN:NG S.t) (h:Z3V T call ops 0 ops.toList [] S=some S') (hK:K .normal S'):WpC P (.region id ops true) K S∧NG S'.t:=by
 obtain ⟨es,hp,hS,hN'⟩:=Zbv (P:=P) hT hcall (S0:=S) (fun i o d ho hd=>hN.kill d) 0 ops.toList [] S S' (fun x=>by simp) (by simp) hN ⟨rfl,fun i o e ho he=>by simp at he⟩ h
 refine ⟨⟨fun C E m a w hr=>?_⟩,hN'⟩
 exact ZcH hm hp hr fun E' m' a' w' k1 k2=>⟨E',m',_,by rw [← hS];exact hK,k1,k2⟩
theorem Z8S (hT:TabOk P T) (hm:P.follows .mixedOrders=true) (hcall:Z1O P call) {id:Nat} {draw:Bool} {K:Exit→St→Prop} {S S':St} (hN:NG S.t) (h:Z4r T call ops draw S=some S') (hK:K .normal S'):WpC P (.region id ops draw) K S∧NG S'.t:=by
 unfold Z4r at h
 cases draw with
 | false=>
   have h1:=fun (C:Fr) (E0:Env) (m0:Mem) (V0:List Nat) (Q:Exit→Act→World→Prop)=>ZcQ (P:=P) hT hcall (Q:=Q) (C:=C) (E0:=E0) (m0:=m0) (V0:=V0) ops.toList S S' hN h
   refine ⟨⟨fun C E m a w hr=>wp_region_list ?_⟩,(h1 ⟨default,default,default,fun _=>none,0⟩ E0 (fun _=>none) [] (fun _ _ _=>True)).1⟩
   exact (h1 C E m (vers S.h) _).2 E m a w hr (.refl ..) fun E' m' a' w' k1 k2=>⟨E',m',S',hK,k1,k2⟩
 | true=>
   simp only [Z1B,Z45,Z3A] at h
   cases hb:Nat.ble (Z69 ops.toList) (cntF S.h 0) with
   | true=>rw [hb] at h;exact Zbw hT hm hcall hN h hK
   | false=>
     rw [hb] at h
     simp only [cond_false] at h
     have:=Zbw (P:=P) (id:=id) (S:=⟨S.t,S.h++List.replicate (Z69 ops.toList) .fresh⟩) hT hm hcall hN h hK
     exact ⟨WpC.pad _ this.1,this.2⟩
end
end
section
section
variable {P:Program} {T:Tb} {call:FRun}
def Zbx (P:Program) (c:Code) (S:St) (e:Exit) (S':St):Prop:=∀ K:Exit→St→Prop,K e S'→WpC P c K S
theorem Z3B {a b:Code} {K:Exit→St→Prop} {S:St} (h:WpC P a (fun e S'=>match e with | .normal=>WpC P b K S' | e=>K e S') S):WpC P (.seq a b) K S:=by
 refine ⟨fun C E m a w hr=>wp_seq ?_⟩
 refine wp_mono (h.out C E m a w hr) ?_
 rintro e a' w' ⟨E',m',S',k1,k2,k3⟩
 cases e with
 | normal=>
   refine wp_mono (k1.out C E' m' a' w' k3) ?_
   rintro e a'' w'' ⟨E'',m'',S'',q1,q2,q3⟩
   exact ⟨E'',m'',S'',q1,k2.trans q2,q3⟩
 | exit id=>exact ⟨E',m',S',k1,k2,k3⟩
 | goto l=>exact ⟨E',m',S',k1,k2,k3⟩
 | ret=>exact ⟨E',m',S',k1,k2,k3⟩
 | panic ch=>exact ⟨E',m',S',k1,k2,k3⟩
 | outgrown=>exact ⟨E',m',S',k1,k2,k3⟩
theorem Z29 {id:Nat} {c:Code} {K:Exit→St→Prop} {S:St} (h:WpC P c (fun e S'=>match e with | .exit j=>bif Nat.beq j id then K .normal S' else K (.exit j) S' | e=>K e S') S):WpC P (.block id c) K S:=by
 refine ⟨fun C E m a w hr=>wp_block ?_⟩
 refine wp_mono (h.out C E m a w hr) ?_
 rintro e a' w' ⟨E',m',S',k1,k2,k3⟩
 cases e with
 | exit j=>
   simp only [Exit.inBlock]
   simp only at k1
   cases hb:Nat.beq j id with
   | true=>
     rw [hb] at k1
     rw [if_pos (Nat.eq_of_beq_eq_true hb)]
     exact ⟨E',m',S',k1,k2,k3⟩
   | false=>
     rw [hb] at k1
     rw [if_neg (Nat.ne_of_beq_eq_false hb)]
     exact ⟨E',m',S',k1,k2,k3⟩
 | normal=>exact ⟨E',m',S',k1,k2,k3⟩
 | goto l=>exact ⟨E',m',S',k1,k2,k3⟩
 | ret=>exact ⟨E',m',S',k1,k2,k3⟩
 | panic ch=>exact ⟨E',m',S',k1,k2,k3⟩
 | outgrown=>exact ⟨E',m',S',k1,k2,k3⟩
theorem Za3 {c:Operand} {x y:Code} {K:Exit→St→Prop} {S:St} {b:Bool} (he:evO S.t c=.b b) (h:WpC P (if b then x else y) K S):WpC P (.cond c x y) K S:=by
 refine ⟨fun C E m a w hr=>?_⟩
 have hev:=(hr.evs .nil).gd c
 have hg:evG [] S.t c=.b b:=by simp [evG,he]
 rw [hg] at hev
 have hb:a.eval c=.bool b:=by
  have:=hev.resolve_left (by simp)
  simpa [den_v] using this.2
 refine wp_cond hb ?_
 cases b with
 | true=>exact h.out C E m a w hr
 | false=>exact h.out C E m a w hr
theorem ZcR {c:Code} {f:St→Option (Exit×St)} (hf:∀ S e S',NG S.t→f S=some (e,S')→Zbx P c S e S'∧NG S'.t) :
 ∀ (n:Nat) (S:St) (e:Exit) (S':St),NG S.t→iter f n S=some (e,S')→(∀ C E m a w,Rep E C m S a w→Code.rounds P c (fun e2 a' w'=>∃ E' m',e2=e∧Ext E m (vers S.h) E' m' (vers S'.h)∧Rep E' C m' S' a' w') n a w)∧NG S'.t
 | 0,S,e,S',hN,h=>by simp [iter] at h
 | n+1,S,e,S',hN,h=>by
   simp only [iter] at h
   have other:∀ e1 S1,f S=some (e1,S1)→e1≠.normal→e1=e∧S1=S'→(∀ C E m a w,Rep E C m S a w→Code.rounds P c (fun e2 a' w'=>∃ E' m',e2=e∧Ext E m (vers S.h) E' m' (vers S'.h)∧Rep E' C m' S' a' w') (n+1) a w)∧NG S'.t:=by
    rintro e1 S1 h1 hne ⟨rfl,rfl⟩
    obtain ⟨k1,k2⟩:=hf S e1 S1 hN h1
    refine ⟨fun C E m a w hr=>?_,k2⟩
    rw [rounds_succ]
    refine wp_mono ((k1 (fun e2 S2=>e2=e1∧S2=S1) ⟨rfl,rfl⟩).out C E m a w hr) ?_
    rintro e2 a' w' ⟨E',m',S2,⟨rfl,rfl⟩,q2,q3⟩
    cases e2 with
    | normal=>exact absurd rfl hne
    | exit id=>exact ⟨E',m',rfl,q2,q3⟩
    | goto l=>exact ⟨E',m',rfl,q2,q3⟩
    | ret=>exact ⟨E',m',rfl,q2,q3⟩
    | panic ch=>exact ⟨E',m',rfl,q2,q3⟩
    | outgrown=>exact ⟨E',m',rfl,q2,q3⟩
   cases h1:f S with
   | none=>rw [h1] at h;simp at h
   | some q=>
     obtain ⟨e1,S1⟩:=q
     rw [h1] at h
     cases e1 with
     | normal=>
       simp only at h
       obtain ⟨k1,k2⟩:=hf S .normal S1 hN h1
       obtain ⟨k3,k4⟩:=ZcR hf n S1 e S' k2 h
       refine ⟨fun C E m a w hr=>?_,k4⟩
       rw [rounds_succ]
       refine wp_mono ((k1 (fun e2 S2=>e2=.normal∧S2=S1) ⟨rfl,rfl⟩).out C E m a w hr) ?_
       rintro e2 a' w' ⟨E',m',S2,⟨rfl,rfl⟩,q2,q3⟩
       have mono:∀ (n:Nat) (a:Act) (w:World),Code.rounds P c (fun e2 a' w'=>∃ E2 m2,e2=e∧Ext E' m' (vers S2.h) E2 m2 (vers S'.h)∧Rep E2 C m2 S' a' w') n a w→Code.rounds P c (fun e2 a' w'=>∃ E2 m2,e2=e∧Ext E m (vers S.h) E2 m2 (vers S'.h)∧Rep E2 C m2 S' a' w') n a w:=by
        intro n
        induction n with
        | zero=>intro a w h;exact h
        | succ n ih=>
          intro a w h
          rw [rounds_succ] at h ⊢
          refine wp_mono h ?_
          intro e3 a3 w3 h3
          cases e3 with
          | normal=>exact ih _ _ h3
          | exit id=>obtain ⟨E2,m2,r1,r2,r3⟩:=h3;exact ⟨E2,m2,r1,q2.trans r2,r3⟩
          | goto l=>obtain ⟨E2,m2,r1,r2,r3⟩:=h3;exact ⟨E2,m2,r1,q2.trans r2,r3⟩
          | ret=>obtain ⟨E2,m2,r1,r2,r3⟩:=h3;exact ⟨E2,m2,r1,q2.trans r2,r3⟩
          | panic ch=>obtain ⟨E2,m2,r1,r2,r3⟩:=h3;exact ⟨E2,m2,r1,q2.trans r2,r3⟩
          | outgrown=>obtain ⟨E2,m2,r1,r2,r3⟩:=h3;exact ⟨E2,m2,r1,q2.trans r2,r3⟩
       exact mono n a' w' (k3 C E' m' a' w' q3)
     | exit id=>simp at h;exact other _ _ h1 (by simp) h
     | goto l=>simp at h;exact other _ _ h1 (by simp) h
     | ret=>simp at h;exact other _ _ h1 (by simp) h
     | panic ch=>simp at h;exact other _ _ h1 (by simp) h
     | outgrown=>simp at h;exact other _ _ h1 (by simp) h
theorem Zgm (hT:TabOk P T) (hm:P.follows .mixedOrders=true) (hcall:Z1O P call) (lf:Nat):∀ (c:Code) (S:St) (e:Exit) (S':St),NG S.t→Z15 T call lf c S=some (e,S')→Zbx P c S e S'∧NG S'.t:=by
 intro c
 induction c with
 | skip=>
   intro S e S' hN h
   simp [Z15] at h;obtain ⟨rfl,rfl⟩:=h
   exact ⟨fun K hK=>⟨fun C E m a w hr=>wp_skip ⟨E,m,S,hK,.refl ..,hr⟩⟩,hN⟩
 | label l=>
   intro S e S' hN h
   simp [Z15] at h;obtain ⟨rfl,rfl⟩:=h
   exact ⟨fun K hK=>⟨fun C E m a w hr=>wp_label ⟨E,m,S,hK,.refl ..,hr⟩⟩,hN⟩
 | exit id=>
   intro S e S' hN h
   simp [Z15] at h;obtain ⟨rfl,rfl⟩:=h
   exact ⟨fun K hK=>⟨fun C E m a w hr=>wp_exit ⟨E,m,S,hK,.refl ..,hr⟩⟩,hN⟩
 | ret=>
   intro S e S' hN h
   simp [Z15] at h;obtain ⟨rfl,rfl⟩:=h
   exact ⟨fun K hK=>⟨fun C E m a w hr=>wp_ret ⟨E,m,S,hK,.refl ..,hr⟩⟩,hN⟩
 | seq x y ihx ihy=>
   intro S e S' hN h
   simp only [Z15] at h
   cases h1:Z15 T call lf x S with
   | none=>rw [h1] at h;simp at h
   | some q=>
     obtain ⟨e1,S1⟩:=q
     rw [h1] at h
     obtain ⟨k1,k2⟩:=ihx S e1 S1 hN h1
     cases e1 with
     | normal=>
       obtain ⟨k3,k4⟩:=ihy S1 e S' k2 h
       exact ⟨fun K hK=>Z3B (k1 _ (k3 K hK)),k4⟩
     | exit id=>simp at h;obtain ⟨rfl,rfl⟩:=h;exact ⟨fun K hK=>Z3B (k1 _ hK),k2⟩
     | goto l=>simp at h;obtain ⟨rfl,rfl⟩:=h;exact ⟨fun K hK=>Z3B (k1 _ hK),k2⟩
     | ret=>simp at h;obtain ⟨rfl,rfl⟩:=h;exact ⟨fun K hK=>Z3B (k1 _ hK),k2⟩
     | panic ch=>simp at h;obtain ⟨rfl,rfl⟩:=h;exact ⟨fun K hK=>Z3B (k1 _ hK),k2⟩
     | outgrown=>simp at h;obtain ⟨rfl,rfl⟩:=h;exact ⟨fun K hK=>Z3B (k1 _ hK),k2⟩
 | cond c x y ihx ihy=>
   intro S e S' hN h
   simp only [Z15] at h
   cases he:evO S.t c <;> rw [he] at h <;> try (simp at h;done)
   rename_i b
   cases b with
   | true=>obtain ⟨k1,k2⟩:=ihx S e S' hN h;exact ⟨fun K hK=>Za3 he (k1 K hK),k2⟩
   | false=>obtain ⟨k1,k2⟩:=ihy S e S' hN h;exact ⟨fun K hK=>Za3 he (k1 K hK),k2⟩
 | block id c ih=>
   intro S e S' hN h
   simp only [Z15] at h
   cases h1:Z15 T call lf c S with
   | none=>rw [h1] at h;simp at h
   | some q=>
     obtain ⟨e1,S1⟩:=q
     rw [h1] at h
     obtain ⟨k1,k2⟩:=ih S e1 S1 hN h1
     cases e1 with
     | exit j=>
       simp only at h
       cases hb:Nat.beq j id with
       | true=>rw [hb] at h;simp at h;obtain ⟨rfl,rfl⟩:=h;exact ⟨fun K hK=>Z29 (k1 _ (by simpa only [hb,cond_true] using hK)),k2⟩
       | false=>rw [hb] at h;simp at h;obtain ⟨rfl,rfl⟩:=h;exact ⟨fun K hK=>Z29 (k1 _ (by simpa only [hb,cond_false] using hK)),k2⟩
     | normal=>simp at h;obtain ⟨rfl,rfl⟩:=h;exact ⟨fun K hK=>Z29 (k1 _ hK),k2⟩
     | goto l=>simp at h;obtain ⟨rfl,rfl⟩:=h;exact ⟨fun K hK=>Z29 (k1 _ hK),k2⟩
     | ret=>simp at h;obtain ⟨rfl,rfl⟩:=h;exact ⟨fun K hK=>Z29 (k1 _ hK),k2⟩
     | panic ch=>simp at h;obtain ⟨rfl,rfl⟩:=h;exact ⟨fun K hK=>Z29 (k1 _ hK),k2⟩
     | outgrown=>simp at h;obtain ⟨rfl,rfl⟩:=h;exact ⟨fun K hK=>Z29 (k1 _ hK),k2⟩
 | region id ops draw=>
   intro S e S' hN h
   simp only [Z15] at h
   cases h1:Z4r T call ops draw S with
   | none=>rw [h1] at h;simp at h
   | some S1=>
     rw [h1] at h
     simp at h;obtain ⟨rfl,rfl⟩:=h
     exact ⟨fun K hK=>(Z8S hT hm hcall hN h1 hK).1,(Z8S (P:=P) (id:=id) (K:=fun _ S=>S=S1) hT hm hcall hN h1 rfl).2⟩
 | loop c ih=>
   intro S e S' hN h
   simp only [Z15] at h
   obtain ⟨k1,k2⟩:=ZcR ih lf S e S' hN h
   refine ⟨fun K hK=>⟨fun C E m a w hr=>?_⟩,k2⟩
   refine wp_mono (wp_loop_rounds lf (k1 C E m a w hr)) ?_
   rintro e2 a' w' ⟨E',m',rfl,q2,q3⟩
   exact ⟨E',m',S',hK,q2,q3⟩
 | rangeFunc f ps c d ih ih2=>intro S e S' hN h;simp [Z15] at h
 | scope c ih=>intro S e S' hN h;simp [Z15] at h
 | goto l=>intro S e S' hN h;simp [Z15] at h
 | refuse why=>intro S e S' hN h;simp [Z15] at h
theorem ZdA (hT:TabOk P T) {f:FuncId} {fn:Func} {c:Code} (hf:P.funcs[f]?=some fn) (hb:fn.body=some c) (hnm:(fn.name == "runtime.NumGoroutine")=false) {args:List SV} {H:List SB} {K:SV→List SB→Prop}
 (hl0:Nat.ble args.length fn.ntmps=true) (h:WpC P c (retK T fn.results.toList K) ⟨args++List.replicate (fn.ntmps - args.length) .dead,H⟩):Ctr P f args H K:=by
 have hl:args.length≤fn.ntmps:=Nat.le_of_ble_eq_true hl0
 refine ⟨fun C E m w hr ha=>?_⟩
 have hrun:(callFunc f (denL E args).toArray).run P w=.ok (.enter f (denL E args).toArray) w:=by
  have h1:fn.name ≠ "runtime.NumGoroutine":=by simpa using hnm
  simp [callFunc,hf,h1,hb]
 unfold Z32
 rw [hrun]
 refine calls_of_wp hf hb ?_
 have hok:∀ (i:Nat) (x:SV),args[i]?=some x→Gd m (vers H) x:=fun i x hi=>Z9h ha hi
 have hrep:Rep E C m ⟨args++List.replicate (fn.ntmps - args.length) .dead,H⟩ { tmps:=(denL E args).toArray++Array.replicate (fn.ntmps - (denL E args).toArray.size) undef,defers:=[] } w:=by
  refine ⟨?_,?_,rfl,hr⟩
  ·simp [Z2V]
  ·intro i x v hx hv
   by_cases hi:i < args.length
   ·rw [List.getElem?_append_left hi] at hx
    rw [Array.getElem?_append_left (by simp [Z2V,hi])] at hv
    have hg:=hok i x hx
    simp only [List.getElem?_toArray,Z7M,hx,Option.map_some,Option.some.injEq] at hv
    subst hv
    exact Z1n hg
   ·rw [List.getElem?_append_right (by omega)] at hx
    have:x=.dead:=by
     have:=List.mem_of_getElem? hx
     exact List.eq_of_mem_replicate this
    subst this
    exact trivial
 refine wp_mono (h.out C E m _ w hrep) ?_
 rintro e a' w' ⟨E',m',S',k1,k2,k3⟩
 exact Z9P hT k3 k1 fun r hK hg=>⟨_,rfl,r,S'.h,E',m',rfl,hK,hg,k2,k3.rel⟩
def FtOk (P:Program) (FT:FuncId→Option Func):Prop:=∀ f fn,FT f=some fn→P.funcs[f]?=some fn∧(fn.name == "runtime.NumGoroutine")=false
theorem Zhm (hT:TabOk P T) {f:FuncId} {fn:Func} {c:Code} (h1:P.funcs[f]?=some fn) (hb:fn.body=some c) (h2:(fn.name == "runtime.NumGoroutine")=false) {args:List SV} {H H':List SB} {r:SV} {e:Exit} {S:St} (hc:Nat.ble args.length fn.ntmps=true) (he:e=.normal∨e=.ret)
 (hru:Zbx P c ⟨args++List.replicate (fn.ntmps - args.length) .dead,H⟩ e S) (hres:rres T fn H S=some (r,H')):Ctr P f args H (fun r' h'=>r'=r∧h'=H'):=by
 unfold rres at hres
 cases hxs:resL T S fn.results.toList with
 | none=>rw [hxs] at hres;simp at hres
 | some xs=>
   rw [hxs] at hres
   have go:∀ x,(match xs with | [y]=>x=y | ys=>x=.tup ys)→some (fin false H x S.h)=some (r,H')→Ctr P f args H (fun r' h'=>r'=r∧h'=H'):=by
    intro x hx hfin
    have h3:Ctr P f args H (fun r' h'=>r'=x∧h'=S.h):=by
     refine ZdA hT h1 hb h2 hc (hru _ ?_)
     rcases he with rfl | rfl
     ·simp only [retK,hxs]
      match xs,hx with
      | [],hx=>exact ⟨hx.symm,trivial⟩
      | [y],hx=>exact ⟨hx.symm,trivial⟩
      | y::z::ys,hx=>exact ⟨hx.symm,trivial⟩
     ·simp only [retK,hxs]
      match xs,hx with
      | [],hx=>exact ⟨hx.symm,trivial⟩
      | [y],hx=>exact ⟨hx.symm,trivial⟩
      | y::z::ys,hx=>exact ⟨hx.symm,trivial⟩
    have h4:=Zbr Z11 false h3
    simp only [Option.some.injEq] at hfin
    rw [hfin] at h4
    exact h4
   match xs,go,hres with
   | [],go,hres=>exact go _ rfl hres
   | [y],go,hres=>exact go _ rfl hres
   | y::z::ys,go,hres=>exact go _ rfl hres
end
inductive FTr:Type where
 | leaf
 | node (k:Nat) (v:Func) (l r:FTr)
def FTr.get:FTr→FuncId→Option Func
 | .leaf,_=>none
 | .node k v l r,t=>bif Nat.beq t k then some v else bif Nat.blt t k then l.get t else r.get t
def FTr.All (p:Nat→Func→Prop):FTr→Prop
 | .leaf=>True
 | .node k v l r=>p k v∧l.All p∧r.All p
theorem Z5h {p:Nat→Func→Prop}:∀ {tr:FTr},tr.All p→∀ {t:Nat} {fn:Func},tr.get t=some fn→p t fn
 | .leaf,_,t,ti,h=>by simp [FTr.get] at h
 | .node k v l r,ha,t,ti,h=>by
   simp only [FTr.get] at h
   cases h1:Nat.beq t k with
   | true=>
     rw [h1] at h
     have:=Nat.eq_of_beq_eq_true h1
     subst this
     simp only [cond_true,Option.some.injEq] at h
     subst h;exact ha.1
   | false=>
     rw [h1] at h
     simp only [cond_false] at h
     cases h2:Nat.blt t k <;> rw [h2] at h <;> simp only [cond_true,cond_false] at h
     ·exact Z5h ha.2.2 h
     ·exact Z5h ha.2.1 h
def FnOk (P:Program) (k:Nat) (fn:Func):Prop:=P.funcs[k]?=some fn∧(fn.name == "runtime.NumGoroutine")=false
theorem Zby {P:Program} {tr:FTr} (h:tr.All (FnOk P)):FtOk P tr.get:=fun f fn hf=>Z5h h hf
end
section
universe u v w
noncomputable section
variable {α:Sort u} {β:Type v}
def Z2q (d:β) (l:List β):Nat→β:=@List.rec β (fun _=>Nat→β) (fun _=>d) (fun x _ ih n=>@Nat.rec (fun _=>β) x (fun m _=>ih m) n) l
theorem Z2u (d:β):∀ (l:List β) (n:Nat),Z2q d l n=l.getD n d
 | [],n=>by simp [Z2q]
 | x::r,0=>rfl
 | x::r,n+1=>by
   show Z2q d r n=_
   rw [Z2u d r n,List.getD_cons_succ]
def ZaE (l:List β):Nat→β→(List β→α)→α:=@List.rec β (fun _=>Nat→β→(List β→α)→α) (fun _ _ K=>K []) (fun x xs ih n v K=>@Nat.rec (fun _=>α) (K (v::xs)) (fun m _=>ih m v (fun ys=>K (x::ys))) n) l
theorem Zbz:∀ (l:List β) (n:Nat) (v:β) (K:List β→α),ZaE l n v K=K (l.set n v)
 | [],n,v,K=>by cases n <;> rfl
 | x::r,0,v,K=>rfl
 | x::r,n+1,v,K=>by
   show ZaE r n v (fun ys=>K (x::ys))=_
   rw [Zbz r n v];rfl
def Z4Y (l m:List β):(List β→α)→α:=@List.rec β (fun _=>(List β→α)→α) (fun K=>K m) (fun x _ ih K=>ih (fun ys=>K (x::ys))) l
theorem Z4I:∀ (l m:List β) (K:List β→α),Z4Y l m K=K (l++m)
 | [],m,K=>rfl
 | x::r,m,K=>by
   show Z4Y r m (fun ys=>K (x::ys))=_
   rw [Z4I r m];rfl
def ZaF {γ:Type w} (f:β→γ) (l:List β):(List γ→α)→α:=@List.rec β (fun _=>(List γ→α)→α) (fun K=>K []) (fun x _ ih K=>ih (fun ys=>K (f x::ys))) l
theorem ZbA {γ:Type w} (f:β→γ):∀ (l:List β) (K:List γ→α),ZaF f l K=K (l.map f)
 | [],K=>rfl
 | x::r,K=>by
   show ZaF f r (fun ys=>K (f x::ys))=_
   rw [ZbA f r];rfl
def fSF (l:List SV):(List SV→α)→α:=@List.rec SV (fun _=>(List SV→α)→α) (fun K=>K []) (fun x _ ih K=>ih (fun ys=>K (x::ys))) l
theorem Z8T:∀ (l:List SV) (K:List SV→α),fSF l K=K l
 | [],K=>rfl
 | x::r,K=>by
   show fSF r (fun ys=>K (x::ys))=_
   rw [Z8T r]
def fBsF (l:List UInt8):(List UInt8→α)→α:=@List.rec UInt8 (fun _=>(List UInt8→α)→α) (fun K=>K []) (fun x _ ih K=>fBy x fun x=>ih (fun ys=>K (x::ys))) l
theorem Z9v:∀ (l:List UInt8) (K:List UInt8→α),fBsF l K=K l
 | [],K=>rfl
 | x::r,K=>by
   show fBy x (fun x=>fBsF r (fun ys=>K (x::ys)))=_
   rw [Zeu,Z9v r]
def fVF (v:SV) (K:SV→α):α:=match v with
 | .i k n=>fI n fun n=>K (.i k n)
 | .b true=>K (.b true)
 | .b false=>K (.b false)
 | .s l=>fBsF l fun l=>K (.s l)
 | .ptr k ver off ix=>fN k fun k=>fN ver fun ver=>fN off fun off=>K (.ptr k ver off ix)
 | .sl k ver off len cap dc=>fN k fun k=>fN ver fun ver=>fN off fun off=>fN len fun len=>fO cap fun cap=>fN dc fun dc=>K (.sl k ver off len cap dc)
 | .agg cs=>fSF cs fun cs=>K (.agg cs)
 | .tup cs=>fSF cs fun cs=>K (.tup cs)
 | .fn f cs=>fSF cs fun cs=>K (.fn f cs)
 | .map k=>fN k fun k=>K (.map k)
 | .iface t x=>K (.iface t x)
 | .bm t x=>K (.bm t x)
 | v=>K v
theorem Z5B (v:SV) (K:SV→α):fVF v K=K v:=by
 cases v <;> simp only [fVF,Zdu,Z9v,Z1B,ZaB,Z8T]
 rename_i x;cases x <;> rfl
def fBF (B:SB) (K:SB→α):α:=match B with
 | .mem t segs v g=>fSF segs fun segs=>fN v fun v=>K (.mem t segs v g)
 | .mp kv v=>fM kv fun kv=>K (.mp kv v)
 | .gone v=>K (.gone v)
 | .fresh=>K .fresh
theorem fBF_eq (B:SB) (K:SB→α):fBF B K=K B:=by cases B <;> simp only [fBF,Z8T,Z1B,ZaC]
def ZdB (l:List (Nat×SB)):List SB→(List SB→α)→α:=@List.rec (Nat×SB) (fun _=>List SB→(List SB→α)→α) (fun h K=>K h) (fun p _ ih h K=>fBF p.2 fun B=>ZaE h p.1 B fun h=>ih h K) l
theorem ZbB:∀ (l:List (Nat×SB)) (h:List SB) (K:List SB→α),ZdB l h K=K (setB h l)
 | [],h,K=>rfl
 | (k,B)::r,h,K=>by
   show fBF B (fun B=>ZaE h k B fun h=>ZdB r h K)=_
   rw [fBF_eq,Zbz,ZbB r];rfl
def ZbC (n:Nat):(List SB→α)→α:=@Nat.rec (fun _=>(List SB→α)→α) (fun K=>K []) (fun _ ih K=>ih fun l=>K (.fresh::l)) n
theorem Za4:∀ (n:Nat) (K:List SB→α),ZbC n K=K (List.replicate n .fresh)
 | 0,K=>rfl
 | n+1,K=>by
   show ZbC n (fun l=>K (.fresh::l))=_
   rw [Za4 n,List.replicate_succ]
end
noncomputable section
def Z4Z (l:List SV):Nat→Option (List SV):=@List.rec SV (fun _=>Nat→Option (List SV)) (fun n=>@Nat.rec (fun _=>Option (List SV)) (some []) (fun _ _=>none) n)
 (fun x xs ih n=>@Nat.rec (fun _=>Option (List SV)) (some (x::xs)) (fun m _=>bif Nat.ble (wd x) (m+1) then ih (m+1 - wd x) else none) n) l
theorem Z4J:∀ (l:List SV) (n:Nat),Z4Z l n=ZO l n
 | [],0=>rfl
 | [],n+1=>rfl
 | x::r,0=>rfl
 | x::r,n+1=>by
   show (bif Nat.ble (wd x) (n+1) then Z4Z r (n+1 - wd x) else none)=ZO (x::r) (n+1)
   rw [Z4J r,ZO]
def Z8U (l:List SV):Nat→Option (List SV):=@List.rec SV (fun _=>Nat→Option (List SV)) (fun n=>@Nat.rec (fun _=>Option (List SV)) (some []) (fun _ _=>none) n)
 (fun x xs ih n=>@Nat.rec (fun _=>Option (List SV)) (some []) (fun m _=>bif Nat.ble (wd x) (m+1) then @Option.rec _ (fun _=>Option (List SV)) none (fun r=>some (x::r)) (ih (m+1 - wd x)) else none) n) l
theorem Z6a:∀ (l:List SV) (n:Nat),Z8U l n=Z1h l n
 | [],0=>rfl
 | [],n+1=>rfl
 | x::r,0=>rfl
 | x::r,n+1=>by
   show (bif Nat.ble (wd x) (n+1) then @Option.rec _ (fun _=>Option (List SV)) none (fun q=>some (x::q)) (Z8U r (n+1 - wd x)) else none)=Z1h (x::r) (n+1)
   rw [Z6a r,Z1h]
   cases Z1h r (n+1 - wd x) <;> rfl
def wdLF (l:List SV):Nat:=@List.rec SV (fun _=>Nat) 0 (fun x _ ih=>wd x+ih) l
theorem Z5C:∀ l:List SV,wdLF l=wdL l
 | []=>rfl
 | x::r=>by show wd x+wdLF r=_;rw [Z5C r,wdL]
def splF (new:List SV) (wn:Nat) (l:List SV):Nat→Option (List SV):=@List.rec SV (fun _=>Nat→Option (List SV))
 (fun n=>@Nat.rec (fun _=>Option (List SV)) (@Option.rec _ (fun _=>Option (List SV)) none (fun post=>Z4Y new post some) (Z4Z [] wn)) (fun _ _=>none) n)
 (fun x xs ih n=>@Nat.rec (fun _=>Option (List SV)) (@Option.rec _ (fun _=>Option (List SV)) none (fun post=>Z4Y new post some) (Z4Z (x::xs) wn))
  (fun m _=>bif Nat.ble (wd x) (m+1) then @Option.rec _ (fun _=>Option (List SV)) none (fun r=>some (x::r)) (ih (m+1 - wd x)) else none) n) l
def Z7d (segs:List SV) (off:Nat) (new:List SV):Option (List SV):=splF new (wdLF new) segs off
theorem Z9w {β γ:Type _} (o:Option β) (f:β→Option γ):@Option.rec β (fun _=>Option γ) none f o=(match o with | some x=>f x | none=>none):=by cases o <;> rfl
theorem ZdC:∀ (segs:List SV) (off:Nat) (new:List SV),Z7d segs off new=Z1t segs off new:=by
 intro segs
 induction segs with
 | nil=>
   intro off new
   cases off with
   | zero=>
     show @Option.rec _ (fun _=>Option (List SV)) none (fun post=>Z4Y new post some) (Z4Z [] (wdLF new))=_
     rw [Z9w,Z4J,Z5C,Z1t,Z4w]
     simp only [Z1h,Nat.zero_add,Z4I,List.nil_append]
     cases ZO [] (wdL new) <;> rfl
   | succ n=>rfl
 | cons x r ih=>
   intro off new
   cases off with
   | zero=>
     show @Option.rec _ (fun _=>Option (List SV)) none (fun post=>Z4Y new post some) (Z4Z (x::r) (wdLF new))=_
     rw [Z9w,Z4J,Z5C,Z1t,Z4w]
     simp only [Z1h,Nat.zero_add,Z4I,List.nil_append]
     cases ZO (x::r) (wdL new) <;> rfl
   | succ n=>
     show (bif Nat.ble (wd x) (n+1) then @Option.rec _ (fun _=>Option (List SV)) none (fun q=>some (x::q)) (Z7d r (n+1 - wd x) new) else none)=_
     rw [ih,Z9w,Z1t,Z1t,Z4w,Z4w]
     simp only [Z1h]
     cases hb:Nat.ble (wd x) (n+1) with
     | false=>rfl
     | true=>
       have hle:=Nat.le_of_ble_eq_true hb
       simp only [cond_true]
       have e1:ZO (x::r) (n+1+wdL new)=ZO r (n+1 - wd x+wdL new):=by
        rw [show n+1+wdL new=(n+wdL new)+1 by omega,ZO,Nat.ble_eq_true_of_le (show wd x≤n+wdL new+1 by omega)]
        simp only [cond_true]
        congr 1;omega
       rw [e1]
       cases Z1h r (n+1 - wd x) with
       | none=>rfl
       | some pre=>cases ZO r (n+1 - wd x+wdL new) <;> rfl
def rdF (agg:Bool) (size:Nat) (segs:List SV):Option SV:=
 bif agg then (match Z8U segs size with | some cs=>some (.agg cs) | none=>none)
 else match segs with
  | x::_=>bif Z2d x then some x else none
  | []=>none
theorem ZeA (agg:Bool) (size:Nat) (segs:List SV):rdF agg size segs=rdT agg size segs:=by unfold rdF rdT;rw [Z6a];rfl
inductive Tre:Type 1 where
 | e
 | n (l:Tre) (v:SV) (r:Tre)
def Tre.get (t:Tre):Nat→SV:=@Tre.rec (fun _=>Nat→SV) (fun _=>.dead) (fun _ v _ il ir k=>@Nat.rec (fun _=>SV) v (fun m _=>bif Nat.beq (Nat.land m 1) 0 then il (Nat.div m 2) else ir (Nat.div m 2)) k) t
def Tre.set {α:Sort u} (t:Tre):Nat→SV→(Tre→α)→α:=@Tre.rec (fun _=>Nat→SV→(Tre→α)→α) (fun _ _ K=>K .e)
 (fun l v r il ir k x K=>@Nat.rec (fun _=>α) (K (.n l x r)) (fun m _=>bif Nat.beq (Nat.land m 1) 0 then il (Nat.div m 2) x (fun l'=>K (.n l' v r)) else ir (Nat.div m 2) x (fun r'=>K (.n l v r'))) k) t
def Tre.in (t:Tre):Nat→Prop:=@Tre.rec (fun _=>Nat→Prop) (fun _=>False) (fun _ v _ il ir k=>@Nat.rec (fun _=>Prop) True (fun m _=>bif Nat.beq (Nat.land m 1) 0 then il (Nat.div m 2) else ir (Nat.div m 2)) k) t
def Tre.upd (t:Tre):Nat→SV→Tre:=@Tre.rec (fun _=>Nat→SV→Tre) (fun _ _=>.e)
 (fun l v r il ir k x=>@Nat.rec (fun _=>Tre) (.n l x r) (fun m _=>bif Nat.beq (Nat.land m 1) 0 then .n (il (Nat.div m 2) x) v r else .n l v (ir (Nat.div m 2) x)) k) t
theorem Z2v (l r:Tre) (v:SV) (m:Nat) (x:SV):(Tre.n l v r).upd (m+1) x=bif Nat.beq (Nat.land m 1) 0 then Tre.n (l.upd (Nat.div m 2) x) v r else Tre.n l v (r.upd (Nat.div m 2) x):=rfl
theorem Z4i {α:Sort u}:∀ (t:Tre) (k:Nat) (x:SV) (K:Tre→α),t.set k x K=K (t.upd k x)
 | .e,k,x,K=>rfl
 | .n l v r,0,x,K=>rfl
 | .n l v r,m+1,x,K=>by
   have e1:(Tre.n l v r).set (m+1) x K=bif Nat.beq (Nat.land m 1) 0 then l.set (Nat.div m 2) x (fun l'=>K (.n l' v r)) else r.set (Nat.div m 2) x (fun r'=>K (.n l v r')):=rfl
   rw [e1,Z2v]
   cases Nat.beq (Nat.land m 1) 0 <;> simp only [cond_true,cond_false]
   ·rw [Z4i r]
   ·rw [Z4i l]
theorem Z3s (l r:Tre) (v:SV) (m:Nat):(Tre.n l v r).get (m+1)=bif Nat.beq (Nat.land m 1) 0 then l.get (Nat.div m 2) else r.get (Nat.div m 2):=rfl
theorem Z5i (l r:Tre) (v:SV) (m:Nat):(Tre.n l v r).in (m+1)=bif Nat.beq (Nat.land m 1) 0 then l.in (Nat.div m 2) else r.in (Nat.div m 2):=rfl
theorem ZbD {a b:Nat} (h1:Nat.beq (Nat.land a 1) 0=Nat.beq (Nat.land b 1) 0) (h2:Nat.div a 2=Nat.div b 2):a=b:=by
 have e:∀ n,Nat.land n 1=n % 2:=fun n=>Nat.and_one_is_mod n
 have h2':a / 2=b / 2:=h2
 rw [e,e] at h1
 have ha:=Nat.mod_two_eq_zero_or_one a
 have hb:=Nat.mod_two_eq_zero_or_one b
 rcases ha with ha | ha <;> rcases hb with hb | hb <;> rw [ha,hb] at h1 <;> first | omega | (simp at h1)
theorem Z3W:∀ (t:Tre) (k j:Nat) (x:SV),t.in k→(t.upd k x).get j=if j=k then x else t.get j
 | .e,k,j,x,h=>h.elim
 | .n l v r,0,0,x,h=>rfl
 | .n l v r,0,j+1,x,h=>rfl
 | .n l v r,k+1,0,x,h=>by
   rw [Z2v]
   cases Nat.beq (Nat.land k 1) 0 <;> rfl
 | .n l v r,k+1,j+1,x,h=>by
   rw [Z2v,Z3s]
   rw [Z5i] at h
   cases hk:Nat.beq (Nat.land k 1) 0 with
   | true=>
     rw [hk] at h
     simp only [cond_true] at h ⊢
     rw [Z3s]
     cases hj:Nat.beq (Nat.land j 1) 0 with
     | true=>
       simp only [cond_true]
       rw [Z3W l _ _ x h]
       by_cases hjk:j=k
       ·subst hjk;simp
       ·rw [if_neg (fun e=>hjk (ZbD (by rw [hj,hk]) e)),if_neg (by omega)]
     | false=>
       simp only [cond_false]
       rw [if_neg (fun e=>by have:j=k:=by omega
                             subst this;rw [hk] at hj;cases hj)]
   | false=>
     rw [hk] at h
     simp only [cond_false] at h ⊢
     rw [Z3s]
     cases hj:Nat.beq (Nat.land j 1) 0 with
     | true=>
       simp only [cond_true]
       rw [if_neg (fun e=>by have:j=k:=by omega
                             subst this;rw [hk] at hj;cases hj)]
     | false=>
       simp only [cond_false]
       rw [Z3W r _ _ x h]
       by_cases hjk:j=k
       ·subst hjk;simp
       ·rw [if_neg (fun e=>hjk (ZbD (by rw [hj,hk]) e)),if_neg (by omega)]
theorem Z4j:∀ (t:Tre) (k j:Nat) (x:SV),(t.upd k x).in j ↔ t.in j
 | .e,k,j,x=>Iff.rfl
 | .n l v r,0,j,x=>Iff.rfl
 | .n l v r,k+1,0,x=>by
   rw [Z2v]
   cases Nat.beq (Nat.land k 1) 0 <;> exact Iff.rfl
 | .n l v r,k+1,j+1,x=>by
   rw [Z2v]
   cases Nat.beq (Nat.land k 1) 0 <;> simp only [cond_true,cond_false,Z5i] <;> cases Nat.beq (Nat.land j 1) 0 <;> simp only [cond_true,cond_false]
   ·exact Z4j r _ _ x
   ·exact Z4j l _ _ x
def ZaG {α:Sort u} (d:Nat):(Tre→α)→α:=@Nat.rec (fun _=>(Tre→α)→α) (fun K=>K .e) (fun _ ih K=>ih fun t=>K (.n t .dead t)) d
def full:Nat→Tre
 | 0=>.e
 | d+1=>.n (full d) .dead (full d)
theorem ZbE {α:Sort u}:∀ (d:Nat) (K:Tre→α),ZaG d K=K (full d)
 | 0,K=>rfl
 | d+1,K=>by
   show ZaG d (fun t=>K (.n t .dead t))=_
   rw [ZbE d];rfl
theorem ZcS:∀ (d k:Nat),k+1 < 2 ^ d→(full d).in k
 | 0,k,h=>by simp at h
 | d+1,0,h=>trivial
 | d+1,k+1,h=>by
   show (Tre.n (full d) .dead (full d)).in (k+1)
   rw [Z5i]
   have:Nat.div k 2+1 < 2 ^ d:=by
    have:Nat.div k 2=k / 2:=rfl
    rw [Nat.pow_succ] at h
    omega
   cases Nat.beq (Nat.land k 1) 0 <;> exact ZcS d _ this
theorem ZbF:∀ (d k:Nat),(full d).get k=.dead
 | 0,k=>rfl
 | d+1,0=>rfl
 | d+1,k+1=>by
   show (Tre.n (full d) .dead (full d)).get (k+1)=_
   rw [Z3s]
   cases Nat.beq (Nat.land k 1) 0 <;> exact ZbF d _
structure CS:Type 1 where
 tr:Tre
 n:Nat
 h:List SB
def CS.st (c:CS):St:=⟨(List.range c.n).map c.tr.get,c.h⟩
def CS.wf (c:CS):Prop:=∀ k,k < c.n→c.tr.in k
def sl (tr:Tre) (n k:Nat):SV:=bif Nat.blt k n then tr.get k else .dead
def evF (tr:Tre) (n:Nat) (o:Operand):SV:=match o with
 | .tmp k=>sl tr n k
 | .const v=>ofV v
 | .global g=>gV g
 | .func f=>.fn f []
theorem sl_eq (c:CS) (k:Nat):sl c.tr c.n k=c.st.t.getD k .dead:=by
 unfold sl CS.st
 rw [List.getD_eq_getElem?_getD,List.getElem?_map]
 cases hb:Nat.blt k c.n with
 | true=>
   have:=Nat.le_of_ble_eq_true hb
   simp [show k < c.n from this]
 | false=>
   have:¬ k < c.n:=fun h=>by have:=Nat.ble_eq_true_of_le h;rw [show Nat.ble (k+1) c.n=Nat.blt k c.n from rfl,hb] at this;cases this
   simp [this]
theorem Z6L (c:CS):evF c.tr c.n=evO c.st.t:=by
 funext o
 cases o <;> simp only [evF,evO]
 exact sl_eq c _
def CS.put (c:CS) (d:Nat) (v:SV):CS:=bif Nat.blt d c.n then ⟨c.tr.upd d v,c.n,c.h⟩ else c
theorem CS.put_st (c:CS) (hw:c.wf) (d:Nat) (v:SV):(c.put d v).st=⟨c.st.t.set d v,c.h⟩:=by
 unfold CS.put
 cases hb:Nat.blt d c.n with
 | true=>
   have hd:d < c.n:=Nat.le_of_ble_eq_true hb
   simp only [cond_true,CS.st]
   congr 1
   apply List.ext_getElem?
   intro j
   rw [List.getElem?_set,List.getElem?_map]
   by_cases hj:j < c.n
   ·simp only [List.getElem?_range,hj,Option.map_some,List.length_map,List.length_range,List.getElem?_map]
    rw [Z3W _ _ _ _ (hw d hd)]
    by_cases hjd:d=j
    ·subst hjd;simp [hd]
    ·rw [if_neg (fun e=>hjd e.symm),if_neg hjd]
   ·have hdj:d≠j:=fun e=>hj (e ▸ hd)
    simp [hj,hdj]
 | false=>
   have hd:¬ d < c.n:=fun h=>by have:=Nat.ble_eq_true_of_le h;rw [show Nat.ble (d+1) c.n=Nat.blt d c.n from rfl,hb] at this;cases this
   simp only [cond_false,CS.st]
   rw [List.set_eq_of_length_le (by simp;omega)]
theorem CS.put_wf (c:CS) (hw:c.wf) (d:Nat) (v:SV):(c.put d v).wf∧(c.put d v).n=c.n∧(c.put d v).h=c.h:=by
 unfold CS.put
 cases hb:Nat.blt d c.n with
 | true=>exact ⟨fun k hk=>(Z4j _ _ _ _).2 (hw k hk),rfl,rfl⟩
 | false=>exact ⟨hw,rfl,rfl⟩
def Z7e {α:Sort u} (tr:Tre) (n:Nat) (h:List SB) (d:Option Nat) (v:SV) (K:CS→α):α:=match d with
 | some d=>bif Nat.blt d n then tr.set d v fun tr=>K ⟨tr,n,h⟩ else K ⟨tr,n,h⟩
 | none=>K ⟨tr,n,h⟩
def CS.putO (c:CS) (d:Option Nat) (v:SV):CS:=match d with
 | some d=>c.put d v
 | none=>c
theorem ZbG {α:Sort u} (c:CS) (d:Option Nat) (v:SV) (K:CS→α):Z7e c.tr c.n c.h d v K=K (c.putO d v):=by
 cases d with
 | none=>rfl
 | some d=>
   simp only [Z7e,CS.putO,CS.put,Z4i]
   cases Nat.blt d c.n <;> rfl
theorem CS.putO_st (c:CS) (hw:c.wf) (d:Option Nat) (v:SV):(c.putO d v).st=⟨setT c.st.t d v,c.h⟩:=by
 cases d with
 | none=>rfl
 | some d=>exact c.put_st hw d v
theorem CS.putO_wf (c:CS) (hw:c.wf) (d:Option Nat) (v:SV):(c.putO d v).wf∧(c.putO d v).n=c.n∧(c.putO d v).h=c.h:=by
 cases d with
 | none=>exact ⟨hw,rfl,rfl⟩
 | some d=>exact c.put_wf hw d v
end
end
section
universe u
noncomputable section
def ZaH (T:Tb) (h:List SB) (t:TypeId) (p:SV):Option SV:=
 match T t with
 | some ti=>(match p with
   | .ptr k ver off []=>(match Z2q .fresh h k with
     | .mem _ segs ver' gw=>(match Z4Z segs off with
       | some l=>(match rdF ti.k.agg ti.size l with
         | some x=>bif Nat.beq gw 0||Nat.beq ver ver' then some x else none
         | none=>none)
       | none=>none)
     | _=>none)
   | p=>(Z26 T h t p).get)
 | none=>none
theorem Zgn (T:Tb) (h:List SB) (t:TypeId) (p:SV):ZaH T h t p=(Z26 T h t p).get:=by
 unfold ZaH
 cases ht:T t with
 | none=>simp [Z26,ht,R.get]
 | some ti=>
   simp only
   split
   ·rename_i k ver off
    simp only [Z26,ht,Z2u]
    cases h.getD k .fresh <;> try rfl
    rename_i ty segs ver' gw
    simp only [nav,Z4J]
    have hn:∀ l:List SV,navI l []=.ok l:=fun l=>by cases l <;> rfl
    cases gw with
    | zero=>
      cases ZO segs off with
      | none=>rfl
      | some l=>
        simp only [hn,rdR,ZeA]
        cases rdT ti.k.agg ti.size l <;> rfl
    | succ gw=>
      have hz:Nat.beq (gw+1) 0=false:=rfl
      cases ZO segs off with
      | none=>rfl
      | some l=>
        simp only [hn,rdR,ZeA,hz,Bool.false_or]
        cases rdT ti.k.agg ti.size l with
        | none=>rfl
        | some x=>
          simp only [andR,R.get]
          by_cases hv:ver=ver'
          ·subst hv
           rw [show instDecidableEqNat ver ver=.isTrue rfl from by cases instDecidableEqNat ver ver with
            | isTrue _=>rfl
            | isFalse h=>exact absurd rfl h]
           simp
          ·have:Nat.beq ver ver'=false:=by
            cases hb:Nat.beq ver ver' with
            | false=>rfl
            | true=>exact absurd (Nat.eq_of_beq_eq_true hb) hv
           rw [this]
           cases instDecidableEqNat ver ver' with
           | isTrue h=>exact absurd h hv
           | isFalse _=>rfl
   ·rfl
def ZaI (T:Tb) (h:List SB) (ev:Operand→SV) (op:Op):Option SV:=
 match op with
 | .load t p=>ZaH T h t (ev p)
 | op=>(ZF T h ev op).get
theorem Zgo (T:Tb) (h:List SB) (ev:Operand→SV) (op:Op):ZaI T h ev op=(ZF T h ev op).get:=by
 cases op <;> simp only [ZaI]
 rw [Zgn];rfl
def valF (o:Oper) (x:SV) (rb:List Nat) (n:Nat):Option (Eff×Nat):=
 bif notG x then fVF x fun x=>some (⟨o.dst,x,Ze o [],rb,[]⟩,n) else none
theorem ZcT (o:Oper) (x:SV) (rb:List Nat) (n:Nat):valF o x rb n=valE o x rb n:=by simp only [valF,valE,Z5B,Z4g]
def newF (h:List SB) (o:Oper) (B:SB) (x:SV) (n:Nat):Option (Eff×Nat):=
 match Z2q (.gone 0) h n with
 | .fresh=>some (⟨o.dst,x,Ze o [],[n],[(n,B)]⟩,n+1)
 | _=>none
theorem ZcU (h:List SB) (o:Oper) (B:SB) (x:SV) (n:Nat):newF h o B x n=newE h o B x n:=by
 simp only [newF,newE,Z2u]
 all_goals rfl
def Z8V (T:Tb) (n:Nat) (o:Oper) (ev:Operand→SV) (h:List SB):Option (Eff×Nat):=
 match o.op with
 | .pick c a b=>(match ev c with
   | .b x=>valF o (bif x then ev a else ev b) [] n
   | _=>none)
 | .box ty x=>bif Zy (ev x) then newF h o (.mem ty (Zk (ev x)) 1 0) (.ptr n 1 0 []) n else none
 | .alloc ty=>(match T ty with
   | some ti=>newF h o (.mem ty ti.zero 1 0) (.ptr n 1 0 []) n
   | none=>none)
 | .buildSlice ty len parts=>(match T ty with
   | some ti=>match ti.k with
     | .slice e=>match T e with
       | some te=>bif !(Nat.ble (len * te.size) 16777216)||Nat.beq te.size 0 then none else match Z18 te.size (parts.toList.map fun q=>(q.1,ev q.2)) (ZM len te.zero) with
         | some segs=>newF h o (.mem e (Z30 ti.flat te len segs) 1 0) (.sl n 1 0 len (some len) 0) n
         | none=>none
       | none=>none
     | _=>none
   | none=>none)
 | .makeSlice ty l c=>(match T ty,ev l,ev c with
   | some ti,.i _ (.ofNat m),.i _ (.ofNat m')=>match ti.k with
     | .slice e=>match T e with
       | some te=>bif !(Nat.beq m m')||(!(Nat.ble (m * te.bytes) 16777216)||(!(Nat.ble (m * te.size) 16777216)||Nat.beq te.size 0)) then none else newF h o (.mem e (Z30 ti.flat te m (ZM m te.zero)) 1 0) (.sl n 1 0 m (some m) 0) n
       | none=>none
     | _=>none
   | _,_,_=>none)
 | .store ty x v=>(match T ty,ev x with
   | some ti,.ptr k ver off ix=>match Z2q .fresh h k with
     | .mem ty' segs ver' gr=>bif Zy (ev v)&&Nat.beq (wdLF (Zk (ev v))) ti.size&&(Nat.beq gr 0||Nat.beq ver ver') then
      (match (match ix with | []=>Z7d segs off (Zk (ev v)) | _::_=>none) with
      | some segs'=>some (⟨o.dst,.dead,Ze o [],[k],[(k,.mem ty' segs' ver' gr)]⟩,n)
      | none=>none) else none
     | _=>none
   | _,_=>none)
 | op=>(match ZaI T h ev op with
   | some x=>valF o x (Z2H ev op) n
   | none=>none)
theorem Zgp (T:Tb) (n:Nat) (o:Oper) (S:St):Z8V T n o (evO S.t) S.h=eff1 T n o S:=by
 unfold Z8V eff1
 simp only [ZcT,ZcU,Z2u,Z5C,Zgo,ZdC,updO]
 all_goals rfl
def Z4K (segs:List SV) (off n:Nat):Option (List SV):=
 match Z4Z segs off with
 | some l=>Z8U l n
 | none=>none
theorem Z5j (segs:List SV) (off n:Nat):Z4K segs off n=Z1H segs off n:=by
 simp only [Z4K,Z1H,Z4J,Z6a]
 all_goals rfl
def strF (T:Tb) (h:List SB) (src dst:TypeId) (x:SV):Option (SV×List Nat):=
 match T src,T dst with
 | some ti,some td=>match ti.k with
   | .slice e=>match T e with
     | some te=>bif isU8 te.k&&Z4h td.k then (match x with
       | .nils=>some (.s [],[])
       | .sl k ver off len _ _=>(match len with
         | 0=>some (.s [],[])
         | _+1=>(match Z2q .fresh h k with
           | .mem _ segs ver' _=>bif Nat.beq ver ver'&&!Nat.beq ver 0 then (match Z4K segs off len with
             | some l=>(match Z1Y l with
               | some ns=>some (.s (Z4q ns),[k])
               | none=>none)
             | none=>none) else none
           | _=>none))
       | _=>none) else none
     | none=>none
   | _=>none
 | _,_=>none
theorem Zhn (T:Tb) (h:List SB) (src dst:TypeId) (x:SV):strF T h src dst x=strR T h src dst x:=by
 unfold strF strR
 simp only [Z2u,Z5j]
 all_goals rfl
def srcF (T:Tb) (h:List SB) (tx:TypeId) (sz:Nat) (x:SV):Option (Nat×List SV×List Nat):=
 match T tx with
 | some ti=>match ti.k,x with
   | .slice _,.nils=>some (0,[],[])
   | .slice _,.sl j vj off n _ _=>(match n with
     | 0=>some (0,[],[])
     | n+1=>(match Z2q .fresh h j with
       | .mem _ segs vj' _=>bif Nat.beq vj vj'&&!Nat.beq vj 0 then (match Z4K segs off ((n+1) * sz) with
         | some l=>some (n+1,l,[j])
         | none=>none) else none
       | _=>none))
   | .str,.s l=>bif Nat.beq sz 1 then some (l.length,[.ints .u8 l.length (Z5y l)],[]) else none
   | _,_=>none
 | none=>none
theorem Zho (T:Tb) (h:List SB) (tx:TypeId) (sz:Nat) (x:SV):srcF T h tx sz x=srcO T h tx sz x:=by
 unfold srcF srcO
 simp only [Z2u,Z5j]
 all_goals rfl
def Z7f (a b:List SV):List SV:=Z4Y a b id
theorem ZbH (a b:List SV):Z7f a b=a++b:=by simp only [Z7f,Z4I,id]
def appF (T:Tb) (p:Nat) (o:Oper) (ev:Operand→SV) (h:List SB) (s x:Operand) (ty tx:TypeId):Option Eff:=
 match T ty with
 | some ti=>match ti.k with
   | .slice e=>match T e with
     | some te=>match te.size with
       | g+1=>match srcF T h tx (g+1) (ev x) with
         | some (n,news,rb)=>match ev s with
           | .nils=>(match n with
             | 0=>some ⟨o.dst,.nils,Ze o [],rb,[]⟩
             | n+1=>bif isFr (Z2q (.gone 0) h p)&&Nat.ble (0+(n+1)) maxLen&&Nat.ble ((0+(n+1)) * te.bytes) 140737488355328 then some (appE o p 0 (n+1) g e (Z7f [] (Z2p news)) ([]++rb)) else none)
           | .sl k ver off len (some c) dc=>(match n with
             | 0=>bif Nat.ble len c then some ⟨o.dst,.sl k ver off len (some c) dc,Ze o [],rb,[]⟩ else none
             | n+1=>bif Nat.ble (len+(n+1)) c then none else
               (match (match len with
                | 0=>some (([]:List SV),([]:List Nat))
                | len+1=>(match Z2q .fresh h k with
                  | .mem _ segs ver' _=>bif Nat.beq ver ver'&&!Nat.beq ver 0 then (match Z4K segs off ((len+1) * (g+1)) with
                    | some l=>some (l,[k])
                    | none=>none) else none
                  | _=>none)) with
               | some (olds,rb1)=>bif isFr (Z2q (.gone 0) h p)&&Nat.ble (len+(n+1)) maxLen&&Nat.ble ((len+(n+1)) * te.bytes) 140737488355328 then some (appE o p len (n+1) g e (Z7f olds (Z2p news)) (rb1++rb)) else none
               | none=>none))
           | .sl k ver 0 len none 0=>(match Z2q .fresh h k with
             | .mem e' segs ver' (g'+1)=>bif Nat.beq e' e&&Nat.beq ver ver'&&Nat.beq g' g then
              Z8G o k ver len g e te.bytes (wdLF segs) rb (Z8U segs (len * (g+1))) news n else none
             | _=>none)
           | _=>none
         | none=>none
       | 0=>none
     | none=>none
   | _=>none
 | none=>none
theorem Zhp (T:Tb) (p:Nat) (o:Oper) (S:St) (s x:Operand) (ty tx:TypeId):appF T p o (evO S.t) S.h s x ty tx=appR T p o S s x ty tx:=by
 unfold appF appR
 simp only [Z2u,Z5j,Zho,Z5C,ZbH,Z6a]
 all_goals rfl
def Z6b (T:Tb) (n:Nat) (o:Oper) (ev:Operand→SV) (h:List SB):Option (Eff×Nat):=
 match o.op with
 | .call ⟨.builtin .append,args,ats⟩=>(match args.toList,ats.toList with
   | [s,x],[ty,tx]=>(match appF T n o ev h s x ty tx with
     | some e=>fVF e.v fun v=>some ({ e with v:=v },n)
     | none=>none)
   | _,_=>none)
 | .makeMap ty r=>(match r with
   | none=>newF h o (.mp [] 1) (.map n) n
   | some _=>none)
 | .lookup ty x k ok=>(match Z3T T h ty (ev x) (ev k) ok with
   | some (v,rb)=>valF o v rb n
   | none=>none)
 | .mapUpdate ty x k v=>(match T ty,ev x,ev k with
   | some ti,.map j,.s l=>(match ti.k with
     | .map kt et=>(match T kt,Z2q .fresh h j with
       | some tk,.mp kv ver=>bif Z4h tk.k&&live (ev v) then (match putM l (ev v) kv with
         | some kv'=>some (⟨o.dst,.dead,Ze o [],[j],[(j,.mp kv' ver)]⟩,n)
         | none=>none) else none
       | _,_=>none)
     | _=>none)
   | _,_,_=>none)
 | .convert src dst x=>(match strF T h src dst (ev x) with
   | some (v,rb)=>valF o v rb n
   | none=>Z8V T n o ev h)
 | _=>Z8V T n o ev h
theorem ZbI (T:Tb) (n:Nat) (o:Oper) (S:St):Z6b T n o (evO S.t) S.h=eff2 T n o S:=by
 unfold Z6b eff2
 simp only [Z2u,Zhp,ZcU,ZcT,Zhn,Zgp,Z5B,Z4g]
 all_goals rfl
end
end
section
universe u
noncomputable section
section
variable {α:Sort u}
def fVi (k:IntKind) (n:Int) (K:SV→α):α:=fI n fun n=>K (.i k n)
def fVb (b:Bool) (K:SV→α):α:=match b with
 | true=>K (.b true)
 | false=>K (.b false)
def fVst (l:List UInt8) (K:SV→α):α:=fBsF l fun l=>K (.s l)
def fVp (k ver off:Nat) (ix:List Ix) (K:SV→α):α:=fN k fun k=>fN ver fun ver=>fN off fun off=>K (.ptr k ver off ix)
def fVl (k ver off len:Nat) (cap:Option Nat) (dc:Nat) (K:SV→α):α:=fN k fun k=>fN ver fun ver=>fN off fun off=>fN len fun len=>fO cap fun cap=>fN dc fun dc=>K (.sl k ver off len cap dc)
def fVa (cs:List SV) (K:SV→α):α:=fSF cs fun cs=>K (.agg cs)
def fVt (cs:List SV) (K:SV→α):α:=fSF cs fun cs=>K (.tup cs)
def fVg (v:SV) (K:SV→α):α:=match v with
 | .i k n=>fVi k n K
 | .b x=>fVb x K
 | .s l=>fVst l K
 | .ptr k ver off ix=>fVp k ver off ix K
 | .sl k ver off len cap dc=>fVl k ver off len cap dc K
 | .agg cs=>fVa cs K
 | .tup cs=>fVt cs K
 | v=>fVF v K
theorem fVg_eq (v:SV) (K:SV→α):fVg v K=K v:=by
 cases v <;> simp only [fVg,Z5B,fVi,Zdu,fVst,Z9v,fVp,Z1B,fVl,ZaB,fVa,fVt,Z8T]
 rename_i x;cases x <;> rfl
end
def hv2 (o:Oper) (rb:List Nat) (n:Nat) (x:SV):Option (Eff×Nat):=some (⟨o.dst,x,Ze o [],rb,[]⟩,n)
def hv (o:Oper) (x:SV) (rb:List Nat) (n:Nat):Option (Eff×Nat):=bif notG x then fVg x (hv2 o rb n) else none
theorem ZdD (o:Oper) (x:SV) (rb:List Nat) (n:Nat):hv o x rb n=valF o x rb n:=by
 unfold hv valF
 simp only [fVg_eq,Z5B]
 all_goals rfl
def hr (o:Oper) (n:Nat) (r:R):Option (Eff×Nat):=match r with
 | .v x=>hv o x [] n
 | @R.ob _ d x=>match d with
   | .isTrue _=>hv o x [] n
   | .isFalse _=>none
 | .no=>none
theorem hr_eq (o:Oper) (n:Nat) (r:R):hr o n r=(match r.get with | some x=>valF o x [] n | none=>none):=by
 cases r with
 | v x=>simp only [hr,R.get,ZdD]
 | ob p x=>
   rename_i d
   cases d <;> simp only [hr,R.get,ZdD]
 | no=>rfl
def hld (T:Tb) (h:List SB) (o:Oper) (n:Nat) (t:TypeId) (p:SV):Option (Eff×Nat):=match ZaH T h t p with
 | some x=>hv o x (match p with | .ptr k _ _ _=>[k] | _=>[]) n
 | none=>none
def hst (T:Tb) (h:List SB) (o:Oper) (n:Nat) (ty:TypeId) (x v:SV):Option (Eff×Nat):=match T ty,x with
 | some ti,.ptr k ver off ix=>match Z2q .fresh h k with
   | .mem ty' segs ver' gr=>bif Zy v&&Nat.beq (wdLF (Zk v)) ti.size&&(Nat.beq gr 0||Nat.beq ver ver') then
    (match (match ix with | []=>Z7d segs off (Zk v) | _::_=>none) with
    | some segs'=>some (⟨o.dst,.dead,Ze o [],[k],[(k,.mem ty' segs' ver' gr)]⟩,n)
    | none=>none) else none
   | _=>none
 | _,_=>none
def hal (T:Tb) (h:List SB) (o:Oper) (n:Nat) (ty:TypeId):Option (Eff×Nat):=match T ty with
 | some ti=>newF h o (.mem ty ti.zero 1 0) (.ptr n 1 0 []) n
 | none=>none
def hbx (h:List SB) (o:Oper) (n:Nat) (ty:TypeId) (x:SV):Option (Eff×Nat):=bif Zy x then newF h o (.mem ty (Zk x) 1 0) (.ptr n 1 0 []) n else none
def hpk (o:Oper) (n:Nat) (c a b:SV):Option (Eff×Nat):=match c with
 | .b x=>hv o (bif x then a else b) [] n
 | _=>none
def Z7g (T:Tb) (n:Nat) (o:Oper) (ev:Operand→SV) (h:List SB):Option (Eff×Nat):=
 match o.op with
 | .move x=>hv o (ev x) [] n
 | .assign x=>hv o (ev x) [] n
 | .load t p=>hld T h o n t (ev p)
 | .store ty x v=>hst T h o n ty (ev x) (ev v)
 | .fieldAddr t p f=>hr o n (Z5p T t (ev p) f)
 | .binOp op t x y _=>hr o n (binR T op t (Z1F x||Z1F y) (ev x) (ev y))
 | .indexAddr t x ix=>hr o n (Z4x T t (ev x) ix (ev ix))
 | .extract x k=>hr o n (extR (ev x) k)
 | .nilCheck x=>hr o n (Z8g (ev x))
 | .alloc ty=>hal T h o n ty
 | .box ty x=>hbx h o n ty (ev x)
 | .pick c a b=>hpk o n (ev c) (ev a) (ev b)
 | _=>Z6b T n o ev h
theorem ZbJ (T:Tb) (n:Nat) (o:Oper) (ev:Operand→SV) (h:List SB):Z7g T n o ev h=Z6b T n o ev h:=by
 unfold Z7g
 have lb:∀ op:Op,Z2H ev op=match op with
  | .load _ x=>(match ev x with | .ptr k _ _ _=>[k] | _=>[])
  | .slice _ x _ _ none=>(match ev x with | .sl k _ _ _ none _=>[k] | _=>[])
  | _=>[]:=fun op=>by cases op <;> rfl
 cases hop:o.op <;> simp only [Z6b,Z8V,hop,ZdD,hr_eq,ZaI,ZF,R.get,lb,hld,hst,hal,hbx,hpk]
 all_goals try rfl
end
end
def ZdE:Value→Value→Bool
 | .pointer none,.pointer none=>true
 | .map none,.map none=>true
 | _,_=>false
theorem Zgq {x y:Value} (h:ZdE x y=true):x=y:=by
 unfold ZdE at h
 split at h <;> simp_all
mutual
def sveq:SV→SV→Bool
 | .i k n,.i k' n'=>decide (k=k')&&decide (n=n')
 | .b x,.b y=>x == y
 | .s l,.s l'=>eqBy l l'
 | .nils,.nils=>true
 | .ptr k v o [],.ptr k' v' o' []=>Nat.beq k k'&&Nat.beq v v'&&Nat.beq o o'
 | .sl k v o l c d,.sl k' v' o' l' c' d'=>Nat.beq k k'&&Nat.beq v v'&&Nat.beq o o'&&Nat.beq l l'&&decide (c=c')&&Nat.beq d d'
 | .fn f cs,.fn f' cs'=>Nat.beq f f'&&svL cs cs'
 | .iface t x,.iface t' x'=>Nat.beq t t'&&sveq x x'
 | .bm t x,.bm t' x'=>Nat.beq t t'&&sveq x x'
 | .map k,.map k'=>Nat.beq k k'
 | .agg cs,.agg cs'=>svL cs cs'
 | .tup cs,.tup cs'=>svL cs cs'
 | .dead,.dead=>true
 | .raw v,.raw w=>ZdE v w
 | _,_=>false
def svL:List SV→List SV→Bool
 | [],[]=>true
 | x::r,y::s=>sveq x y&&svL r s
 | _,_=>false
end
mutual
theorem sveq_ok:∀ (x y:SV),sveq x y=true→x=y:=by
 intro x y h
 cases x <;> cases y <;> try (simp [sveq] at h;done)
 case i.i=>simp [sveq] at h;obtain ⟨rfl,rfl⟩:=h;rfl
 case b.b=>simp [sveq] at h;subst h;rfl
 case s.s=>rw [sveq,eqBy_iff] at h;subst h;rfl
 case raw.raw=>rw [sveq] at h;rw [Zgq h]
 case nils.nils=>rfl
 case dead.dead=>rfl
 case ptr.ptr ix _ _ _ ix'=>
  cases ix <;> cases ix' <;> simp [sveq] at h
  obtain ⟨⟨rfl,rfl⟩,rfl⟩:=h;rfl
 case sl.sl=>simp [sveq] at h;obtain ⟨⟨⟨⟨⟨rfl,rfl⟩,rfl⟩,rfl⟩,rfl⟩,rfl⟩:=h;rfl
 case fn.fn f cs f' cs'=>
  rw [sveq,Bool.and_eq_true] at h
  have h1:=Nat.eq_of_beq_eq_true h.1
  have h2:=svL_ok cs cs' h.2
  subst h1;subst h2;rfl
 case iface.iface t x t' x'=>
  rw [sveq,Bool.and_eq_true] at h
  have h1:=Nat.eq_of_beq_eq_true h.1
  have h2:=sveq_ok x x' h.2
  subst h1;subst h2;rfl
 case bm.bm t x t' x'=>
  rw [sveq,Bool.and_eq_true] at h
  have h1:=Nat.eq_of_beq_eq_true h.1
  have h2:=sveq_ok x x' h.2
  subst h1;subst h2;rfl
 case map.map=>rw [sveq] at h;rw [Nat.eq_of_beq_eq_true h]
 case agg.agg cs cs'=>rw [sveq] at h;rw [svL_ok cs cs' h]
 case tup.tup cs cs'=>rw [sveq] at h;rw [svL_ok cs cs' h]
theorem svL_ok:∀ (x y:List SV),svL x y=true→x=y:=by
 intro x y h
 cases x <;> cases y <;> try (simp [svL] at h;done)
 ·rfl
 ·rename_i a r b s
  rw [svL,Bool.and_eq_true] at h
  rw [sveq_ok a b h.1,svL_ok r s h.2]
end
def kvL:List (SV×SV)→List (SV×SV)→Bool
 | [],[]=>true
 | (a,b)::r,(c,d)::s=>sveq a c&&sveq b d&&kvL r s
 | _,_=>false
theorem ZeB:∀ (x y:List (SV×SV)),kvL x y=true→x=y
 | [],[],_=>rfl
 | [],_::_,h=>by simp [kvL] at h
 | _::_,[],h=>by simp [kvL] at h
 | (a,b)::r,(c,d)::s,h=>by
   simp only [kvL,Bool.and_eq_true] at h
   rw [sveq_ok _ _ h.1.1,sveq_ok _ _ h.1.2,ZeB r s h.2]
def sbeq:SB→SB→Bool
 | .mem t l v g,.mem t' l' v' g'=>Nat.beq t t'&&svL l l'&&Nat.beq v v'&&Nat.beq g g'
 | .mp kv v,.mp kv' v'=>kvL kv kv'&&Nat.beq v v'
 | .gone v,.gone v'=>Nat.beq v v'
 | .fresh,.fresh=>true
 | _,_=>false
theorem Zhq {x y:SB} (h:sbeq x y=true):x=y:=by
 cases x <;> cases y <;> try (simp [sbeq] at h;done)
 ·simp only [sbeq,Bool.and_eq_true] at h
  rw [Nat.eq_of_beq_eq_true h.1.1.1,svL_ok _ _ h.1.1.2,Nat.eq_of_beq_eq_true h.1.2,Nat.eq_of_beq_eq_true h.2]
 ·simp only [sbeq,Bool.and_eq_true] at h
  rw [ZeB _ _ h.1,Nat.eq_of_beq_eq_true h.2]
 ·rw [Nat.eq_of_beq_eq_true h]
 ·rfl
def sbL:List SB→List SB→Bool
 | [],[]=>true
 | x::r,y::s=>sbeq x y&&sbL r s
 | _,_=>false
theorem Z8W:∀ (x y:List SB),sbL x y=true→x=y
 | [],[],_=>rfl
 | [],_::_,h=>by simp [sbL] at h
 | _::_,[],h=>by simp [sbL] at h
 | a::r,c::s,h=>by
   simp only [sbL,Bool.and_eq_true] at h
   rw [Zhq h.1,Z8W r s h.2]
structure Memo:Type 1 where
 f:FuncId
 args:List SV
 H:List SB
 r:SV
 H':List SB
def Z2W (P:Program) (m:Memo):Prop:=Ctr P m.f m.args m.H (fun r' h'=>r'=m.r∧h'=m.H')
def Memo.runs (m:Memo) (call:FRun):Bool:=match call m.f m.args m.H with
 | some (r,h)=>sveq r m.r&&sbL h m.H'
 | none=>false
theorem ZbK {m:Memo} {call:FRun} (h:m.runs call=true):call m.f m.args m.H=some (m.r,m.H'):=by
 unfold Memo.runs at h
 split at h
 ·rename_i r hh he
  rw [Bool.and_eq_true] at h
  rw [he,sveq_ok _ _ h.1,Z8W _ _ h.2]
 ·cases h
def isE:List SB→Bool
 | []=>true
 | _=>false
theorem ZeC {l:List SB} (h:isE l=true):l=[]:=by cases l <;> first | rfl | cases h
def Z50:List Memo→FuncId→List SV→List SB→Option (SV×List SB)
 | [],_,_,_=>none
 | ⟨f',a',h',r,hr⟩::l,f,a,h=>bif Nat.beq f' f&&svL a' a then (bif sbL h' h then some (r,hr) else bif isE h'&&(isE hr&&nmL a') then some (r,h) else Z50 l f a h) else Z50 l f a h
theorem ZbL {P:Program}:∀ {l:List Memo} {f:FuncId} {a:List SV} {h:List SB} {r:SV} {hr:List SB},(∀ m ∈ l,Z2W P m)→Z50 l f a h=some (r,hr)→Ctr P f a h (fun r' h'=>r'=r∧h'=hr)
 | [],_,_,_,_,_,_,h=>by simp [Z50] at h
 | ⟨f',a',h',r',hr'⟩::l,f,a,hh,r,hr,hm,h=>by
   have next:Z50 l f a hh=some (r,hr)→Ctr P f a hh (fun r' h'=>r'=r∧h'=hr):=ZbL fun m hm'=>hm m (List.mem_cons_of_mem _ hm')
   have h0:=hm ⟨f',a',h',r',hr'⟩ (List.mem_cons_self ..)
   simp only [Z50] at h
   cases hb:(Nat.beq f' f&&svL a' a) with
   | false=>rw [hb] at h;exact next h
   | true=>
     rw [hb] at h
     simp only [cond_true] at h
     simp only [Bool.and_eq_true] at hb
     have h1:=Nat.eq_of_beq_eq_true hb.1
     have h2:=svL_ok _ _ hb.2
     subst h1;subst h2
     cases h3:sbL h' hh with
     | true=>
       rw [h3] at h
       simp only [cond_true,Option.some.injEq,Prod.mk.injEq] at h
       have h3:=Z8W _ _ h3
       subst h3
       obtain ⟨rfl,rfl⟩:=h
       exact h0
     | false=>
       rw [h3] at h
       simp only [cond_false] at h
       cases h4:(isE h'&&(isE hr'&&nmL a')) with
       | false=>rw [h4] at h;exact next h
       | true=>
         rw [h4] at h
         simp only [cond_true,Option.some.injEq,Prod.mk.injEq] at h
         simp only [Bool.and_eq_true] at h4
         have e1:=ZeC h4.1
         have e2:=ZeC h4.2.1
         subst e1;subst e2
         obtain ⟨rfl,rfl⟩:=h
         exact Z7C Z11 h0 h4.2.2 _
noncomputable def orc (l:List Memo) (call:FRun):FRun:=fun f a h=>match Z50 l f a h with
 | some q=>some q
 | none=>call f a h
theorem orc_ok {P:Program} {l:List Memo} {call:FRun} (hl:∀ m ∈ l,Z2W P m) (hc:Z1O P call):Z1O P (orc l call):=fun f a h r h' he=>by
 unfold orc at he
 cases hf:Z50 l f a h with
 | none=>rw [hf] at he;exact hc f a h r h' he
 | some q=>
   obtain ⟨r0,h0⟩:=q
   rw [hf] at he
   simp only [Option.some.injEq,Prod.mk.injEq] at he
   obtain ⟨rfl,rfl⟩:=he
   exact ZbL hl hf
section
universe u
noncomputable section
def gdF (ops:Array Oper) (g:Nat→SV) (o:Oper):Option (List Nat×Bool):=
 match o.guard with
 | none=>some ([],true)
 | some (j,want)=>match (ops[j]?).bind (·.dst) with
   | some d=>match g d with
     | .b v=>some ([d],v == want)
     | .raw (.tuple _)=>some ([d],false)
     | _=>none
   | none=>none
theorem ZeD (ops:Array Oper) (c:CS) (o:Oper):gdF ops (sl c.tr c.n) o=gdO ops c.st.t o:=by
 unfold gdF gdO
 simp only [sl_eq]
 all_goals rfl
def Z7h (ev:Operand→SV) (c:Call):Option (FuncId×List SV):=
 match c.callee with
 | .value fo=>match ev fo with
   | .fn f caps=>ZaF ev c.args.toList fun ar=>bif ar.all live then some (f,Z7f ar caps) else none
   | .bm f x=>ZaF ev c.args.toList fun ar=>bif ar.all live then some (f,x::Z7f ar []) else none
   | _=>none
 | _=>none
theorem Z8X (t:List SV) (c:Call):Z7h (evO t) c=Z2L t c:=by
 unfold Z7h Z2L
 simp only [ZbA,ZbH]
 all_goals rfl
def ZaJ (n:Nat) (h:List SB) {α:Sort u} (K:List SB→α):α:=ZbC n fun l=>Z4Y h l K
theorem ZbM (n:Nat) (h:List SB) {α:Sort u} (K:List SB→α):ZaJ n h K=K (h++List.replicate n .fresh):=by simp only [ZaJ,Za4,Z4I]
def Z51 (e:Eff) (tr:Tre) (n:Nat) (h:List SB):CS:=match e with
 | ⟨d,v,_,_,wb⟩=>Z7e tr n h d v fun c=>match c with
   | ⟨tr',_,h'⟩=>ZdB wb h' fun h=>⟨tr',n,h⟩
theorem ZbN (e:Eff) (c:CS) (hw:c.wf):(Z51 e c.tr c.n c.h).st=e.put c.st∧(Z51 e c.tr c.n c.h).wf∧(Z51 e c.tr c.n c.h).n=c.n:=by
 obtain ⟨h1,h2,h3⟩:=c.putO_wf hw e.d e.v
 have h4:=c.putO_st hw e.d e.v
 have key:Z51 e c.tr c.n c.h=⟨(c.putO e.d e.v).tr,(c.putO e.d e.v).n,setB (c.putO e.d e.v).h e.wb⟩:=by
  obtain ⟨d,v,rs,rb,wb⟩:=e
  unfold Z51
  simp only [ZbG,ZbB]
  rw [← h2]
 rw [key]
 refine ⟨?_,h1,h2⟩
 have h5:(⟨(List.range (c.putO e.d e.v).n).map (c.putO e.d e.v).tr.get,(c.putO e.d e.v).h⟩:St)=⟨setT c.st.t e.d e.v,c.h⟩:=h4
 have h6:=congrArg St.t h5
 simp only at h6
 show (⟨_,_⟩:St)=⟨_,_⟩
 rw [h6,h3]
 rfl
def ZdF (l:List SB):Nat→Option Nat:=@List.rec SB (fun _=>Nat→Option Nat) (fun _=>none) (fun B _ ih i=>bif isFr B then some i else ih (i+1)) l
theorem ZbO:∀ (l:List SB) (i:Nat),ZdF l i=fst1 l i
 | [],i=>rfl
 | B::r,i=>by
   show (bif isFr B then some i else ZdF r (i+1))=_
   rw [ZbO r,fst1]
def ZbP (lo:Nat) (l:List SB):Nat→Option Nat:=@List.rec SB (fun _=>Nat→Option Nat) (fun _=>none) (fun B _ ih i=>bif isFr B&&Nat.ble lo i then some i else ih (i+1)) l
theorem Za5 (lo:Nat):∀ (l:List SB) (i:Nat),ZbP lo l i=Z8H lo l i
 | [],i=>rfl
 | B::r,i=>by
   show (bif isFr B&&Nat.ble lo i then some i else ZbP lo r (i+1))=_
   rw [Za5 lo r,Z8H]
def ZaK (l:List SB):Nat→Nat:=@List.rec SB (fun _=>Nat→Nat) (fun n=>n) (fun B _ ih n=>bif isFr B then ih (n+1) else ih n) l
theorem Z7V:∀ (l:List SB) (n:Nat),ZaK l n=cntF l n
 | [],n=>rfl
 | B::r,n=>by
   show (bif isFr B then ZaK r (n+1) else ZaK r n)=_
   rw [Z7V r,Z7V r,cntF]
def runF (T:Tb) (p:Nat) (o:Oper) (tr:Tre) (n:Nat) (h:List SB):Option CS:=
 match Z7g T p (ung o) (evF tr n) h with
 | some (e,_)=>some (Z51 e tr n h)
 | none=>none
def ropF (T:Tb) (call:FRun) (ops:Array Oper) (o:Oper) (c:CS):Option CS:=
 match c with
 | ⟨tr,n,h⟩=>
 match gdF ops (sl tr n) o with
 | none=>none
 | some (_,false)=>Z7e tr n h o.dst udf some
 | some (_,true)=>match Z3U o.op with
   | some c=>(match Z7h (evF tr n) c with
     | some (f,args)=>(match call f args h with
       | some (r,h')=>bif notG r then fVF r fun r=>Z7e tr n h' o.dst r some else none
       | none=>none)
     | none=>none)
   | none=>match mkN2 o.op with
     | 0=>runF T 0 o tr n h
     | _+1=>match ZdF h 0 with
       | some p=>fN p fun p=>runF T p o tr n h
       | none=>ZaJ 8 h fun h1=>fN h.length fun p=>runF T p o tr n h1
structure Sim (c c':CS) (x:Option St):Prop where
 st:x=some c'.st
 wf:c'.wf
 n:c'.n=c.n
section
variable {T:Tb} {call:FRun} {ops:Array Oper} {o:Oper}
theorem Z9x {p:Nat} {c c':CS} (hw:c.wf) (h:runF T p o c.tr c.n c.h=some c'):Sim c c' (runE T p o c.st):=by
 unfold runF at h
 rw [ZbJ,Z6L,show Z6b T p (ung o) (evO c.st.t) c.h=Z6b T p (ung o) (evO c.st.t) c.st.h from rfl,ZbI] at h
 unfold runE
 cases he:eff2 T p (ung o) c.st with
 | none=>rw [he] at h;simp at h
 | some q=>
   obtain ⟨e,n'⟩:=q
   rw [he] at h
   simp only [Option.some.injEq] at h
   subst h
   obtain ⟨h1,h2,h3⟩:=ZbN e c hw
   exact ⟨by simp only [Z77,h1],h2,h3⟩
theorem Z8Y {c c':CS} (hw:c.wf) {d:Option Nat} {v:SV} (h:Z7e c.tr c.n c.h d v some=some c'):Sim c c' (some ⟨setT c.st.t d v,c.h⟩):=by
 rw [ZbG] at h
 simp only [Option.some.injEq] at h
 subst h
 obtain ⟨h1,h2,h3⟩:=c.putO_wf hw d v
 exact ⟨by rw [c.putO_st hw],h1,h2⟩
theorem Zhr {c c':CS} (hw:c.wf) (h:ropF T call ops o c=some c'):Sim c c' (rop T call ops o c.st):=by
 obtain ⟨tr,n,hh⟩:=c
 unfold ropF at h
 simp only at h
 have hg:=ZeD ops ⟨tr,n,hh⟩ o
 simp only at hg
 unfold rop
 rw [hg] at h
 cases hgo:gdO ops (CS.st ⟨tr,n,hh⟩).t o with
 | none=>rw [hgo] at h;simp at h
 | some q=>
   obtain ⟨rs,b⟩:=q
   rw [hgo] at h
   cases b with
   | false=>
     simp only [Z4H]
     exact Z8Y (c:=⟨tr,n,hh⟩) hw h
   | true=>
     simp only at h ⊢
     cases hc:Z3U o.op with
     | some cl=>
       rw [hc] at h
       simp only at h ⊢
       have he:=Z6L ⟨tr,n,hh⟩
       simp only at he
       rw [he,Z8X] at h
       cases hca:Z2L (CS.st ⟨tr,n,hh⟩).t cl with
       | none=>rw [hca] at h;simp at h
       | some fa=>
         obtain ⟨f,args⟩:=fa
         rw [hca] at h
         simp only at h ⊢
         have hcl:call f args (CS.st ⟨tr,n,hh⟩).h=call f args hh:=rfl
         rw [hcl]
         cases hr:call f args hh with
         | none=>rw [hr] at h;simp at h
         | some q=>
           obtain ⟨r,h'⟩:=q
           rw [hr] at h
           simp only [Z5B,Z4g,Z4H] at h ⊢
           cases hn:notG r with
           | false=>rw [hn] at h;simp at h
           | true=>
             rw [hn] at h
             simp only [cond_true] at h ⊢
             have:=Z8Y (c:=⟨tr,n,h'⟩) hw h
             exact ⟨this.st,this.wf,this.n⟩
     | none=>
       rw [hc] at h
       simp only at h ⊢
       cases hm:mkN2 o.op with
       | zero=>rw [hm] at h;exact Z9x (c:=⟨tr,n,hh⟩) hw h
       | succ k=>
         rw [hm] at h
         simp only [ZbO] at h ⊢
         have hh':(CS.st ⟨tr,n,hh⟩).h=hh:=rfl
         rw [hh']
         cases hf:fst1 hh 0 with
         | some p=>rw [hf] at h;simp only [Z1B] at h ⊢;exact Z9x (c:=⟨tr,n,hh⟩) hw h
         | none=>
           rw [hf] at h
           simp only [ZbM,Z1B,Z45,Z3A] at h ⊢
           generalize hh++List.replicate 8 .fresh=hz at h ⊢
           have:=Z9x (T:=T) (o:=o) (p:=hh.length) (c:=⟨tr,n,hz⟩) (c':=c') hw h
           exact ⟨this.st,this.wf,this.n⟩
end
def ZaL (T:Tb) (call:FRun) (ops:Array Oper) (l:List Oper):CS→Option CS:=@List.rec Oper (fun _=>CS→Option CS) some (fun o _ ih c=>@Option.rec CS (fun _=>Option CS) none ih (ropF T call ops o c)) l
theorem ZbQ {T:Tb} {call:FRun} {ops:Array Oper}:∀ (l:List Oper) (c c':CS),c.wf→ZaL T call ops l c=some c'→Sim c c' (rreg T call ops l c.st)
 | [],c,c',hw,h=>by
   have:c=c':=by simpa [ZaL] using h
   subst this
   exact ⟨rfl,hw,rfl⟩
 | o::r,c,c',hw,h=>by
   have h':@Option.rec CS (fun _=>Option CS) none (ZaL T call ops r) (ropF T call ops o c)=some c':=h
   cases ho:ropF T call ops o c with
   | none=>rw [ho] at h';simp at h'
   | some c1=>
     rw [ho] at h'
     have s1:=Zhr hw ho
     have s2:=ZbQ r c1 c' s1.wf h'
     refine ⟨?_,s2.wf,by rw [s2.n,s1.n]⟩
     simp only [rreg,s1.st,s2.st]
def Z8Z (call:FRun) (lo:Nat) (o:Oper) (c:Call) (ev:Operand→SV) (h:List SB):Option Eff:=
 match Z7h ev c with
 | none=>none
 | some (f,args)=>
   fN (Z79 60 h (nmsL args 0)) fun mk=>fNs (Z8N mk h 0) fun ks=>
   bif inNL ks args&&Z5A ks h ks then
    renC (idx ks) args fun args0=>Z8M (idx ks) h ks fun H0=>
    match call f args0 H0 with
    | none=>none
    | some (r1,H1)=>match fin true H0 r1 H1 with
      | (r0,H1)=>fNs (Z8I lo h 0 (H1.length - H0.length)) fun ns=>
        bif Z2e (ks++ns)&&Z1q h ns&&(Nat.ble H0.length H1.length&&Nat.ble H1.length (ks++ns).length)&&notG (ren (rho (ks++ns) h.length) r0) then
         fV (ren (rho (ks++ns) h.length) r0) fun r=>zipC (rho (ks++ns) h.length) H1 0 fun wb=>some ⟨o.dst,r,hang r++Ze o [],ks++ns,wb⟩
        else none
   else none
theorem ZeE (call:FRun) (lo:Nat) (o:Oper) (c:Call) (S:St):Z8Z call lo o c (evO S.t) S.h=Z7c call lo o c S:=by
 unfold Z8Z Z7c
 rw [Z8X]
 all_goals rfl
def ZaM (T:Tb) (call:FRun) (lo:Nat) (ops:Array Oper) (o:Oper) (g:Nat→SV) (ev:Operand→SV) (h:List SB):Option Eff:=
 match gdF ops g o with
 | none=>none
 | some (rs,false)=>some ⟨o.dst,udf,rs,[],[]⟩
 | some (rs,true)=>Z8Q rs (match Z3U o.op with
   | some c=>Z8Z call lo (ung o) c ev h
   | none=>match mkN2 o.op with
     | 0=>fstE (Z7g T 0 (ung o) ev h)
     | _+1=>match ZbP lo h 0 with
       | some n=>fN n fun n=>fstE (Z7g T n (ung o) ev h)
       | none=>none)
theorem Zgr (T:Tb) (call:FRun) (lo:Nat) (ops:Array Oper) (o:Oper) (c:CS):ZaM T call lo ops o (sl c.tr c.n) (evF c.tr c.n) c.h=dop1 T call lo ops o c.st:=by
 unfold ZaM dop1
 rw [ZeD,Z6L]
 have h1:∀ n,Z7g T n (ung o) (evO c.st.t) c.h=eff2 T n (ung o) c.st:=fun n=>(ZbJ T n (ung o) (evO c.st.t) c.h).trans (ZbI T n (ung o) c.st)
 have h2:∀ cl,Z8Z call lo (ung o) cl (evO c.st.t) c.h=Z7c call lo (ung o) cl c.st:=fun cl=>ZeE call lo (ung o) cl c.st
 simp only [h1,h2,Za5]
 all_goals rfl
def fEff {α:Sort u} (e:Eff) (K:Eff→α):α:=match e with
 | ⟨d,v,rs,rb,wb⟩=>fO d fun d=>fNs rs fun rs=>fNs rb fun rb=>K ⟨d,v,rs,rb,wb⟩
theorem Zhs {α:Sort u} (e:Eff) (K:Eff→α):fEff e K=K e:=by
 obtain ⟨d,v,rs,rb,wb⟩:=e
 simp only [fEff,ZaB,Zbu]
def Z90 (T:Tb) (call:FRun) (ops:Array Oper) (l:List Oper):Nat→List Eff→CS→Option CS:=@List.rec Oper (fun _=>Nat→List Eff→CS→Option CS)
 (fun _ acc c=>bif chk ops acc.reverse then some c else none)
 (fun o _ ih lo acc c=>match c with
  | ⟨tr,n,h⟩=>match ZaM T call lo ops o (sl tr n) (evF tr n) h with
    | some e=>fEff e fun e=>fN (maxW e.wb lo) fun lo=>ih lo (e::acc) (Z51 e tr n h)
    | none=>none) l
theorem Z6M {T:Tb} {call:FRun} {ops:Array Oper}:∀ (l:List Oper) (lo:Nat) (acc:List Eff) (c c':CS),c.wf→Z90 T call ops l lo acc c=some c'→Sim c c' (Z3V T call ops lo l acc c.st)
 | [],lo,acc,c,c',hw,h=>by
   have h':(bif chk ops acc.reverse then some c else none)=some c':=h
   simp only [Z3V]
   cases hc:chk ops acc.reverse with
   | false=>rw [hc] at h';simp at h'
   | true=>
     rw [hc] at h'
     simp at h';subst h'
     exact ⟨rfl,hw,rfl⟩
 | o::r,lo,acc,c,c',hw,h=>by
   have h':(match ZaM T call lo ops o (sl c.tr c.n) (evF c.tr c.n) c.h with
    | some e=>fEff e fun e=>fN (maxW e.wb lo) fun lo=>Z90 T call ops r lo (e::acc) (Z51 e c.tr c.n c.h)
    | none=>none)=some c':=h
   rw [Zgr] at h'
   simp only [Z3V]
   cases hd:dop1 T call lo ops o c.st with
   | none=>rw [hd] at h';simp at h'
   | some e=>
     rw [hd] at h'
     simp only [Zhs,Z1B,Z77] at h' ⊢
     obtain ⟨h1,h2,h3⟩:=ZbN e c hw
     have s2:=Z6M r _ _ _ c' h2 h'
     rw [h1] at s2
     exact ⟨s2.st,s2.wf,by rw [s2.n,h3]⟩
def Z6c (T:Tb) (call:FRun) (ops:Array Oper) (draw:Bool) (c:CS):Option CS:=
 match draw with
 | false=>ZaL T call ops ops.toList c
 | true=>fN (Z69 ops.toList) fun n=>match c with
   | ⟨tr,k,h⟩=>bif Nat.ble n (ZaK h 0) then Z90 T call ops ops.toList 0 [] ⟨tr,k,h⟩ else ZaJ n h fun h1=>Z90 T call ops ops.toList 0 [] ⟨tr,k,h1⟩
theorem Zcp {T:Tb} {call:FRun} {ops:Array Oper} {draw:Bool} {c c':CS} (hw:c.wf) (h:Z6c T call ops draw c=some c'):Sim c c' (Z4r T call ops draw c.st):=by
 cases draw with
 | false=>exact ZbQ _ c c' hw h
 | true=>
   obtain ⟨tr,k,hh⟩:=c
   simp only [Z6c,Z4r,Z1B,Z7V,ZbM,Z45,Z3A] at h ⊢
   have e:(CS.st ⟨tr,k,hh⟩).h=hh:=rfl
   rw [e]
   cases hb:Nat.ble (Z69 ops.toList) (cntF hh 0) with
   | true=>rw [hb] at h;exact Z6M _ _ _ ⟨tr,k,hh⟩ c' hw h
   | false=>
     rw [hb] at h
     simp only [cond_false] at h ⊢
     have:=Z6M _ _ _ ⟨tr,k,hh++List.replicate (Z69 ops.toList) .fresh⟩ c' hw h
     exact ⟨this.st,this.wf,this.n⟩
def ZaN (f:CS→Option (Exit×CS)) (n:Nat):CS→Option (Exit×CS):=@Nat.rec (fun _=>CS→Option (Exit×CS)) (fun _=>none) (fun _ ih c=>match f c with
 | some (.normal,c')=>ih c'
 | r=>r) n
def ZY (T:Tb) (call:FRun) (lf:Nat):Code→CS→Option (Exit×CS)
 | .seq a b,c=>(match ZY T call lf a c with
   | some (.normal,c')=>ZY T call lf b c'
   | r=>r)
 | .cond o x y,c=>(match evF c.tr c.n o with
   | .b true=>ZY T call lf x c
   | .b false=>ZY T call lf y c
   | _=>none)
 | .block id b,c=>(match ZY T call lf b c with
   | some (.exit j,c')=>bif Nat.beq j id then some (.normal,c') else some (.exit j,c')
   | r=>r)
 | .exit id,c=>some (.exit id,c)
 | .ret,c=>some (.ret,c)
 | .skip,c=>some (.normal,c)
 | .label _,c=>some (.normal,c)
 | .region _ ops draw,c=>(match Z6c T call ops draw c with
   | some c'=>some (.normal,c')
   | none=>none)
 | .loop b,c=>ZaN (ZY T call lf b) lf c
 | _,_=>none
structure Sim2 (c:CS) (e:Exit) (c':CS) (x:Option (Exit×St)):Prop where
 st:x=some (e,c'.st)
 wf:c'.wf
 n:c'.n=c.n
theorem ZbR {f:CS→Option (Exit×CS)} {g:St→Option (Exit×St)} (hf:∀ c e c',c.wf→f c=some (e,c')→Sim2 c e c' (g c.st)):∀ (n:Nat) (c:CS) (e:Exit) (c':CS),c.wf→ZaN f n c=some (e,c')→Sim2 c e c' (iter g n c.st)
 | 0,c,e,c',hw,h=>by simp [ZaN] at h
 | n+1,c,e,c',hw,h=>by
   have h':(match f c with
    | some (.normal,c')=>ZaN f n c'
    | r=>r)=some (e,c'):=h
   simp only [iter]
   cases h1:f c with
   | none=>rw [h1] at h';simp at h'
   | some q=>
     obtain ⟨e1,c1⟩:=q
     rw [h1] at h'
     have s1:=hf c e1 c1 hw h1
     rw [s1.st]
     cases e1 <;> simp only at h' ⊢
     ·have s2:=ZbR hf n c1 e c' s1.wf h'
      exact ⟨s2.st,s2.wf,by rw [s2.n,s1.n]⟩
     all_goals
      simp only [Option.some.injEq,Prod.mk.injEq] at h'
      obtain ⟨rfl,rfl⟩:=h'
      exact ⟨rfl,s1.wf,s1.n⟩
theorem ZeF {T:Tb} {call:FRun} (lf:Nat):∀ (b:Code) (c:CS) (e:Exit) (c':CS),c.wf→ZY T call lf b c=some (e,c')→Sim2 c e c' (Z15 T call lf b c.st):=by
 intro b
 induction b with
 | skip=>intro c e c' hw h;simp [ZY] at h;obtain ⟨rfl,rfl⟩:=h;exact ⟨rfl,hw,rfl⟩
 | label l=>intro c e c' hw h;simp [ZY] at h;obtain ⟨rfl,rfl⟩:=h;exact ⟨rfl,hw,rfl⟩
 | exit id=>intro c e c' hw h;simp [ZY] at h;obtain ⟨rfl,rfl⟩:=h;exact ⟨rfl,hw,rfl⟩
 | ret=>intro c e c' hw h;simp [ZY] at h;obtain ⟨rfl,rfl⟩:=h;exact ⟨rfl,hw,rfl⟩
 | seq x y ihx ihy=>
   intro c e c' hw h
   simp only [ZY] at h
   simp only [Z15]
   cases h1:ZY T call lf x c with
   | none=>rw [h1] at h;simp at h
   | some q=>
     obtain ⟨e1,c1⟩:=q
     rw [h1] at h
     have s1:=ihx c e1 c1 hw h1
     rw [s1.st]
     cases e1 <;> simp only at h ⊢
     ·have s2:=ihy c1 e c' s1.wf h
      exact ⟨s2.st,s2.wf,by rw [s2.n,s1.n]⟩
     all_goals
      simp only [Option.some.injEq,Prod.mk.injEq] at h
      obtain ⟨rfl,rfl⟩:=h
      exact ⟨rfl,s1.wf,s1.n⟩
 | cond o x y ihx ihy=>
   intro c e c' hw h
   simp only [ZY,Z6L] at h
   simp only [Z15]
   cases he:evO c.st.t o <;> rw [he] at h <;> try (simp at h;done)
   rename_i v
   cases v with
   | true=>exact ihx c e c' hw h
   | false=>exact ihy c e c' hw h
 | block id b ih=>
   intro c e c' hw h
   simp only [ZY] at h
   simp only [Z15]
   cases h1:ZY T call lf b c with
   | none=>rw [h1] at h;simp at h
   | some q=>
     obtain ⟨e1,c1⟩:=q
     rw [h1] at h
     have s1:=ih c e1 c1 hw h1
     rw [s1.st]
     cases e1 <;> simp only at h ⊢
     case exit j=>
      cases hb:Nat.beq j id with
      | true=>rw [hb] at h;simp at h;obtain ⟨rfl,rfl⟩:=h;exact ⟨rfl,s1.wf,s1.n⟩
      | false=>rw [hb] at h;simp at h;obtain ⟨rfl,rfl⟩:=h;exact ⟨rfl,s1.wf,s1.n⟩
     all_goals
      simp only [Option.some.injEq,Prod.mk.injEq] at h
      obtain ⟨rfl,rfl⟩:=h
      exact ⟨rfl,s1.wf,s1.n⟩
 | region id ops draw=>
   intro c e c' hw h
   simp only [ZY] at h
   simp only [Z15]
   cases h1:Z6c T call ops draw c with
   | none=>rw [h1] at h;simp at h
   | some c1=>
     rw [h1] at h
     simp at h;obtain ⟨rfl,rfl⟩:=h
     have s1:=Zcp hw h1
     rw [s1.st]
     exact ⟨rfl,s1.wf,s1.n⟩
 | loop b ih=>intro c e c' hw h;exact ZbR ih lf c e c' hw h
 | rangeFunc f ps x d ih ih2=>intro c e c' hw h;simp [ZY] at h
 | scope b ih=>intro c e c' hw h;simp [ZY] at h
 | goto l=>intro c e c' hw h;simp [ZY] at h
 | refuse why=>intro c e c' hw h;simp [ZY] at h
def Z91 {α:Sort u} (args:List SV):Nat→Tre→(Tre→α)→α:=@List.rec SV (fun _=>Nat→Tre→(Tre→α)→α) (fun _ t K=>K t) (fun x _ ih i t K=>fVF x fun x=>t.set i x fun t=>ih (i+1) t K) args
def Z46 (args:List SV):Nat→Tre→Tre:=@List.rec SV (fun _=>Nat→Tre→Tre) (fun _ t=>t) (fun x _ ih i t=>ih (i+1) (t.upd i x)) args
theorem Za6 {α:Sort u}:∀ (args:List SV) (i:Nat) (t:Tre) (K:Tre→α),Z91 args i t K=K (Z46 args i t)
 | [],i,t,K=>rfl
 | x::r,i,t,K=>by
   show fVF x (fun x=>t.set i x fun t=>Z91 r (i+1) t K)=_
   rw [Z5B,Z4i,Za6 r];rfl
theorem Za7:∀ (args:List SV) (i:Nat) (t:Tre) (N:Nat),(∀ k,k < N→t.in k)→i+args.length≤N→(∀ k,k < N→(Z46 args i t).in k)∧∀ k,k < N→(Z46 args i t).get k=if i≤k∧k < i+args.length then args.getD (k - i) .dead else t.get k
 | [],i,t,N,hw,hl=>⟨hw,fun k hk=>by simp [Z46];omega⟩
 | x::r,i,t,N,hw,hl=>by
   simp only [List.length_cons] at hl
   have hw':∀ k,k < N→(t.upd i x).in k:=fun k hk=>(Z4j _ _ _ _).2 (hw k hk)
   obtain ⟨h1,h2⟩:=Za7 r (i+1) (t.upd i x) N hw' (by omega)
   refine ⟨h1,fun k hk=>?_⟩
   show (Z46 r (i+1) (t.upd i x)).get k=_
   rw [h2 k hk,Z3W _ _ _ _ (hw i (by omega))]
   simp only [List.length_cons]
   by_cases hki:k=i
   ·subst hki
    rw [if_neg (by omega),if_pos rfl,if_pos (by omega)]
    simp
   ·by_cases hlt:i+1≤k∧k < i+1+r.length
    ·rw [if_pos hlt,if_pos (by omega),show k - i=(k - (i+1))+1 by omega,List.getD_cons_succ]
    ·rw [if_neg hlt,if_neg hki,if_neg (by omega)]
def rresF (T:Tb) (fn:Func) (H:List SB) (c:CS):Option (SV×List SB):=
 match c with
 | ⟨tr,n,h⟩=>match resLF T (evF tr n) h fn.results.toList with
   | some [x]=>some (fin false H x h)
   | some xs=>some (fin false H (.tup xs) h)
   | none=>none
where
 resRF (T:Tb) (ev:Operand→SV) (h:List SB):ResultVar→Option SV
  | .tmp n=>(match ev (.tmp n) with
    | .dead=>none
    | .grd _ _=>none
    | x=>some x)
  | .cell p ty=>(match Z26 T h ty (ev (.tmp p)) with
    | .v x=>some x
    | _=>none)
 resLF (T:Tb) (ev:Operand→SV) (h:List SB):List ResultVar→Option (List SV)
  | []=>some []
  | r::rs=>match resRF T ev h r with
    | some x=>match resLF T ev h rs with
      | some xs=>some (x::xs)
      | none=>none
    | none=>none
theorem Zgs (T:Tb) (S:St) (r:ResultVar):rresF.resRF T (evO S.t) S.h r=resR T S r:=by
 cases r <;> simp only [rresF.resRF,resR,evO] <;> rfl
theorem ZbS (T:Tb) (S:St):∀ l:List ResultVar,rresF.resLF T (evO S.t) S.h l=resL T S l
 | []=>rfl
 | r::rs=>by
   simp only [rresF.resLF,resL,Zgs,ZbS T S rs]
   rfl
theorem Zgt (T:Tb) (fn:Func) (H:List SB) (c:CS):rresF T fn H c=rres T fn H c.st:=by
 obtain ⟨tr,n,h⟩:=c
 unfold rresF rres
 have he:=Z6L ⟨tr,n,h⟩
 simp only at he
 have h2:rresF.resLF T (evO (CS.st ⟨tr,n,h⟩).t) h fn.results.toList=resL T (CS.st ⟨tr,n,h⟩) fn.results.toList:=ZbS T (CS.st ⟨tr,n,h⟩) _
 simp only [he,h2]
 all_goals rfl
def ZeG (T:Tb) (FT:FuncId→Option Func) (lf:Nat) (ih:FRun):FRun:=fun f args H=>match FT f with
 | none=>none
 | some fn=>match fn.body with
   | none=>none
   | some b=>bif Nat.ble args.length fn.ntmps&&args.all notG then
    fN fn.ntmps fun n=>fN (Nat.log2 (n+1)+1) fun d=>ZaG d fun t=>Z91 args 0 t fun t=>match ZY T ih lf b ⟨t,n,H⟩ with
     | some (.normal,c)=>rresF T fn H c
     | some (.ret,c)=>rresF T fn H c
     | _=>none
     else none
theorem ZeH {P:Program} {T:Tb} (hT:TabOk P T) (hm:P.follows .mixedOrders=true) {FT:FuncId→Option Func} (hF:FtOk P FT) (lf:Nat) {call:FRun} (hc0:Z1O P call):Z1O P (ZeG T FT lf call):=fun f args H r H' h=>by
 have h':(match FT f with
  | none=>none
  | some fn=>match fn.body with
    | none=>none
    | some b=>bif Nat.ble args.length fn.ntmps&&args.all notG then
     fN fn.ntmps fun k=>fN (Nat.log2 (k+1)+1) fun d=>ZaG d fun t=>Z91 args 0 t fun t=>match ZY T call lf b ⟨t,k,H⟩ with
      | some (.normal,c)=>rresF T fn H c
      | some (.ret,c)=>rresF T fn H c
      | _=>none
      else none)=some (r,H'):=h
 clear h
 cases hft:FT f with
 | none=>rw [hft] at h';simp at h'
 | some fn=>
   rw [hft] at h'
   obtain ⟨h1,h2⟩:=hF f fn hft
   simp only at h'
   cases hb:fn.body with
   | none=>rw [hb] at h';simp at h'
   | some c=>
     rw [hb] at h'
     simp only at h'
     cases hc:(Nat.ble args.length fn.ntmps&&args.all notG) with
     | false=>rw [hc] at h';simp at h'
     | true=>
       rw [hc] at h'
       simp only [cond_true,Z1B,ZbE,Za6,Zgt] at h'
       rw [Bool.and_eq_true] at hc
       have hle:=Nat.le_of_ble_eq_true hc.1
       have hfull:∀ k,k < fn.ntmps→(full (Nat.log2 (fn.ntmps+1)+1)).in k:=fun k hk=>ZcS _ _ (by
        have:=Nat.lt_log2_self (n:=fn.ntmps+1)
        omega)
       obtain ⟨w1,w2⟩:=Za7 args 0 (full (Nat.log2 (fn.ntmps+1)+1)) fn.ntmps hfull (by omega)
       have hst:(CS.st ⟨Z46 args 0 (full (Nat.log2 (fn.ntmps+1)+1)),fn.ntmps,H⟩)=⟨args++List.replicate (fn.ntmps - args.length) .dead,H⟩:=by
        simp only [CS.st]
        congr 1
        apply List.ext_getElem?
        intro k
        rw [List.getElem?_map]
        by_cases hk:k < fn.ntmps
        ·simp only [List.getElem?_range hk,Option.map_some]
         rw [w2 k hk,ZbF]
         by_cases hka:k < args.length
         ·rw [if_pos ⟨Nat.zero_le _,by omega⟩,List.getElem?_append_left hka,Nat.sub_zero,List.getD_eq_getElem?_getD,List.getElem?_eq_getElem hka]
          rfl
         ·rw [if_neg (by omega),List.getElem?_append_right (by omega),List.getElem?_replicate,if_pos (by omega)]
        ·rw [List.getElem?_eq_none (by simpa using hk),List.getElem?_eq_none (by simp;omega)]
         rfl
       have hN:NG (args++List.replicate (fn.ntmps - args.length) .dead):=by
        intro x hx
        rcases List.mem_append.1 hx with hx | hx
        ·exact List.all_eq_true.1 hc.2 x hx
        ·rw [List.eq_of_mem_replicate hx];rfl
       cases hr:ZY T call lf c ⟨Z46 args 0 (full (Nat.log2 (fn.ntmps+1)+1)),fn.ntmps,H⟩ with
       | none=>rw [hr] at h';simp at h'
       | some q=>
         obtain ⟨e,S⟩:=q
         rw [hr] at h'
         have s1:=ZeF lf c ⟨Z46 args 0 (full (Nat.log2 (fn.ntmps+1)+1)),fn.ntmps,H⟩ e S w1 hr
         have hst1:=s1.st
         rw [hst] at hst1
         have hru:=(Zgm hT hm hc0 lf c _ e S.st hN hst1).1
         have key:(e=.normal∨e=.ret)∧rres T fn H S.st=some (r,H'):=by
          cases e <;> simp at h'
          ·exact ⟨.inl rfl,h'⟩
          ·exact ⟨.inr rfl,h'⟩
         obtain ⟨he,hres⟩:=key
         exact Zhm hT h1 hb h2 hc.1 he hru hres
def ZdG (T:Tb) (FT:FuncId→Option Func) (lf:Nat) (ms:List Memo) (k:Nat):FRun:=@Nat.rec (fun _=>FRun) (fun _ _ _=>none) (fun _ ih=>orc ms (ZeG T FT lf ih)) k
theorem ZbT {P:Program} {T:Tb} (hT:TabOk P T) (hm:P.follows .mixedOrders=true) {FT:FuncId→Option Func} (hF:FtOk P FT) (lf:Nat) {ms:List Memo} (hms:∀ m ∈ ms,Z2W P m):∀ n,Z1O P (ZdG T FT lf ms n)
 | 0=>fun f args H r H' h=>by simp [ZdG] at h
 | n+1=>orc_ok hms (ZeH hT hm hF lf (ZbT hT hm hF lf hms n))
def Tr.getF (tr:Tr):Tb:=@Tr.rec (fun _=>Nat→Option TI) (fun _=>none) (fun k v _ _ il ir t=>bif Nat.beq t k then some v else bif Nat.blt t k then il t else ir t) tr
theorem Z6d:∀ tr:Tr,tr.getF=tr.get
 | .leaf=>rfl
 | .node k v l r=>by
   funext t
   show (bif Nat.beq t k then some v else bif Nat.blt t k then l.getF t else r.getF t)=_
   rw [Z6d l,Z6d r];rfl
def FTr.getF (tr:FTr):FuncId→Option Func:=@FTr.rec (fun _=>Nat→Option Func) (fun _=>none) (fun k v _ _ il ir t=>bif Nat.beq t k then some v else bif Nat.blt t k then il t else ir t) tr
theorem Z5k:∀ tr:FTr,tr.getF=tr.get
 | .leaf=>rfl
 | .node k v l r=>by
   funext t
   show (bif Nat.beq t k then some v else bif Nat.blt t k then l.getF t else r.getF t)=_
   rw [Z5k l,Z5k r];rfl
def runM (tr:Tr) (ft:FTr) (ms:List Memo) (n:Nat):FRun:=ZdG tr.getF ft.getF 100000 ms n
theorem ZcV {P:Program} {tr:Tr} {ft:FTr} (hT:TabOk P tr.get) (hF:FtOk P ft.get) (hm:P.follows .mixedOrders=true) {ms:List Memo} (hms:∀ m ∈ ms,Z2W P m) (n:Nat):Z1O P (runM tr ft ms n):=by
 unfold runM
 rw [Z6d,Z5k]
 exact ZbT hT hm hF _ hms n
theorem Z3a {P:Program} {tr:Tr} {ft:FTr} (hT:TabOk P tr.get) (hF:FtOk P ft.get) (hm:P.follows .mixedOrders=true) {ms:List Memo} (hms:∀ m ∈ ms,Z2W P m) {n:Nat} {m:Memo} (h:m.runs (runM tr ft ms n)=true):Z2W P m:=
 ZcV hT hF hm hms n _ _ _ _ _ (ZbK h)
end
end
section
section
variable {P:Program} {T:Tb} {ops:Array Oper} {o:Oper}
end
end
section
section
variable {α:Type} {d:α} {n:Nat} {enc:α→List SV} {xs:List α}
def ZaO (enc:α→List SV):Prop:=∀ x m V,OkL m V (enc x)→OkL m [] (enc x)
theorem Zcq {E C m t h a w} (hr:Rep E C m ⟨t,h⟩ a w) {k ver N g:Nat} {ty:TypeId} (hk:h[k]?=some (.mem ty [.arr N α d n enc xs] ver (g+1))) (hn:n=g+1) (hv:ver≠0) (hw:∀ x,wdL (enc x)=n) (hfr:ZaO enc) :
 ∃ m' b c,Ext E m (vers h) E m' (vers (h.set k (.gone ver)))∧Rep E C m' ⟨t,h.set k (.gone ver)⟩ a w∧Lies m' E k ver N n α enc xs d b c∧∀ j,j < N→OkL m' [] (enc (xs.getD j d)):=by
 have hvs:vers (h.set k (.gone ver))=vers h:=ZP (B':=.gone ver) hk rfl
 have hkl:k < h.length:=(List.getElem?_eq_some_iff.1 hk).1
 have hgk:(h.set k (.gone ver))[k]?=some (.gone ver):=by simp [List.getElem?_set,hkl]
 have hge:∀ j,j≠k→(h.set k (.gone ver))[j]?=h[j]?:=fun j hj=>List.getElem?_set_ne (Ne.symm hj)
 have hblk:∀ j b,Zm E (h.set k (.gone ver)) j b→j≠k∧Zm E h j b:=by
  rintro j b ⟨B',hB',hb⟩
  by_cases hj:j=k
  ·subst hj;rw [hgk] at hB';cases hB';exact hb.elim
  ·rw [hge j hj] at hB';exact ⟨hj,B',hB',hb⟩
 obtain ⟨o1,_,o3⟩:=hr.rel.bl k _ hk
 obtain ⟨b,c,sp,e1,e2,e3,_⟩:=o3 hv
 have hat:Zm E h k b:=⟨_,hk,hv,c,e1⟩
 obtain ⟨s1,s2⟩:=hr.rel.sp k b hat
 have hm1:∀ b' o,m b'=some o→(fun b'=>if b'=b then some (.cells (cellsL E [.arr N α d n enc xs]++sp).toArray ty (0,0)) else m b') b'=some o:=fun b' o ho=>by
  have:b'≠b:=fun e=>by subst e;rw [s1] at ho;cases ho
  simp only [if_neg this];exact ho
 have hx:Ext E m (vers h) E (fun b'=>if b'=b then some (.cells (cellsL E [.arr N α d n enc xs]++sp).toArray ty (0,0)) else m b') (vers (h.set k (.gone ver))):=⟨hm1,fun _ _ h=>by rw [hvs];exact h,fun _ _ _=>rfl⟩
 have oA:Ok m (vers h) (.arr N α d n enc xs):=o1.1.2
 have oE:∀ j,j < N→OkL m [] (enc (xs.getD j d)):=fun j hj=>hfr _ _ _ (oA.2.2 j hj)
 refine ⟨_,b,c,hx,hr.up hx ?_,⟨e1,?_,_,_,_,if_pos rfl,?_⟩,fun j hj=>(oE j hj).mono hm1 _ _ _ (fun _ _ h=>h)⟩
 ·refine ⟨hr.rel.os,hr.rel.tape,hr.rel.output,?_,hr.rel.fr,⟨?_,hr.rel.mf.2.mono hm1⟩,?_,?_,?_,?_⟩
  ·intro b' o ho
   by_cases hb:b'=b
   ·subst hb;simp only [if_true] at ho;cases ho;exact e2
   ·simp only [if_neg hb] at ho;exact hr.rel.im b' o ho
  ·intro b' o ho
   have:b'≠b:=fun e=>by subst e;rw [s2] at ho;cases ho
   simp only [if_neg this];exact hr.rel.mf.1 b' o ho
  ·intro j B' hB'
   by_cases hj:j=k
   ·subst hj;rw [hgk] at hB';cases hB';trivial
   ·rw [hge j hj] at hB'
    exact (hr.rel.bl j B' hB').mono hx (fun _ _=>rfl) (fun _ _=>rfl)
  ·rw [hvs];exact hr.rel.nn
  ·intro j b' hb
   obtain ⟨h1,h2⟩:=hblk j b' hb
   have:b'≠b:=fun e=>by subst e;exact h1 (hr.rel.inj j k _ h2 hat)
   simp only [if_neg this];exact hr.rel.sp j b' h2
  ·intro i j b' h1 h2;exact hr.rel.inj i j b' (hblk i b' h1).2 (hblk j b' h2).2
 ·have h6:=length_cellsL E [.arr N α d n enc xs] _ o1
  simp only [wdL,wd,Nat.add_zero] at h6
  have h7:N * n≤c * n:=by
   have h8:N * n≤c * (g+1):=by omega
   rwa [← hn] at h8
  exact Nat.le_of_mul_le_mul_right h7 (by omega)
 ·intro j hj u v hu
  have hst:cellsL E (enc (xs.getD j d))=cellsL E0 (enc (xs.getD j d)):=cellsL_stable (m:=m) (V:=[]) (fun k v hv=>(Z1V hv).elim) _ (oE j hj)
  have h1:=Z3i (E:=E) oA hj (u:=u) (c:=v) (by rw [hst];exact hu)
  simp only [List.getElem?_toArray,cellsL,List.append_nil]
  rw [List.getElem?_append_left (List.getElem?_eq_some_iff.1 h1).1]
  exact h1
section
variable {P:Program} {T:Tb} {ops:Array Oper} {o:Oper}
end
theorem ZeI {β:Type} {e:β} {q:Nat} {en:β→List SV} (f:α→List β) (g:α→Option Addr) (c:α→Nat):ZaO fun x=>[.imm β e q en (f x) (g x) (c x)]:=fun x m V h=>by
 simp only [OkL,Ok,isUnit] at h ⊢
 exact h
end
end
theorem Rel.recell {E C m H w} (h:Rel E C m H w) {k ver g:Nat} {ty:TypeId} {segs segs':List SV} (hk:H[k]?=some (.mem ty segs ver g)) (hc:∀ E,cellsL E segs'=cellsL E segs) (ho:∀ m V,OkL m V segs→OkL m V segs'):Rel E C m (H.set k (.mem ty segs' ver g)) w:=by
 have hvs:vers (H.set k (.mem ty segs' ver g))=vers H:=ZP (B':=.mem ty segs' ver g) hk rfl
 have hkl:k < H.length:=(List.getElem?_eq_some_iff.1 hk).1
 have hgk:(H.set k (.mem ty segs' ver g))[k]?=some (.mem ty segs' ver g):=by simp [List.getElem?_set,hkl]
 have hge:∀ j,j≠k→(H.set k (.mem ty segs' ver g))[j]?=H[j]?:=fun j hj=>List.getElem?_set_ne (Ne.symm hj)
 have hblk:∀ j b,Zm E (H.set k (.mem ty segs' ver g)) j b→Zm E H j b:=by
  rintro j b ⟨B',hB',hb⟩
  by_cases hj:j=k
  ·subst hj;rw [hgk] at hB';cases hB';exact ⟨_,hk,hb⟩
  ·rw [hge j hj] at hB';exact ⟨B',hB',hb⟩
 refine ⟨h.os,h.tape,h.output,h.im,h.fr,h.mf,?_,?_,fun j b hb=>h.sp j b (hblk j b hb),fun i j b h1 h2=>h.inj i j b (hblk i b h1) (hblk j b h2)⟩
 ·intro j B' hB'
  rw [hvs]
  by_cases hj:j=k
  ·subst hj;rw [hgk] at hB';cases hB'
   have h1:=h.bl j _ hk
   cases g with
   | zero=>
     obtain ⟨a1,b,c,a2,a3,a4⟩:=h1
     exact ⟨a1,b,c,a2,by rw [hc];exact a3,ho _ _ a4⟩
   | succ g=>
     obtain ⟨o1,o2,o3⟩:=h1
     exact ⟨ho _ _ o1,fun e=>by rw [hc];exact o2 e,fun e=>by rw [hc];exact o3 e⟩
  ·rw [hge j hj] at hB';exact h.bl j B' hB'
 ·rw [hvs];exact h.nn
theorem Shift.recell {t:List SV} {h h':List SB} (k:Nat) {ver g:Nat} {ty:TypeId} {segs:List SV} (segs':List SV) (hk:h[k]?=some (.mem ty segs ver g)) (hc:∀ E,cellsL E segs'=cellsL E segs) (ho:∀ m V,OkL m V segs→OkL m V segs') (hh:h'=h.set k (.mem ty segs' ver g)):Shift ⟨t,h⟩ ⟨t,h'⟩:=by
 subst hh
 intro C E m a w hr
 have hvs:vers (h.set k (.mem ty segs' ver g))=vers h:=ZP (B':=.mem ty segs' ver g) hk rfl
 refine ⟨E,m,?_,hr.sz,?_,hr.df,hr.rel.recell hk hc ho⟩
 ·show Ext E m (vers h) E m (vers (h.set k (.mem ty segs' ver g)))
  rw [hvs];exact ⟨fun _ _ h=>h,fun _ _ h=>h,fun _ _ _=>rfl⟩
 ·intro n x v hx hv
  show SlotOk E m (vers (h.set k (.mem ty segs' ver g))) t v x
  rw [hvs];exact hr.sl n x v hx hv
theorem Z6N {t t':List SV} {h:List SB} (d:Nat) {x:SV} (y:SV) (hd:t[d]?=some x) (hx:(∀ b,x≠.b b)∧∀ q' b,x≠.grd q' (.b b)) (hx2:∀ E m V t v,SlotOk E m V t v x→SlotOk E m V t v y) (ht:t'=t.set d y):Shift ⟨t,h⟩ ⟨t',h⟩:=by
 subst ht
 intro C E m a w hr
 refine ⟨E,m,⟨fun _ _ h=>h,fun _ _ h=>h,fun _ _ _=>rfl⟩,?_,?_,hr.df,hr.rel⟩
 ·simpa using hr.sz
 ·intro n z v hz hv
  have hlt:d < t.length:=(List.getElem?_eq_some_iff.1 hd).1
  by_cases hn:n=d
  ·subst hn
   rw [List.getElem?_set_self hlt] at hz
   cases hz
   exact (hx2 _ _ _ _ _ (hr.sl n x v hd hv)).set_plain hd hx
  ·rw [List.getElem?_set_ne (Ne.symm hn)] at hz
   exact (hr.sl n z v hz hv).set_plain hd hx
theorem Cp.recell {X:List Value→World→(Value→World→Prop)→Prop} (hX:Z2G X) {args:List SV} {H:List SB} {K K':SV→List SB→Prop} (h:Cp X args H K)
 (hk:∀ r H1,K r H1→∃ k ty segs segs' ver g,H1[k]?=some (SB.mem ty segs ver g)∧(∀ E,cellsL E segs'=cellsL E segs)∧(∀ m V,OkL m V segs→OkL m V segs')∧K' r (H1.set k (.mem ty segs' ver g))):Cp X args H K':=
 ⟨fun C E m w hr ha=>hX _ _ _ _ (h.out C E m w hr ha) fun v w' ⟨r,H1,E',m',h1,h2,h3,h4,h5⟩=>by
  obtain ⟨k,ty,segs,segs',ver,g,k1,k2,k3,k4⟩:=hk r H1 h2
  have hvs:vers (H1.set k (.mem ty segs' ver g))=vers H1:=ZP (B':=.mem ty segs' ver g) k1 rfl
  exact ⟨r,_,E',m',h1,k4,by rw [hvs];exact h3,by rw [hvs];exact h4,h5.recell k1 k2 k3⟩⟩
def tiF1:TI:=⟨.func,1,8,[.raw .nilFunc],none,true⟩
def tiF2:TI:=⟨.int .i64,1,8,[.i .i64 0],none,true⟩
def tiF4:TI:=⟨.bool,1,1,[.b false],none,true⟩
def tiF5:TI:=⟨.int .u8,1,1,[.i .u8 0],none,true⟩
def tiF7:TI:=⟨.struct [(0,2),(1,3),(2,4),(3,6)],4,24,[.i .i64 0,.i .i64 0,.b false,.i .u8 0],none,true⟩
def tiF9:TI:=⟨.str,1,16,[.s []],none,true⟩
def ZdH:TI:=⟨.int .u64,1,8,[.i .u64 0],none,true⟩
def tiF13:TI:=⟨.struct [(0,9),(1,12)],2,24,[.s [],.i .u64 0],none,true⟩
def tiF15:TI:=⟨.ptr 280,1,8,[.raw (.pointer none)],none,true⟩
def tiF16:TI:=⟨.ptr 283,1,8,[.raw (.pointer none)],none,true⟩
def tiF17:TI:=⟨.ptr 290,1,8,[.raw (.pointer none)],none,true⟩
def tiF18:TI:=⟨.struct [(0,17)],1,8,[.raw (.pointer none)],none,true⟩
def tiF20:TI:=⟨.iface false,1,16,[.raw .nilIface],none,true⟩
def ZdI:TI:=⟨.int .i32,1,4,[.i .i32 0],none,true⟩
def tiF22:TI:=⟨.array 3 3,3,24,[.i .i64 0,.i .i64 0,.i .i64 0],some [.i .i64,.i .i64,.i .i64],true⟩
def tiF23:TI:=⟨.array 8 3,8,64,[.i .i64 0,.i .i64 0,.i .i64 0,.i .i64 0,.i .i64 0,.i .i64 0,.i .i64 0,.i .i64 0],some [.i .i64,.i .i64,.i .i64,.i .i64,.i .i64,.i .i64,.i .i64,.i .i64],true⟩
def tiF24:TI:=⟨.array 3 23,24,192,[.i .i64 0,.i .i64 0,.i .i64 0,.i .i64 0,.i .i64 0,.i .i64 0,.i .i64 0,.i .i64 0,.i .i64 0,.i .i64 0,.i .i64 0,.i .i64 0,.i .i64 0,.i .i64 0,.i .i64 0,.i .i64 0,.i .i64 0,.i .i64 0,.i .i64 0,.i .i64 0,.i .i64 0,.i .i64 0,.i .i64 0,.i .i64 0],some [.i .i64,.i .i64,.i .i64,.i .i64,.i .i64,.i .i64,.i .i64,.i .i64,.i .i64,.i .i64,.i .i64,.i .i64,.i .i64,.i .i64,.i .i64,.i .i64,.i .i64,.i .i64,.i .i64,.i .i64,.i .i64,.i .i64,.i .i64,.i .i64],true⟩
def tiF25:TI:=⟨.slice 38,1,24,[.nils],none,true⟩
def tiF26:TI:=⟨.slice 79,1,24,[.nils],none,true⟩
def tiF27:TI:=⟨.struct [(0,3),(1,9),(2,22),(5,24),(29,25),(30,3),(31,26)],32,296,[.i .i64 0,.s [],.i .i64 0,.i .i64 0,.i .i64 0,.i .i64 0,.i .i64 0,.i .i64 0,.i .i64 0,.i .i64 0,.i .i64 0,.i .i64 0,.i .i64 0,.i .i64 0,.i .i64 0,.i .i64 0,.i .i64 0,.i .i64 0,.i .i64 0,.i .i64 0,.i .i64 0,.i .i64 0,.i .i64 0,.i .i64 0,.i .i64 0,.i .i64 0,.i .i64 0,.i .i64 0,.i .i64 0,.nils,.i .i64 0,.nils],none,true⟩
def tiF29:TI:=⟨.slice 44,1,24,[.nils],none,true⟩
def tiF33:TI:=⟨.ptr 106,1,8,[.raw (.pointer none)],none,true⟩
def tiF36:TI:=⟨.slice 37,1,24,[.nils],none,true⟩
def tiF37:TI:=⟨.ptr 41,1,8,[.raw (.pointer none)],none,true⟩
def tiF38:TI:=⟨.slice 56,1,24,[.nils],none,true⟩
def tiF39:TI:=⟨.slice 3,1,24,[.nils],none,true⟩
def tiF40:TI:=⟨.struct [(0,38),(1,23),(9,3),(10,39)],11,120,[.nils,.i .i64 0,.i .i64 0,.i .i64 0,.i .i64 0,.i .i64 0,.i .i64 0,.i .i64 0,.i .i64 0,.i .i64 0,.nils],none,true⟩
def Z7i:TI:=⟨.struct [(0,3),(1,3)],2,16,[.i .i64 0,.i .i64 0],some [.i .i64,.i .i64],true⟩
def tiF48:TI:=⟨.struct [(0,3),(1,3),(2,3),(3,3),(4,47),(6,4),(7,4),(8,3),(9,3),(10,4),(11,4),(12,4),(13,3),(14,3)],15,96,[.i .i64 0,.i .i64 0,.i .i64 0,.i .i64 0,.i .i64 0,.i .i64 0,.b false,.b false,.i .i64 0,.i .i64 0,.b false,.b false,.b false,.i .i64 0,.i .i64 0],some [.i .i64,.i .i64,.i .i64,.i .i64,.i .i64,.i .i64,.b,.b,.i .i64,.i .i64,.b,.b,.b,.i .i64,.i .i64],true⟩
def tiF52:TI:=⟨.slice 49,1,24,[.nils],none,true⟩
def tiF55:TI:=⟨.struct [(0,3),(1,3),(2,3),(3,3),(4,3),(5,3),(6,3),(7,3),(8,3),(9,3),(10,4),(11,4),(12,4),(13,3),(14,3),(15,3),(16,4)],17,120,[.i .i64 0,.i .i64 0,.i .i64 0,.i .i64 0,.i .i64 0,.i .i64 0,.i .i64 0,.i .i64 0,.i .i64 0,.i .i64 0,.b false,.b false,.b false,.i .i64 0,.i .i64 0,.i .i64 0,.b false],some [.i .i64,.i .i64,.i .i64,.i .i64,.i .i64,.i .i64,.i .i64,.i .i64,.i .i64,.i .i64,.b,.b,.b,.i .i64,.i .i64,.i .i64,.b],true⟩
def tiF66:TI:=⟨.ptr 121,1,8,[.raw (.pointer none)],none,true⟩
def tiF68:TI:=⟨.ptr 125,1,8,[.raw (.pointer none)],none,true⟩
def tiF71:TI:=⟨.slice 76,1,24,[.nils],none,true⟩
def tiF75:TI:=⟨.struct [(0,3),(1,3),(2,3),(3,3)],4,32,[.i .i64 0,.i .i64 0,.i .i64 0,.i .i64 0],some [.i .i64,.i .i64,.i .i64,.i .i64],true⟩
def tiF78:TI:=⟨.struct [(0,3),(1,3),(2,3),(3,3),(4,3)],5,40,[.i .i64 0,.i .i64 0,.i .i64 0,.i .i64 0,.i .i64 0],some [.i .i64,.i .i64,.i .i64,.i .i64,.i .i64],true⟩
def tiF80:TI:=⟨.ptr 84,1,8,[.raw (.pointer none)],none,true⟩
def tiF82:TI:=⟨.slice 139,1,24,[.nils],none,true⟩
def tiF83:TI:=⟨.struct [(0,33),(1,22),(4,82)],5,56,[.raw (.pointer none),.i .i64 0,.i .i64 0,.i .i64 0,.nils],none,true⟩
def tiF98:TI:=⟨.struct [(0,9),(1,94),(2,95),(3,96),(4,97)],5,48,[.s [],.raw .nilFunc,.raw .nilFunc,.raw .nilFunc,.raw .nilFunc],none,true⟩
def tiF100:TI:=⟨.slice 99,1,24,[.nils],none,true⟩
def tiF103:TI:=⟨.slice 23,1,24,[.nils],none,true⟩
def tiF104:TI:=⟨.slice 109,1,24,[.nils],none,true⟩
def ZeJ:TI:=⟨.struct [(0,104)],1,24,[.nils],none,true⟩
def ZeK:TI:=⟨.struct [(0,38),(1,3),(2,23)],10,96,[.nils,.i .i64 0,.i .i64 0,.i .i64 0,.i .i64 0,.i .i64 0,.i .i64 0,.i .i64 0,.i .i64 0,.i .i64 0],none,true⟩
def tiF113:TI:=⟨.ptr 109,1,8,[.raw (.pointer none)],none,true⟩
def tiF117:TI:=⟨.slice 5,1,24,[.nils],none,true⟩
def ZeL:TI:=⟨.struct [(0,33),(1,22)],4,32,[.raw (.pointer none),.i .i64 0,.i .i64 0,.i .i64 0],none,true⟩
def tiF122:TI:=⟨.slice 135,1,24,[.nils],none,true⟩
def tiF123:TI:=⟨.array 3 122,3,72,[.nils,.nils,.nils],none,true⟩
def ZeM:TI:=⟨.struct [(0,28),(32,36),(33,22),(36,123),(39,4)],40,424,[.i .i64 0,.s [],.i .i64 0,.i .i64 0,.i .i64 0,.i .i64 0,.i .i64 0,.i .i64 0,.i .i64 0,.i .i64 0,.i .i64 0,.i .i64 0,.i .i64 0,.i .i64 0,.i .i64 0,.i .i64 0,.i .i64 0,.i .i64 0,.i .i64 0,.i .i64 0,.i .i64 0,.i .i64 0,.i .i64 0,.i .i64 0,.i .i64 0,.i .i64 0,.i .i64 0,.i .i64 0,.i .i64 0,.nils,.i .i64 0,.nils,.nils,.i .i64 0,.i .i64 0,.i .i64 0,.nils,.nils,.nils,.b false],none,true⟩
def ZeN:TI:=⟨.struct [(0,24),(24,22)],27,216,[.i .i64 0,.i .i64 0,.i .i64 0,.i .i64 0,.i .i64 0,.i .i64 0,.i .i64 0,.i .i64 0,.i .i64 0,.i .i64 0,.i .i64 0,.i .i64 0,.i .i64 0,.i .i64 0,.i .i64 0,.i .i64 0,.i .i64 0,.i .i64 0,.i .i64 0,.i .i64 0,.i .i64 0,.i .i64 0,.i .i64 0,.i .i64 0,.i .i64 0,.i .i64 0,.i .i64 0],some [.i .i64,.i .i64,.i .i64,.i .i64,.i .i64,.i .i64,.i .i64,.i .i64,.i .i64,.i .i64,.i .i64,.i .i64,.i .i64,.i .i64,.i .i64,.i .i64,.i .i64,.i .i64,.i .i64,.i .i64,.i .i64,.i .i64,.i .i64,.i .i64,.i .i64,.i .i64,.i .i64],true⟩
def tiF130:TI:=⟨.ptr 3,1,8,[.raw (.pointer none)],none,true⟩
def Z92:TI:=⟨.struct [(0,47),(2,3)],3,24,[.i .i64 0,.i .i64 0,.i .i64 0],some [.i .i64,.i .i64,.i .i64],true⟩
def tiF139:TI:=⟨.slice 138,1,24,[.nils],none,true⟩
def tiF142:TI:=⟨.slice 146,1,24,[.nils],none,true⟩
def ZeO:TI:=⟨.struct [(0,3),(1,9),(2,3),(3,3)],4,40,[.i .i64 0,.s [],.i .i64 0,.i .i64 0],some [.i .i64,.s,.i .i64,.i .i64],true⟩
def tiF163:TI:=⟨.ptr 178,1,8,[.raw (.pointer none)],none,true⟩
def ZeP:TI:=⟨.iface true,1,16,[.raw .nilIface],none,true⟩
def tiF173:TI:=⟨.slice 9,1,24,[.nils],none,true⟩
def ZeQ:TI:=⟨.struct [(0,173),(1,9),(2,175),(3,176)],4,56,[.nils,.s [],.raw .nilFunc,.raw .nilFunc],none,true⟩
def tiF179:TI:=⟨.ptr 183,1,8,[.raw (.pointer none)],none,true⟩
def tiF181:TI:=⟨.ptr 210,1,8,[.raw (.pointer none)],none,true⟩
def ZeR:TI:=⟨.struct [(0,181),(1,163),(2,9),(3,31),(4,3)],5,48,[.raw (.pointer none),.raw (.pointer none),.s [],.i .i64 0,.i .i64 0],none,true⟩
def tiF192:TI:=⟨.array 256 5,256,256,[.i .u8 0,.i .u8 0,.i .u8 0,.i .u8 0,.i .u8 0,.i .u8 0,.i .u8 0,.i .u8 0,.i .u8 0,.i .u8 0,.i .u8 0,.i .u8 0,.i .u8 0,.i .u8 0,.i .u8 0,.i .u8 0,.i .u8 0,.i .u8 0,.i .u8 0,.i .u8 0,.i .u8 0,.i .u8 0,.i .u8 0,.i .u8 0,.i .u8 0,.i .u8 0,.i .u8 0,.i .u8 0,.i .u8 0,.i .u8 0,.i .u8 0,.i .u8 0,.i .u8 0,.i .u8 0,.i .u8 0,.i .u8 0,.i .u8 0,.i .u8 0,.i .u8 0,.i .u8 0,.i .u8 0,.i .u8 0,.i .u8 0,.i .u8 0,.i .u8 0,.i .u8 0,.i .u8 0,.i .u8 0,.i .u8 0,.i .u8 0,.i .u8 0,.i .u8 0,.i .u8 0,.i .u8 0,.i .u8 0,.i .u8 0,.i .u8 0,.i .u8 0,.i .u8 0,.i .u8 0,.i .u8 0,.i .u8 0,.i .u8 0,.i .u8 0,.i .u8 0,.i .u8 0,.i .u8 0,.i .u8 0,.i .u8 0,.i .u8 0,.i .u8 0,.i .u8 0,.i .u8 0,.i .u8 0,.i .u8 0,.i .u8 0,.i .u8 0,.i .u8 0,.i .u8 0,.i .u8 0,.i .u8 0,.i .u8 0,.i .u8 0,.i .u8 0,.i .u8 0,.i .u8 0,.i .u8 0,.i .u8 0,.i .u8 0,.i .u8 0,.i .u8 0,.i .u8 0,.i .u8 0,.i .u8 0,.i .u8 0,.i .u8 0,.i .u8 0,.i .u8 0,.i .u8 0,.i .u8 0,.i .u8 0,.i .u8 0,.i .u8 0,.i .u8 0,.i .u8 0,.i .u8 0,.i .u8 0,.i .u8 0,.i .u8 0,.i .u8 0,.i .u8 0,.i .u8 0,.i .u8 0,.i .u8 0,.i .u8 0,.i .u8 0,.i .u8 0,.i .u8 0,.i .u8 0,.i .u8 0,.i .u8 0,.i .u8 0,.i .u8 0,.i .u8 0,.i .u8 0,.i .u8 0,.i .u8 0,.i .u8 0,.i .u8 0,.i .u8 0,.i .u8 0,.i .u8 0,.i .u8 0,.i .u8 0,.i .u8 0,.i .u8 0,.i .u8 0,.i .u8 0,.i .u8 0,.i .u8 0,.i .u8 0,.i .u8 0,.i .u8 0,.i .u8 0,.i .u8 0,.i .u8 0,.i .u8 0,.i .u8 0,.i .u8 0,.i .u8 0,.i .u8 0,.i .u8 0,.i .u8 0,.i .u8 0,.i .u8 0,.i .u8 0,.i .u8 0,.i .u8 0,.i .u8 0,.i .u8 0,.i .u8 0,.i .u8 0,.i .u8 0,.i .u8 0,.i .u8 0,.i .u8 0,.i .u8 0,.i .u8 0,.i .u8 0,.i .u8 0,.i .u8 0,.i .u8 0,.i .u8 0,.i .u8 0,.i .u8 0,.i .u8 0,.i .u8 0,.i .u8 0,.i .u8 0,.i .u8 0,.i .u8 0,.i .u8 0,.i .u8 0,.i .u8 0,.i .u8 0,.i .u8 0,.i .u8 0,.i .u8 0,.i .u8 0,.i .u8 0,.i .u8 0,.i .u8 0,.i .u8 0,.i .u8 0,.i .u8 0,.i .u8 0,.i .u8 0,.i .u8 0,.i .u8 0,.i .u8 0,.i .u8 0,.i .u8 0,.i .u8 0,.i .u8 0,.i .u8 0,.i .u8 0,.i .u8 0,.i .u8 0,.i .u8 0,.i .u8 0,.i .u8 0,.i .u8 0,.i .u8 0,.i .u8 0,.i .u8 0,.i .u8 0,.i .u8 0,.i .u8 0,.i .u8 0,.i .u8 0,.i .u8 0,.i .u8 0,.i .u8 0,.i .u8 0,.i .u8 0,.i .u8 0,.i .u8 0,.i .u8 0,.i .u8 0,.i .u8 0,.i .u8 0,.i .u8 0,.i .u8 0,.i .u8 0,.i .u8 0,.i .u8 0,.i .u8 0,.i .u8 0,.i .u8 0,.i .u8 0,.i .u8 0,.i .u8 0,.i .u8 0,.i .u8 0,.i .u8 0,.i .u8 0,.i .u8 0,.i .u8 0,.i .u8 0,.i .u8 0,.i .u8 0,.i .u8 0,.i .u8 0,.i .u8 0,.i .u8 0,.i .u8 0],some [.i .u8,.i .u8,.i .u8,.i .u8,.i .u8,.i .u8,.i .u8,.i .u8,.i .u8,.i .u8,.i .u8,.i .u8,.i .u8,.i .u8,.i .u8,.i .u8,.i .u8,.i .u8,.i .u8,.i .u8,.i .u8,.i .u8,.i .u8,.i .u8,.i .u8,.i .u8,.i .u8,.i .u8,.i .u8,.i .u8,.i .u8,.i .u8,.i .u8,.i .u8,.i .u8,.i .u8,.i .u8,.i .u8,.i .u8,.i .u8,.i .u8,.i .u8,.i .u8,.i .u8,.i .u8,.i .u8,.i .u8,.i .u8,.i .u8,.i .u8,.i .u8,.i .u8,.i .u8,.i .u8,.i .u8,.i .u8,.i .u8,.i .u8,.i .u8,.i .u8,.i .u8,.i .u8,.i .u8,.i .u8,.i .u8,.i .u8,.i .u8,.i .u8,.i .u8,.i .u8,.i .u8,.i .u8,.i .u8,.i .u8,.i .u8,.i .u8,.i .u8,.i .u8,.i .u8,.i .u8,.i .u8,.i .u8,.i .u8,.i .u8,.i .u8,.i .u8,.i .u8,.i .u8,.i .u8,.i .u8,.i .u8,.i .u8,.i .u8,.i .u8,.i .u8,.i .u8,.i .u8,.i .u8,.i .u8,.i .u8,.i .u8,.i .u8,.i .u8,.i .u8,.i .u8,.i .u8,.i .u8,.i .u8,.i .u8,.i .u8,.i .u8,.i .u8,.i .u8,.i .u8,.i .u8,.i .u8,.i .u8,.i .u8,.i .u8,.i .u8,.i .u8,.i .u8,.i .u8,.i .u8,.i .u8,.i .u8,.i .u8,.i .u8,.i .u8,.i .u8,.i .u8,.i .u8,.i .u8,.i .u8,.i .u8,.i .u8,.i .u8,.i .u8,.i .u8,.i .u8,.i .u8,.i .u8,.i .u8,.i .u8,.i .u8,.i .u8,.i .u8,.i .u8,.i .u8,.i .u8,.i .u8,.i .u8,.i .u8,.i .u8,.i .u8,.i .u8,.i .u8,.i .u8,.i .u8,.i .u8,.i .u8,.i .u8,.i .u8,.i .u8,.i .u8,.i .u8,.i .u8,.i .u8,.i .u8,.i .u8,.i .u8,.i .u8,.i .u8,.i .u8,.i .u8,.i .u8,.i .u8,.i .u8,.i .u8,.i .u8,.i .u8,.i .u8,.i .u8,.i .u8,.i .u8,.i .u8,.i .u8,.i .u8,.i .u8,.i .u8,.i .u8,.i .u8,.i .u8,.i .u8,.i .u8,.i .u8,.i .u8,.i .u8,.i .u8,.i .u8,.i .u8,.i .u8,.i .u8,.i .u8,.i .u8,.i .u8,.i .u8,.i .u8,.i .u8,.i .u8,.i .u8,.i .u8,.i .u8,.i .u8,.i .u8,.i .u8,.i .u8,.i .u8,.i .u8,.i .u8,.i .u8,.i .u8,.i .u8,.i .u8,.i .u8,.i .u8,.i .u8,.i .u8,.i .u8,.i .u8,.i .u8,.i .u8,.i .u8,.i .u8,.i .u8,.i .u8,.i .u8,.i .u8,.i .u8,.i .u8,.i .u8,.i .u8,.i .u8,.i .u8,.i .u8,.i .u8,.i .u8,.i .u8,.i .u8,.i .u8,.i .u8,.i .u8,.i .u8,.i .u8,.i .u8,.i .u8],true⟩
def tiF201:TI:=⟨.ptr 56,1,8,[.raw (.pointer none)],none,true⟩
def ZeS:TI:=⟨.struct [(0,142),(1,3)],2,32,[.nils,.i .i64 0],none,true⟩
def tiF214:TI:=⟨.slice 217,1,24,[.nils],none,true⟩
def tiF217:TI:=⟨.array 2 3,2,16,[.i .i64 0,.i .i64 0],some [.i .i64,.i .i64],true⟩
def tiF219:TI:=⟨.array 24 5,24,24,[.i .u8 0,.i .u8 0,.i .u8 0,.i .u8 0,.i .u8 0,.i .u8 0,.i .u8 0,.i .u8 0,.i .u8 0,.i .u8 0,.i .u8 0,.i .u8 0,.i .u8 0,.i .u8 0,.i .u8 0,.i .u8 0,.i .u8 0,.i .u8 0,.i .u8 0,.i .u8 0,.i .u8 0,.i .u8 0,.i .u8 0,.i .u8 0],some [.i .u8,.i .u8,.i .u8,.i .u8,.i .u8,.i .u8,.i .u8,.i .u8,.i .u8,.i .u8,.i .u8,.i .u8,.i .u8,.i .u8,.i .u8,.i .u8,.i .u8,.i .u8,.i .u8,.i .u8,.i .u8,.i .u8,.i .u8,.i .u8],true⟩
def tiF224:TI:=⟨.int .u32,1,4,[.i .u32 0],none,true⟩
def tiF232:TI:=⟨.slice 234,1,24,[.nils],none,true⟩
def tiF246:TI:=⟨.struct [(0,9),(1,9),(2,170)],3,48,[.s [],.s [],.raw .nilIface],none,true⟩
def tiF267:TI:=⟨.ptr 5,1,8,[.raw (.pointer none)],none,true⟩
def ZeT:TI:=⟨.struct [(0,17),(1,17),(2,17),(3,9)],4,40,[.raw (.pointer none),.raw (.pointer none),.raw (.pointer none),.s []],none,true⟩
def ZeU:TI:=⟨.struct [(0,12),(1,12),(2,224),(3,284),(4,5),(5,5),(6,285),(7,286),(8,267),(9,287),(10,288)],11,48,[.i .u64 0,.i .u64 0,.i .u32 0,.i .u8 0,.i .u8 0,.i .u8 0,.i .u8 0,.raw .nilFunc,.raw (.pointer none),.i .i32 0,.i .i32 0],none,true⟩
def treeF:Tr:=(.node 114 tiF1 (.node 55 tiF55 (.node 27 tiF27 (.node 14 tiF13 (.node 7 tiF7 (.node 4 tiF4 (.node 2 tiF2 (.node 1 tiF1 .leaf .leaf) (.node 3 tiF2 .leaf .leaf)) (.node 6 tiF5 (.node 5 tiF5 .leaf .leaf) .leaf)) (.node 11 tiF9 (.node 9 tiF9 (.node 8 tiF7 .leaf .leaf) (.node 10 tiF9 .leaf .leaf)) (.node 13 tiF13 (.node 12 ZdH .leaf .leaf) .leaf))) (.node 21 ZdI (.node 18 tiF18 (.node 16 tiF16 (.node 15 tiF15 .leaf .leaf) (.node 17 tiF17 .leaf .leaf)) (.node 20 tiF20 (.node 19 tiF18 .leaf .leaf) .leaf)) (.node 24 tiF24 (.node 23 tiF23 (.node 22 tiF22 .leaf .leaf) .leaf) (.node 26 tiF26 (.node 25 tiF25 .leaf .leaf) .leaf)))) (.node 41 tiF40 (.node 34 tiF1 (.node 31 tiF2 (.node 29 tiF29 (.node 28 tiF27 .leaf .leaf) (.node 30 tiF1 .leaf .leaf)) (.node 33 tiF33 (.node 32 tiF1 .leaf .leaf) .leaf)) (.node 38 tiF38 (.node 36 tiF36 (.node 35 tiF1 .leaf .leaf) (.node 37 tiF37 .leaf .leaf)) (.node 40 tiF40 (.node 39 tiF39 .leaf .leaf) .leaf))) (.node 48 tiF48 (.node 45 tiF1 (.node 43 Z7i (.node 42 tiF1 .leaf .leaf) (.node 44 Z7i .leaf .leaf)) (.node 47 Z7i (.node 46 Z7i .leaf .leaf) .leaf)) (.node 51 tiF1 (.node 50 tiF1 (.node 49 tiF48 .leaf .leaf) .leaf) (.node 54 tiF1 (.node 52 tiF52 .leaf .leaf) .leaf))))) (.node 83 tiF83 (.node 70 tiF1 (.node 63 tiF1 (.node 60 tiF1 (.node 58 tiF1 (.node 56 tiF55 .leaf .leaf) (.node 59 tiF1 .leaf .leaf)) (.node 62 tiF1 (.node 61 tiF1 .leaf .leaf) .leaf)) (.node 67 tiF1 (.node 65 tiF1 (.node 64 tiF1 .leaf .leaf) (.node 66 tiF66 .leaf .leaf)) (.node 69 tiF1 (.node 68 tiF68 .leaf .leaf) .leaf))) (.node 77 tiF1 (.node 74 tiF1 (.node 72 tiF1 (.node 71 tiF71 .leaf .leaf) (.node 73 tiF1 .leaf .leaf)) (.node 76 tiF75 (.node 75 tiF75 .leaf .leaf) .leaf)) (.node 80 tiF80 (.node 79 tiF78 (.node 78 tiF78 .leaf .leaf) .leaf) (.node 82 tiF82 (.node 81 tiF1 .leaf .leaf) .leaf)))) (.node 100 tiF100 (.node 92 tiF1 (.node 88 tiF1 (.node 85 tiF1 (.node 84 tiF83 .leaf .leaf) (.node 86 tiF1 .leaf .leaf)) (.node 90 tiF1 (.node 89 tiF1 .leaf .leaf) .leaf)) (.node 97 tiF1 (.node 95 tiF1 (.node 94 tiF1 .leaf .leaf) (.node 96 tiF1 .leaf .leaf)) (.node 99 tiF98 (.node 98 tiF98 .leaf .leaf) .leaf))) (.node 108 ZeK (.node 104 tiF104 (.node 102 tiF1 (.node 101 tiF1 .leaf .leaf) (.node 103 tiF103 .leaf .leaf)) (.node 106 ZeJ (.node 105 ZeJ .leaf .leaf) .leaf)) (.node 111 tiF1 (.node 110 tiF1 (.node 109 ZeK .leaf .leaf) .leaf) (.node 113 tiF113 (.node 112 tiF1 .leaf .leaf) .leaf)))))) (.node 177 ZeQ (.node 144 tiF1 (.node 128 ZeN (.node 121 ZeL (.node 118 tiF1 (.node 116 tiF1 (.node 115 tiF1 .leaf .leaf) (.node 117 tiF117 .leaf .leaf)) (.node 120 ZeL (.node 119 tiF1 .leaf .leaf) .leaf)) (.node 125 ZeM (.node 123 tiF123 (.node 122 tiF122 .leaf .leaf) (.node 124 ZeM .leaf .leaf)) (.node 127 ZeN (.node 126 tiF1 .leaf .leaf) .leaf))) (.node 135 Z92 (.node 132 tiF1 (.node 130 tiF130 (.node 129 tiF1 .leaf .leaf) (.node 131 tiF1 .leaf .leaf)) (.node 134 Z92 (.node 133 tiF1 .leaf .leaf) .leaf)) (.node 139 tiF139 (.node 138 Z92 (.node 137 Z92 .leaf .leaf) .leaf) (.node 142 tiF142 (.node 141 tiF1 .leaf .leaf) .leaf)))) (.node 160 tiF1 (.node 151 ZdH (.node 148 tiF1 (.node 146 ZeO (.node 145 ZeO .leaf .leaf) (.node 147 tiF1 .leaf .leaf)) (.node 150 tiF1 (.node 149 tiF1 .leaf .leaf) .leaf)) (.node 156 tiF1 (.node 154 tiF1 (.node 152 tiF1 .leaf .leaf) (.node 155 tiF1 .leaf .leaf)) (.node 158 tiF1 (.node 157 tiF1 .leaf .leaf) .leaf))) (.node 170 ZeP (.node 166 tiF1 (.node 163 tiF163 (.node 161 tiF1 .leaf .leaf) (.node 165 tiF1 .leaf .leaf)) (.node 169 ZeP (.node 168 tiF1 .leaf .leaf) .leaf)) (.node 174 tiF1 (.node 173 tiF173 (.node 172 tiF1 .leaf .leaf) .leaf) (.node 176 tiF1 (.node 175 tiF1 .leaf .leaf) .leaf))))) (.node 216 tiF1 (.node 193 tiF1 (.node 185 tiF1 (.node 181 tiF181 (.node 179 tiF179 (.node 178 ZeQ .leaf .leaf) (.node 180 tiF1 .leaf .leaf)) (.node 183 ZeR (.node 182 ZeR .leaf .leaf) .leaf)) (.node 190 ZdH (.node 188 tiF1 (.node 187 tiF1 .leaf .leaf) (.node 189 tiF1 .leaf .leaf)) (.node 192 tiF192 (.node 191 tiF1 .leaf .leaf) .leaf))) (.node 203 tiF1 (.node 197 tiF1 (.node 195 tiF1 (.node 194 tiF1 .leaf .leaf) (.node 196 tiF1 .leaf .leaf)) (.node 201 tiF201 (.node 200 tiF1 .leaf .leaf) .leaf)) (.node 210 ZeS (.node 209 ZeS (.node 206 tiF1 .leaf .leaf) .leaf) (.node 214 tiF214 (.node 213 tiF1 .leaf .leaf) .leaf)))) (.node 246 tiF246 (.node 224 tiF224 (.node 220 tiF1 (.node 218 tiF1 (.node 217 tiF217 .leaf .leaf) (.node 219 tiF219 .leaf .leaf)) (.node 223 tiF1 (.node 221 tiF1 .leaf .leaf) .leaf)) (.node 233 Z7i (.node 227 tiF2 (.node 226 tiF1 .leaf .leaf) (.node 232 tiF232 .leaf .leaf)) (.node 238 tiF1 (.node 234 Z7i .leaf .leaf) .leaf))) (.node 285 tiF5 (.node 279 ZeT (.node 266 tiF1 (.node 256 tiF1 .leaf .leaf) (.node 267 tiF267 .leaf .leaf)) (.node 284 tiF5 (.node 280 ZeT .leaf .leaf) .leaf)) (.node 288 ZdI (.node 287 ZdI (.node 286 tiF1 .leaf .leaf) .leaf) (.node 290 ZeU (.node 289 ZeU .leaf .leaf) .leaf)))))))
def TF:Tb:=treeF.get
theorem Z5:TabOk Tryz.prog TF:=by
 refine Z34 ?_
 exact ⟨entX,⟨entX,⟨entX,⟨entX,⟨entX,⟨entX,⟨entX,⟨entX,trivial,trivial⟩,⟨entX,trivial,trivial⟩⟩,⟨entX,⟨entX,trivial,trivial⟩,trivial⟩⟩,⟨entX,⟨entX,⟨entX,trivial,trivial⟩,⟨entX,trivial,trivial⟩⟩,⟨entX,⟨entX,trivial,trivial⟩,trivial⟩⟩⟩,⟨entX,⟨entX,⟨entX,⟨entX,trivial,trivial⟩,⟨entX,trivial,trivial⟩⟩,⟨entX,⟨entX,trivial,trivial⟩,trivial⟩⟩,⟨entX,⟨entX,⟨entX,trivial,trivial⟩,trivial⟩,⟨entX,⟨entX,trivial,trivial⟩,trivial⟩⟩⟩⟩,⟨entX,⟨entX,⟨entX,⟨entX,⟨entX,trivial,trivial⟩,⟨entX,trivial,trivial⟩⟩,⟨entX,⟨entX,trivial,trivial⟩,trivial⟩⟩,⟨entX,⟨entX,⟨entX,trivial,trivial⟩,⟨entX,trivial,trivial⟩⟩,⟨entX,⟨entX,trivial,trivial⟩,trivial⟩⟩⟩,⟨entX,⟨entX,⟨entX,⟨entX,trivial,trivial⟩,⟨entX,trivial,trivial⟩⟩,⟨entX,⟨entX,trivial,trivial⟩,trivial⟩⟩,⟨entX,⟨entX,⟨entX,trivial,trivial⟩,trivial⟩,⟨entX,⟨entX,trivial,trivial⟩,trivial⟩⟩⟩⟩⟩,⟨entX,⟨entX,⟨entX,⟨entX,⟨entX,⟨entX,trivial,trivial⟩,⟨entX,trivial,trivial⟩⟩,⟨entX,⟨entX,trivial,trivial⟩,trivial⟩⟩,⟨entX,⟨entX,⟨entX,trivial,trivial⟩,⟨entX,trivial,trivial⟩⟩,⟨entX,⟨entX,trivial,trivial⟩,trivial⟩⟩⟩,⟨entX,⟨entX,⟨entX,⟨entX,trivial,trivial⟩,⟨entX,trivial,trivial⟩⟩,⟨entX,⟨entX,trivial,trivial⟩,trivial⟩⟩,⟨entX,⟨entX,⟨entX,trivial,trivial⟩,trivial⟩,⟨entX,⟨entX,trivial,trivial⟩,trivial⟩⟩⟩⟩,⟨entX,⟨entX,⟨entX,⟨entX,⟨entX,trivial,trivial⟩,⟨entX,trivial,trivial⟩⟩,⟨entX,⟨entX,trivial,trivial⟩,trivial⟩⟩,⟨entX,⟨entX,⟨entX,trivial,trivial⟩,⟨entX,trivial,trivial⟩⟩,⟨entX,⟨entX,trivial,trivial⟩,trivial⟩⟩⟩,⟨entX,⟨entX,⟨entX,⟨entX,trivial,trivial⟩,⟨entX,trivial,trivial⟩⟩,⟨entX,⟨entX,trivial,trivial⟩,trivial⟩⟩,⟨entX,⟨entX,⟨entX,trivial,trivial⟩,trivial⟩,⟨entX,⟨entX,trivial,trivial⟩,trivial⟩⟩⟩⟩⟩⟩,⟨entX,⟨entX,⟨entX,⟨entX,⟨entX,⟨entX,⟨entX,trivial,trivial⟩,⟨entX,trivial,trivial⟩⟩,⟨entX,⟨entX,trivial,trivial⟩,trivial⟩⟩,⟨entX,⟨entX,⟨entX,trivial,trivial⟩,⟨entX,trivial,trivial⟩⟩,⟨entX,⟨entX,trivial,trivial⟩,trivial⟩⟩⟩,⟨entX,⟨entX,⟨entX,⟨entX,trivial,trivial⟩,⟨entX,trivial,trivial⟩⟩,⟨entX,⟨entX,trivial,trivial⟩,trivial⟩⟩,⟨entX,⟨entX,⟨entX,trivial,trivial⟩,trivial⟩,⟨entX,⟨entX,trivial,trivial⟩,trivial⟩⟩⟩⟩,⟨entX,⟨entX,⟨entX,⟨entX,⟨entX,trivial,trivial⟩,⟨entX,trivial,trivial⟩⟩,⟨entX,⟨entX,trivial,trivial⟩,trivial⟩⟩,⟨entX,⟨entX,⟨entX,trivial,trivial⟩,⟨entX,trivial,trivial⟩⟩,⟨entX,⟨entX,trivial,trivial⟩,trivial⟩⟩⟩,⟨entX,⟨entX,⟨entX,⟨entX,trivial,trivial⟩,⟨entX,trivial,trivial⟩⟩,⟨entX,⟨entX,trivial,trivial⟩,trivial⟩⟩,⟨entX,⟨entX,⟨entX,trivial,trivial⟩,trivial⟩,⟨entX,⟨entX,trivial,trivial⟩,trivial⟩⟩⟩⟩⟩,⟨entX,⟨entX,⟨entX,⟨entX,⟨entX,⟨entX,trivial,trivial⟩,⟨entX,trivial,trivial⟩⟩,⟨entX,⟨entX,trivial,trivial⟩,trivial⟩⟩,⟨entX,⟨entX,⟨entX,trivial,trivial⟩,⟨entX,trivial,trivial⟩⟩,⟨entX,⟨entX,trivial,trivial⟩,trivial⟩⟩⟩,⟨entX,⟨entX,⟨entX,⟨entX,trivial,trivial⟩,⟨entX,trivial,trivial⟩⟩,⟨entX,⟨entX,trivial,trivial⟩,trivial⟩⟩,⟨entX,⟨entX,⟨entX,trivial,trivial⟩,trivial⟩,⟨entX,⟨entX,trivial,trivial⟩,trivial⟩⟩⟩⟩,⟨entX,⟨entX,⟨entX,⟨entX,⟨entX,trivial,trivial⟩,⟨entX,trivial,trivial⟩⟩,⟨entX,⟨entX,trivial,trivial⟩,trivial⟩⟩,⟨entX,⟨entX,⟨entX,trivial,trivial⟩,⟨entX,trivial,trivial⟩⟩,⟨entX,⟨entX,trivial,trivial⟩,trivial⟩⟩⟩,⟨entX,⟨entX,⟨entX,⟨entX,trivial,trivial⟩,⟨entX,trivial,trivial⟩⟩,⟨entX,⟨entX,trivial,trivial⟩,trivial⟩⟩,⟨entX,⟨entX,⟨entX,trivial,trivial⟩,trivial⟩,⟨entX,⟨entX,trivial,trivial⟩,trivial⟩⟩⟩⟩⟩⟩⟩
noncomputable def ftree:FTr:=(.node 151 Tryz.f151 (.node 95 Tryz.f95 (.node 50 Tryz.f50 (.node 19 Tryz.f19 (.node 13 Tryz.f13 (.node 10 Tryz.f10 (.node 9 Tryz.f9 (.node 3 Tryz.f3 .leaf .leaf) .leaf) (.node 12 Tryz.f12 (.node 11 Tryz.f11 .leaf .leaf) .leaf)) (.node 16 Tryz.f16 (.node 15 Tryz.f15 (.node 14 Tryz.f14 .leaf .leaf) .leaf) (.node 18 Tryz.f18 (.node 17 Tryz.f17 .leaf .leaf) .leaf))) (.node 44 Tryz.f44 (.node 41 Tryz.f41 (.node 21 Tryz.f21 (.node 20 Tryz.f20 .leaf .leaf) .leaf) (.node 43 Tryz.f43 (.node 42 Tryz.f42 .leaf .leaf) .leaf)) (.node 47 Tryz.f47 (.node 46 Tryz.f46 (.node 45 Tryz.f45 .leaf .leaf) .leaf) (.node 49 Tryz.f49 (.node 48 Tryz.f48 .leaf .leaf) .leaf)))) (.node 62 Tryz.f62 (.node 56 Tryz.f56 (.node 53 Tryz.f53 (.node 52 Tryz.f52 (.node 51 Tryz.f51 .leaf .leaf) .leaf) (.node 55 Tryz.f55 (.node 54 Tryz.f54 .leaf .leaf) .leaf)) (.node 59 Tryz.f59 (.node 58 Tryz.f58 (.node 57 Tryz.f57 .leaf .leaf) .leaf) (.node 61 Tryz.f61 (.node 60 Tryz.f60 .leaf .leaf) .leaf))) (.node 90 Tryz.f90 (.node 65 Tryz.f65 (.node 64 Tryz.f64 (.node 63 Tryz.f63 .leaf .leaf) .leaf) (.node 89 Tryz.f89 (.node 88 Tryz.f88 .leaf .leaf) .leaf)) (.node 93 Tryz.f93 (.node 92 Tryz.f92 (.node 91 Tryz.f91 .leaf .leaf) .leaf) (.node 94 Tryz.f94 .leaf .leaf))))) (.node 125 Tryz.f125 (.node 107 Tryz.f107 (.node 101 Tryz.f101 (.node 98 Tryz.f98 (.node 97 Tryz.f97 (.node 96 Tryz.f96 .leaf .leaf) .leaf) (.node 100 Tryz.f100 (.node 99 Tryz.f99 .leaf .leaf) .leaf)) (.node 104 Tryz.f104 (.node 103 Tryz.f103 (.node 102 Tryz.f102 .leaf .leaf) .leaf) (.node 106 Tryz.f106 (.node 105 Tryz.f105 .leaf .leaf) .leaf))) (.node 120 Tryz.f120 (.node 110 Tryz.f110 (.node 109 Tryz.f109 (.node 108 Tryz.f108 .leaf .leaf) .leaf) (.node 119 Tryz.f119 (.node 111 Tryz.f111 .leaf .leaf) .leaf)) (.node 123 Tryz.f123 (.node 122 Tryz.f122 (.node 121 Tryz.f121 .leaf .leaf) .leaf) (.node 124 Tryz.f124 .leaf .leaf)))) (.node 137 Tryz.f137 (.node 131 Tryz.f131 (.node 128 Tryz.f128 (.node 127 Tryz.f127 (.node 126 Tryz.f126 .leaf .leaf) .leaf) (.node 130 Tryz.f130 (.node 129 Tryz.f129 .leaf .leaf) .leaf)) (.node 134 Tryz.f134 (.node 133 Tryz.f133 (.node 132 Tryz.f132 .leaf .leaf) .leaf) (.node 136 Tryz.f136 (.node 135 Tryz.f135 .leaf .leaf) .leaf))) (.node 146 Tryz.f146 (.node 143 Tryz.f143 (.node 142 Tryz.f142 (.node 141 Tryz.f141 .leaf .leaf) .leaf) (.node 145 Tryz.f145 (.node 144 Tryz.f144 .leaf .leaf) .leaf)) (.node 149 Tryz.f149 (.node 148 Tryz.f148 (.node 147 Tryz.f147 .leaf .leaf) .leaf) (.node 150 Tryz.f150 .leaf .leaf)))))) (.node 200 Tryz.f200 (.node 177 Tryz.f177 (.node 165 Tryz.f165 (.node 157 Tryz.f157 (.node 154 Tryz.f154 (.node 153 Tryz.f153 (.node 152 Tryz.f152 .leaf .leaf) .leaf) (.node 156 Tryz.f156 (.node 155 Tryz.f155 .leaf .leaf) .leaf)) (.node 160 Tryz.f160 (.node 159 Tryz.f159 (.node 158 Tryz.f158 .leaf .leaf) .leaf) (.node 162 Tryz.f162 (.node 161 Tryz.f161 .leaf .leaf) .leaf))) (.node 171 Tryz.f171 (.node 168 Tryz.f168 (.node 167 Tryz.f167 (.node 166 Tryz.f166 .leaf .leaf) .leaf) (.node 170 Tryz.f170 (.node 169 Tryz.f169 .leaf .leaf) .leaf)) (.node 174 Tryz.f174 (.node 173 Tryz.f173 (.node 172 Tryz.f172 .leaf .leaf) .leaf) (.node 176 Tryz.f176 (.node 175 Tryz.f175 .leaf .leaf) .leaf)))) (.node 189 Tryz.f189 (.node 183 Tryz.f183 (.node 180 Tryz.f180 (.node 179 Tryz.f179 (.node 178 Tryz.f178 .leaf .leaf) .leaf) (.node 182 Tryz.f182 (.node 181 Tryz.f181 .leaf .leaf) .leaf)) (.node 186 Tryz.f186 (.node 185 Tryz.f185 (.node 184 Tryz.f184 .leaf .leaf) .leaf) (.node 188 Tryz.f188 (.node 187 Tryz.f187 .leaf .leaf) .leaf))) (.node 195 Tryz.f195 (.node 192 Tryz.f192 (.node 191 Tryz.f191 (.node 190 Tryz.f190 .leaf .leaf) .leaf) (.node 194 Tryz.f194 (.node 193 Tryz.f193 .leaf .leaf) .leaf)) (.node 198 Tryz.f198 (.node 197 Tryz.f197 (.node 196 Tryz.f196 .leaf .leaf) .leaf) (.node 199 Tryz.f199 .leaf .leaf))))) (.node 223 Tryz.f223 (.node 212 Tryz.f212 (.node 206 Tryz.f206 (.node 203 Tryz.f203 (.node 202 Tryz.f202 (.node 201 Tryz.f201 .leaf .leaf) .leaf) (.node 205 Tryz.f205 (.node 204 Tryz.f204 .leaf .leaf) .leaf)) (.node 209 Tryz.f209 (.node 208 Tryz.f208 (.node 207 Tryz.f207 .leaf .leaf) .leaf) (.node 211 Tryz.f211 (.node 210 Tryz.f210 .leaf .leaf) .leaf))) (.node 218 Tryz.f218 (.node 215 Tryz.f215 (.node 214 Tryz.f214 (.node 213 Tryz.f213 .leaf .leaf) .leaf) (.node 217 Tryz.f217 (.node 216 Tryz.f216 .leaf .leaf) .leaf)) (.node 221 Tryz.f221 (.node 220 Tryz.f220 (.node 219 Tryz.f219 .leaf .leaf) .leaf) (.node 222 Tryz.f222 .leaf .leaf)))) (.node 235 Tryz.f235 (.node 229 Tryz.f229 (.node 226 Tryz.f226 (.node 225 Tryz.f225 (.node 224 Tryz.f224 .leaf .leaf) .leaf) (.node 228 Tryz.f228 (.node 227 Tryz.f227 .leaf .leaf) .leaf)) (.node 232 Tryz.f232 (.node 231 Tryz.f231 (.node 230 Tryz.f230 .leaf .leaf) .leaf) (.node 234 Tryz.f234 (.node 233 Tryz.f233 .leaf .leaf) .leaf))) (.node 241 Tryz.f241 (.node 238 Tryz.f238 (.node 237 Tryz.f237 (.node 236 Tryz.f236 .leaf .leaf) .leaf) (.node 240 Tryz.f240 (.node 239 Tryz.f239 .leaf .leaf) .leaf)) (.node 244 Tryz.f244 (.node 243 Tryz.f243 (.node 242 Tryz.f242 .leaf .leaf) .leaf) (.node 245 Tryz.f245 .leaf .leaf)))))))
noncomputable def FT:FuncId→Option Func:=ftree.get
theorem fokX {P:Program} {k:Nat} {f:Func} (h1:P.funcs[k]?=some f:=by kernel_rfl) (h2:(f.name == "runtime.NumGoroutine")=false:=by kernel_rfl):FnOk P k f:=⟨h1,h2⟩
theorem ftOk:FtOk Tryz.prog FT:=Zby ⟨fokX,⟨fokX,⟨fokX,⟨fokX,⟨fokX,⟨fokX,⟨fokX,⟨fokX,trivial,trivial⟩,trivial⟩,⟨fokX,⟨fokX,trivial,trivial⟩,trivial⟩⟩,⟨fokX,⟨fokX,⟨fokX,trivial,trivial⟩,trivial⟩,⟨fokX,⟨fokX,trivial,trivial⟩,trivial⟩⟩⟩,⟨fokX,⟨fokX,⟨fokX,⟨fokX,trivial,trivial⟩,trivial⟩,⟨fokX,⟨fokX,trivial,trivial⟩,trivial⟩⟩,⟨fokX,⟨fokX,⟨fokX,trivial,trivial⟩,trivial⟩,⟨fokX,⟨fokX,trivial,trivial⟩,trivial⟩⟩⟩⟩,⟨fokX,⟨fokX,⟨fokX,⟨fokX,⟨fokX,trivial,trivial⟩,trivial⟩,⟨fokX,⟨fokX,trivial,trivial⟩,trivial⟩⟩,⟨fokX,⟨fokX,⟨fokX,trivial,trivial⟩,trivial⟩,⟨fokX,⟨fokX,trivial,trivial⟩,trivial⟩⟩⟩,⟨fokX,⟨fokX,⟨fokX,⟨fokX,trivial,trivial⟩,trivial⟩,⟨fokX,⟨fokX,trivial,trivial⟩,trivial⟩⟩,⟨fokX,⟨fokX,⟨fokX,trivial,trivial⟩,trivial⟩,⟨fokX,trivial,trivial⟩⟩⟩⟩⟩,⟨fokX,⟨fokX,⟨fokX,⟨fokX,⟨fokX,⟨fokX,trivial,trivial⟩,trivial⟩,⟨fokX,⟨fokX,trivial,trivial⟩,trivial⟩⟩,⟨fokX,⟨fokX,⟨fokX,trivial,trivial⟩,trivial⟩,⟨fokX,⟨fokX,trivial,trivial⟩,trivial⟩⟩⟩,⟨fokX,⟨fokX,⟨fokX,⟨fokX,trivial,trivial⟩,trivial⟩,⟨fokX,⟨fokX,trivial,trivial⟩,trivial⟩⟩,⟨fokX,⟨fokX,⟨fokX,trivial,trivial⟩,trivial⟩,⟨fokX,trivial,trivial⟩⟩⟩⟩,⟨fokX,⟨fokX,⟨fokX,⟨fokX,⟨fokX,trivial,trivial⟩,trivial⟩,⟨fokX,⟨fokX,trivial,trivial⟩,trivial⟩⟩,⟨fokX,⟨fokX,⟨fokX,trivial,trivial⟩,trivial⟩,⟨fokX,⟨fokX,trivial,trivial⟩,trivial⟩⟩⟩,⟨fokX,⟨fokX,⟨fokX,⟨fokX,trivial,trivial⟩,trivial⟩,⟨fokX,⟨fokX,trivial,trivial⟩,trivial⟩⟩,⟨fokX,⟨fokX,⟨fokX,trivial,trivial⟩,trivial⟩,⟨fokX,trivial,trivial⟩⟩⟩⟩⟩⟩,⟨fokX,⟨fokX,⟨fokX,⟨fokX,⟨fokX,⟨fokX,⟨fokX,trivial,trivial⟩,trivial⟩,⟨fokX,⟨fokX,trivial,trivial⟩,trivial⟩⟩,⟨fokX,⟨fokX,⟨fokX,trivial,trivial⟩,trivial⟩,⟨fokX,⟨fokX,trivial,trivial⟩,trivial⟩⟩⟩,⟨fokX,⟨fokX,⟨fokX,⟨fokX,trivial,trivial⟩,trivial⟩,⟨fokX,⟨fokX,trivial,trivial⟩,trivial⟩⟩,⟨fokX,⟨fokX,⟨fokX,trivial,trivial⟩,trivial⟩,⟨fokX,⟨fokX,trivial,trivial⟩,trivial⟩⟩⟩⟩,⟨fokX,⟨fokX,⟨fokX,⟨fokX,⟨fokX,trivial,trivial⟩,trivial⟩,⟨fokX,⟨fokX,trivial,trivial⟩,trivial⟩⟩,⟨fokX,⟨fokX,⟨fokX,trivial,trivial⟩,trivial⟩,⟨fokX,⟨fokX,trivial,trivial⟩,trivial⟩⟩⟩,⟨fokX,⟨fokX,⟨fokX,⟨fokX,trivial,trivial⟩,trivial⟩,⟨fokX,⟨fokX,trivial,trivial⟩,trivial⟩⟩,⟨fokX,⟨fokX,⟨fokX,trivial,trivial⟩,trivial⟩,⟨fokX,trivial,trivial⟩⟩⟩⟩⟩,⟨fokX,⟨fokX,⟨fokX,⟨fokX,⟨fokX,⟨fokX,trivial,trivial⟩,trivial⟩,⟨fokX,⟨fokX,trivial,trivial⟩,trivial⟩⟩,⟨fokX,⟨fokX,⟨fokX,trivial,trivial⟩,trivial⟩,⟨fokX,⟨fokX,trivial,trivial⟩,trivial⟩⟩⟩,⟨fokX,⟨fokX,⟨fokX,⟨fokX,trivial,trivial⟩,trivial⟩,⟨fokX,⟨fokX,trivial,trivial⟩,trivial⟩⟩,⟨fokX,⟨fokX,⟨fokX,trivial,trivial⟩,trivial⟩,⟨fokX,trivial,trivial⟩⟩⟩⟩,⟨fokX,⟨fokX,⟨fokX,⟨fokX,⟨fokX,trivial,trivial⟩,trivial⟩,⟨fokX,⟨fokX,trivial,trivial⟩,trivial⟩⟩,⟨fokX,⟨fokX,⟨fokX,trivial,trivial⟩,trivial⟩,⟨fokX,⟨fokX,trivial,trivial⟩,trivial⟩⟩⟩,⟨fokX,⟨fokX,⟨fokX,⟨fokX,trivial,trivial⟩,trivial⟩,⟨fokX,⟨fokX,trivial,trivial⟩,trivial⟩⟩,⟨fokX,⟨fokX,⟨fokX,trivial,trivial⟩,trivial⟩,⟨fokX,trivial,trivial⟩⟩⟩⟩⟩⟩⟩
theorem mixed:Tryz.prog.follows .mixedOrders=true:=by kernel_rfl
def ti1:TI:=⟨.func,1,8,[.raw .nilFunc],none,false⟩
def ti2:TI:=⟨.int .i64,1,8,[.i .i64 0],none,false⟩
def ti4:TI:=⟨.bool,1,1,[.b false],none,false⟩
def ti5:TI:=⟨.int .u8,1,1,[.i .u8 0],none,false⟩
def ti7:TI:=⟨.struct [(0,2),(1,3),(2,4),(3,6)],4,24,[.i .i64 0,.i .i64 0,.b false,.i .u8 0],none,false⟩
def ti9:TI:=⟨.str,1,16,[.s []],none,false⟩
def ti12:TI:=⟨.int .u64,1,8,[.i .u64 0],none,false⟩
def ti13:TI:=⟨.struct [(0,9),(1,12)],2,24,[.s [],.i .u64 0],none,false⟩
def ti15:TI:=⟨.ptr 280,1,8,[.raw (.pointer none)],none,false⟩
def ti16:TI:=⟨.ptr 283,1,8,[.raw (.pointer none)],none,false⟩
def ti17:TI:=⟨.ptr 290,1,8,[.raw (.pointer none)],none,false⟩
def ti18:TI:=⟨.struct [(0,17)],1,8,[.raw (.pointer none)],none,false⟩
def ti20:TI:=⟨.iface false,1,16,[.raw .nilIface],none,false⟩
def ti21:TI:=⟨.int .i32,1,4,[.i .i32 0],none,false⟩
def ti22:TI:=⟨.array 3 3,3,24,[.ints .i64 3 [0,0,0]],some [.i .i64,.i .i64,.i .i64],false⟩
def ti23:TI:=⟨.array 8 3,8,64,[.ints .i64 8 [0,0,0,0,0,0,0,0]],some [.i .i64,.i .i64,.i .i64,.i .i64,.i .i64,.i .i64,.i .i64,.i .i64],false⟩
def ti24:TI:=⟨.array 3 23,24,192,[.arr 3 (List Int) [0,0,0,0,0,0,0,0] 8 (fun x=>[.ints .i64 8 x]) [[0,0,0,0,0,0,0,0],[0,0,0,0,0,0,0,0],[0,0,0,0,0,0,0,0]]],some [.i .i64,.i .i64,.i .i64,.i .i64,.i .i64,.i .i64,.i .i64,.i .i64,.i .i64,.i .i64,.i .i64,.i .i64,.i .i64,.i .i64,.i .i64,.i .i64,.i .i64,.i .i64,.i .i64,.i .i64,.i .i64,.i .i64,.i .i64,.i .i64],false⟩
def ti25:TI:=⟨.slice 38,1,24,[.nils],none,false⟩
def ti26:TI:=⟨.slice 79,1,24,[.nils],none,false⟩
def ti27:TI:=⟨.struct [(0,3),(1,9),(2,22),(5,24),(29,25),(30,3),(31,26)],32,296,[.i .i64 0,.s [],.ints .i64 3 [0,0,0],.arr 3 (List Int) [0,0,0,0,0,0,0,0] 8 (fun x=>[.ints .i64 8 x]) [[0,0,0,0,0,0,0,0],[0,0,0,0,0,0,0,0],[0,0,0,0,0,0,0,0]],.nils,.i .i64 0,.nils],none,false⟩
def ti28:TI:=⟨.struct [(0,3),(1,9),(2,22),(5,24),(29,25),(30,3),(31,26)],32,296,[.i .i64 0,.s [],.ints .i64 3 [0,0,0],.arr 3 (List Int) [0,0,0,0,0,0,0,0] 8 (fun x=>[.ints .i64 8 x]) [[0,0,0,0,0,0,0,0],[0,0,0,0,0,0,0,0],[0,0,0,0,0,0,0,0]],.nils,.i .i64 0,.nils],none,false⟩
def ti29:TI:=⟨.slice 44,1,24,[.nils],none,false⟩
def ti33:TI:=⟨.ptr 106,1,8,[.raw (.pointer none)],none,false⟩
def ti36:TI:=⟨.slice 37,1,24,[.nils],none,false⟩
def ti37:TI:=⟨.ptr 41,1,8,[.raw (.pointer none)],none,false⟩
def ti38:TI:=⟨.slice 56,1,24,[.nils],none,false⟩
def ti39:TI:=⟨.slice 3,1,24,[.nils],none,false⟩
def ti40:TI:=⟨.struct [(0,38),(1,23),(9,3),(10,39)],11,120,[.nils,.ints .i64 8 [0,0,0,0,0,0,0,0],.i .i64 0,.nils],none,false⟩
def ti43:TI:=⟨.struct [(0,3),(1,3)],2,16,[.i .i64 0,.i .i64 0],some [.i .i64,.i .i64],false⟩
def ti48:TI:=⟨.struct [(0,3),(1,3),(2,3),(3,3),(4,47),(6,4),(7,4),(8,3),(9,3),(10,4),(11,4),(12,4),(13,3),(14,3)],15,96,[.i .i64 0,.i .i64 0,.i .i64 0,.i .i64 0,.i .i64 0,.i .i64 0,.b false,.b false,.i .i64 0,.i .i64 0,.b false,.b false,.b false,.i .i64 0,.i .i64 0],some [.i .i64,.i .i64,.i .i64,.i .i64,.i .i64,.i .i64,.b,.b,.i .i64,.i .i64,.b,.b,.b,.i .i64,.i .i64],false⟩
def ti52:TI:=⟨.slice 49,1,24,[.nils],none,false⟩
def ti55:TI:=⟨.struct [(0,3),(1,3),(2,3),(3,3),(4,3),(5,3),(6,3),(7,3),(8,3),(9,3),(10,4),(11,4),(12,4),(13,3),(14,3),(15,3),(16,4)],17,120,[.i .i64 0,.i .i64 0,.i .i64 0,.i .i64 0,.i .i64 0,.i .i64 0,.i .i64 0,.i .i64 0,.i .i64 0,.i .i64 0,.b false,.b false,.b false,.i .i64 0,.i .i64 0,.i .i64 0,.b false],some [.i .i64,.i .i64,.i .i64,.i .i64,.i .i64,.i .i64,.i .i64,.i .i64,.i .i64,.i .i64,.b,.b,.b,.i .i64,.i .i64,.i .i64,.b],false⟩
def ti78:TI:=⟨.struct [(0,3),(1,3),(2,3),(3,3),(4,3)],5,40,[.i .i64 0,.i .i64 0,.i .i64 0,.i .i64 0,.i .i64 0],some [.i .i64,.i .i64,.i .i64,.i .i64,.i .i64],false⟩
def ti82:TI:=⟨.slice 139,1,24,[.nils],none,false⟩
def ti83:TI:=⟨.struct [(0,33),(1,22),(4,82)],5,56,[.raw (.pointer none),.ints .i64 3 [0,0,0],.nils],none,false⟩
def ti98:TI:=⟨.struct [(0,9),(1,94),(2,95),(3,96),(4,97)],5,48,[.s [],.raw .nilFunc,.raw .nilFunc,.raw .nilFunc,.raw .nilFunc],none,false⟩
def ti103:TI:=⟨.slice 23,1,24,[.nils],none,false⟩
def ti104:TI:=⟨.slice 109,1,24,[.nils],none,false⟩
def ZaP:TI:=⟨.struct [(0,104)],1,24,[.nils],none,false⟩
def ZaQ:TI:=⟨.struct [(0,38),(1,3),(2,23)],10,96,[.nils,.i .i64 0,.ints .i64 8 [0,0,0,0,0,0,0,0]],none,false⟩
def ti113:TI:=⟨.ptr 109,1,8,[.raw (.pointer none)],none,false⟩
def ti137:TI:=⟨.struct [(0,47),(2,3)],3,24,[.i .i64 0,.i .i64 0,.i .i64 0],some [.i .i64,.i .i64,.i .i64],false⟩
def ti139:TI:=⟨.slice 138,1,24,[.nils],none,false⟩
def ti142:TI:=⟨.slice 146,1,24,[.nils],none,false⟩
def ti145:TI:=⟨.struct [(0,3),(1,9),(2,3),(3,3)],4,40,[.i .i64 0,.s [],.i .i64 0,.i .i64 0],some [.i .i64,.s,.i .i64,.i .i64],false⟩
def ti173:TI:=⟨.slice 9,1,24,[.nils],none,false⟩
def ti177:TI:=⟨.struct [(0,173),(1,9),(2,175),(3,176)],4,56,[.nils,.s [],.raw .nilFunc,.raw .nilFunc],none,false⟩
def ti209:TI:=⟨.struct [(0,142),(1,3)],2,32,[.nils,.i .i64 0],none,false⟩
def ti217:TI:=⟨.array 2 3,2,16,[.ints .i64 2 [0,0]],some [.i .i64,.i .i64],false⟩
def ti219:TI:=⟨.array 24 5,24,24,[.ints .u8 24 [0,0,0,0,0,0,0,0,0,0,0,0,0,0,0,0,0,0,0,0,0,0,0,0]],some [.i .u8,.i .u8,.i .u8,.i .u8,.i .u8,.i .u8,.i .u8,.i .u8,.i .u8,.i .u8,.i .u8,.i .u8,.i .u8,.i .u8,.i .u8,.i .u8,.i .u8,.i .u8,.i .u8,.i .u8,.i .u8,.i .u8,.i .u8,.i .u8],false⟩
def ZdJ:TI:=⟨.int .u32,1,4,[.i .u32 0],none,false⟩
def ti249:TI:=⟨.slice 255,1,24,[.nils],none,false⟩
def ti253:TI:=⟨.int .u16,1,2,[.i .u16 0],none,false⟩
def ti254:TI:=⟨.struct [(0,253),(1,253),(2,253)],3,6,[.i .u16 0,.i .u16 0,.i .u16 0],some [.i .u16,.i .u16,.i .u16],false⟩
def ZdK:TI:=⟨.ptr 5,1,8,[.raw (.pointer none)],none,false⟩
def Z7j:TI:=⟨.struct [(0,17),(1,17),(2,17),(3,9)],4,40,[.raw (.pointer none),.raw (.pointer none),.raw (.pointer none),.s []],none,false⟩
def Z7k:TI:=⟨.struct [(0,12),(1,12),(2,224),(3,284),(4,5),(5,5),(6,285),(7,286),(8,267),(9,287),(10,288)],11,48,[.i .u64 0,.i .u64 0,.i .u32 0,.i .u8 0,.i .u8 0,.i .u8 0,.i .u8 0,.raw .nilFunc,.raw (.pointer none),.i .i32 0,.i .i32 0],none,false⟩
def tree:Tr:=(.node 64 ti1 (.node 31 ti2 (.node 16 ti16 (.node 8 ti7 (.node 4 ti4 (.node 2 ti2 (.node 1 ti1 .leaf .leaf) (.node 3 ti2 .leaf .leaf)) (.node 6 ti5 (.node 5 ti5 .leaf .leaf) (.node 7 ti7 .leaf .leaf))) (.node 12 ti12 (.node 10 ti9 (.node 9 ti9 .leaf .leaf) (.node 11 ti9 .leaf .leaf)) (.node 14 ti13 (.node 13 ti13 .leaf .leaf) (.node 15 ti15 .leaf .leaf)))) (.node 24 ti24 (.node 20 ti20 (.node 18 ti18 (.node 17 ti17 .leaf .leaf) (.node 19 ti18 .leaf .leaf)) (.node 22 ti22 (.node 21 ti21 .leaf .leaf) (.node 23 ti23 .leaf .leaf))) (.node 28 ti28 (.node 26 ti26 (.node 25 ti25 .leaf .leaf) (.node 27 ti27 .leaf .leaf)) (.node 30 ti1 (.node 29 ti29 .leaf .leaf) .leaf)))) (.node 47 ti43 (.node 39 ti39 (.node 35 ti1 (.node 33 ti33 (.node 32 ti1 .leaf .leaf) (.node 34 ti1 .leaf .leaf)) (.node 37 ti37 (.node 36 ti36 .leaf .leaf) (.node 38 ti38 .leaf .leaf))) (.node 44 ti43 (.node 41 ti40 (.node 40 ti40 .leaf .leaf) (.node 43 ti43 .leaf .leaf)) (.node 46 ti43 (.node 45 ti1 .leaf .leaf) .leaf))) (.node 56 ti55 (.node 51 ti1 (.node 49 ti48 (.node 48 ti48 .leaf .leaf) (.node 50 ti1 .leaf .leaf)) (.node 54 ti1 (.node 52 ti52 .leaf .leaf) (.node 55 ti55 .leaf .leaf))) (.node 61 ti1 (.node 59 ti1 (.node 58 ti1 .leaf .leaf) (.node 60 ti1 .leaf .leaf)) (.node 63 ti1 (.node 62 ti1 .leaf .leaf) .leaf))))) (.node 142 ti142 (.node 104 ti104 (.node 88 ti1 (.node 81 ti1 (.node 78 ti78 (.node 65 ti1 .leaf .leaf) (.node 79 ti78 .leaf .leaf)) (.node 83 ti83 (.node 82 ti82 .leaf .leaf) (.node 84 ti83 .leaf .leaf))) (.node 97 ti1 (.node 95 ti1 (.node 94 ti1 .leaf .leaf) (.node 96 ti1 .leaf .leaf)) (.node 102 ti1 (.node 98 ti98 .leaf .leaf) (.node 103 ti103 .leaf .leaf)))) (.node 112 ti1 (.node 108 ZaQ (.node 106 ZaP (.node 105 ZaP .leaf .leaf) (.node 107 ti1 .leaf .leaf)) (.node 110 ti1 (.node 109 ZaQ .leaf .leaf) (.node 111 ti1 .leaf .leaf))) (.node 137 ti137 (.node 132 ti1 (.node 113 ti113 .leaf .leaf) (.node 136 ti1 .leaf .leaf)) (.node 139 ti139 (.node 138 ti137 .leaf .leaf) .leaf)))) (.node 249 ti249 (.node 178 ti177 (.node 173 ti173 (.node 146 ti145 (.node 145 ti145 .leaf .leaf) (.node 147 ti1 .leaf .leaf)) (.node 176 ti1 (.node 175 ti1 .leaf .leaf) (.node 177 ti177 .leaf .leaf))) (.node 219 ti219 (.node 209 ti209 (.node 194 ti1 .leaf .leaf) (.node 217 ti217 .leaf .leaf)) (.node 224 ZdJ (.node 220 ti1 .leaf .leaf) .leaf))) (.node 284 ti5 (.node 267 ZdK (.node 254 ti254 (.node 253 ti253 .leaf .leaf) (.node 255 ti254 .leaf .leaf)) (.node 279 Z7j (.node 273 ti1 .leaf .leaf) (.node 280 Z7j .leaf .leaf))) (.node 288 ti21 (.node 286 ti1 (.node 285 ti5 .leaf .leaf) (.node 287 ti21 .leaf .leaf)) (.node 290 Z7k (.node 289 Z7k .leaf .leaf) .leaf))))))
def T:Tb:=tree.get
theorem ent24:EntOk Tryz.prog T 24 ti24:=⟨by kernel_rfl,by simp [ti24,OkL,Ok,isUnit,Z25,wdL,wd] <;> decide,by kernel_rfl,by kernel_rfl,by kernel_rfl,by first | exact trivial | exact ⟨by kernel_rfl,by kernel_rfl,rfl⟩,by first | trivial | exact ⟨by kernel_rfl,by kernel_rfl⟩⟩
theorem ent27:EntOk Tryz.prog T 27 ti27:=⟨by kernel_rfl,by simp [ti27,OkL,Ok,isUnit,Z25,wdL,wd] <;> decide,by kernel_rfl,by kernel_rfl,by kernel_rfl,by first | exact trivial | exact ⟨by kernel_rfl,by kernel_rfl,rfl⟩,by first | trivial | exact ⟨by kernel_rfl,by kernel_rfl⟩⟩
theorem ent28:EntOk Tryz.prog T 28 ti28:=⟨by kernel_rfl,by simp [ti28,OkL,Ok,isUnit,Z25,wdL,wd] <;> decide,by kernel_rfl,by kernel_rfl,by kernel_rfl,by first | exact trivial | exact ⟨by kernel_rfl,by kernel_rfl,rfl⟩,by first | trivial | exact ⟨by kernel_rfl,by kernel_rfl⟩⟩
theorem Zc:TabOk Tryz.prog T:=by
 refine Z34 ?_
 exact ⟨entX,⟨entX,⟨entX,⟨entX,⟨entX,⟨entX,⟨entX,trivial,trivial⟩,⟨entX,trivial,trivial⟩⟩,⟨entX,⟨entX,trivial,trivial⟩,⟨entX,trivial,trivial⟩⟩⟩,⟨entX,⟨entX,⟨entX,trivial,trivial⟩,⟨entX,trivial,trivial⟩⟩,⟨entX,⟨entX,trivial,trivial⟩,⟨entX,trivial,trivial⟩⟩⟩⟩,⟨ent24,⟨entX,⟨entX,⟨entX,trivial,trivial⟩,⟨entX,trivial,trivial⟩⟩,⟨entX,⟨entX,trivial,trivial⟩,⟨entX,trivial,trivial⟩⟩⟩,⟨ent28,⟨entX,⟨entX,trivial,trivial⟩,⟨ent27,trivial,trivial⟩⟩,⟨entX,⟨entX,trivial,trivial⟩,trivial⟩⟩⟩⟩,⟨entX,⟨entX,⟨entX,⟨entX,⟨entX,trivial,trivial⟩,⟨entX,trivial,trivial⟩⟩,⟨entX,⟨entX,trivial,trivial⟩,⟨entX,trivial,trivial⟩⟩⟩,⟨entX,⟨entX,⟨entX,trivial,trivial⟩,⟨entX,trivial,trivial⟩⟩,⟨entX,⟨entX,trivial,trivial⟩,trivial⟩⟩⟩,⟨entX,⟨entX,⟨entX,⟨entX,trivial,trivial⟩,⟨entX,trivial,trivial⟩⟩,⟨entX,⟨entX,trivial,trivial⟩,⟨entX,trivial,trivial⟩⟩⟩,⟨entX,⟨entX,⟨entX,trivial,trivial⟩,⟨entX,trivial,trivial⟩⟩,⟨entX,⟨entX,trivial,trivial⟩,trivial⟩⟩⟩⟩⟩,⟨entX,⟨entX,⟨entX,⟨entX,⟨entX,⟨entX,trivial,trivial⟩,⟨entX,trivial,trivial⟩⟩,⟨entX,⟨entX,trivial,trivial⟩,⟨entX,trivial,trivial⟩⟩⟩,⟨entX,⟨entX,⟨entX,trivial,trivial⟩,⟨entX,trivial,trivial⟩⟩,⟨entX,⟨entX,trivial,trivial⟩,⟨entX,trivial,trivial⟩⟩⟩⟩,⟨entX,⟨entX,⟨entX,⟨entX,trivial,trivial⟩,⟨entX,trivial,trivial⟩⟩,⟨entX,⟨entX,trivial,trivial⟩,⟨entX,trivial,trivial⟩⟩⟩,⟨entX,⟨entX,⟨entX,trivial,trivial⟩,⟨entX,trivial,trivial⟩⟩,⟨entX,⟨entX,trivial,trivial⟩,trivial⟩⟩⟩⟩,⟨entX,⟨entX,⟨entX,⟨entX,⟨entX,trivial,trivial⟩,⟨entX,trivial,trivial⟩⟩,⟨entX,⟨entX,trivial,trivial⟩,⟨entX,trivial,trivial⟩⟩⟩,⟨entX,⟨entX,⟨entX,trivial,trivial⟩,⟨entX,trivial,trivial⟩⟩,⟨entX,⟨entX,trivial,trivial⟩,trivial⟩⟩⟩,⟨entX,⟨entX,⟨entX,⟨entX,trivial,trivial⟩,⟨entX,trivial,trivial⟩⟩,⟨entX,⟨entX,trivial,trivial⟩,⟨entX,trivial,trivial⟩⟩⟩,⟨entX,⟨entX,⟨entX,trivial,trivial⟩,⟨entX,trivial,trivial⟩⟩,⟨entX,⟨entX,trivial,trivial⟩,trivial⟩⟩⟩⟩⟩⟩
def treeP:Tr:=(.node 39 ti39 (.node 18 ti18 (.node 9 ti9 (.node 5 ti5 (.node 3 ti2 (.node 2 ti2 (.node 1 ti1 .leaf .leaf) .leaf) (.node 4 ti4 .leaf .leaf)) (.node 7 ti7 (.node 6 ti5 .leaf .leaf) (.node 8 ti7 .leaf .leaf))) (.node 14 ti13 (.node 12 ti12 (.node 11 ti9 (.node 10 ti9 .leaf .leaf) .leaf) (.node 13 ti13 .leaf .leaf)) (.node 16 ti16 (.node 15 ti15 .leaf .leaf) (.node 17 ti17 .leaf .leaf)))) (.node 27 ti27 (.node 23 ti23 (.node 21 ti21 (.node 20 ti20 (.node 19 ti18 .leaf .leaf) .leaf) (.node 22 ti22 .leaf .leaf)) (.node 25 ti25 (.node 24 ti24 .leaf .leaf) (.node 26 ti26 .leaf .leaf))) (.node 33 ti33 (.node 29 ti29 (.node 28 ti27 .leaf .leaf) (.node 31 ti2 .leaf .leaf)) (.node 37 ti37 (.node 36 tiF36 .leaf .leaf) (.node 38 ti38 .leaf .leaf))))) (.node 104 ti104 (.node 49 ti48 (.node 44 ti43 (.node 42 ti1 (.node 41 ti40 (.node 40 ti40 .leaf .leaf) .leaf) (.node 43 ti43 .leaf .leaf)) (.node 47 ti43 (.node 46 ti43 .leaf .leaf) (.node 48 ti48 .leaf .leaf))) (.node 56 ti55 (.node 52 ti52 (.node 51 ti1 .leaf .leaf) (.node 55 ti55 .leaf .leaf)) (.node 78 ti78 (.node 77 ti1 .leaf .leaf) (.node 79 ti78 .leaf .leaf)))) (.node 280 Z7j (.node 112 ti1 (.node 108 ZaQ (.node 106 ZaP (.node 105 ZaP .leaf .leaf) .leaf) (.node 109 ZaQ .leaf .leaf)) (.node 267 ZdK (.node 224 ZdJ .leaf .leaf) (.node 279 Z7j .leaf .leaf))) (.node 287 ti21 (.node 285 ti5 (.node 284 ti5 .leaf .leaf) (.node 286 ti1 .leaf .leaf)) (.node 289 Z7k (.node 288 ti21 .leaf .leaf) (.node 290 Z7k .leaf .leaf))))))
def TP:Tb:=treeP.get
theorem entP24:EntOk Tryz.prog TP 24 ti24:=⟨by kernel_rfl,by simp [ti24,OkL,Ok,isUnit,Z25,wdL,wd] <;> decide,by kernel_rfl,by kernel_rfl,by kernel_rfl,by first | exact trivial | exact ⟨by kernel_rfl,by kernel_rfl,rfl⟩,by first | trivial | exact ⟨by kernel_rfl,by kernel_rfl⟩⟩
theorem entP27:EntOk Tryz.prog TP 27 ti27:=⟨by kernel_rfl,by simp [ti27,OkL,Ok,isUnit,Z25,wdL,wd] <;> decide,by kernel_rfl,by kernel_rfl,by kernel_rfl,by first | exact trivial | exact ⟨by kernel_rfl,by kernel_rfl,rfl⟩,by first | trivial | exact ⟨by kernel_rfl,by kernel_rfl⟩⟩
theorem entP28:EntOk Tryz.prog TP 28 ti27:=⟨by kernel_rfl,by simp [ti27,OkL,Ok,isUnit,Z25,wdL,wd] <;> decide,by kernel_rfl,by kernel_rfl,by kernel_rfl,by first | exact trivial | exact ⟨by kernel_rfl,by kernel_rfl,rfl⟩,by first | trivial | exact ⟨by kernel_rfl,by kernel_rfl⟩⟩
theorem Zh:TabOk Tryz.prog TP:=by
 refine Z34 ?_
 exact ⟨entX,⟨entX,⟨entX,⟨entX,⟨entX,⟨entX,⟨entX,trivial,trivial⟩,trivial⟩,⟨entX,trivial,trivial⟩⟩,⟨entX,⟨entX,trivial,trivial⟩,⟨entX,trivial,trivial⟩⟩⟩,⟨entX,⟨entX,⟨entX,⟨entX,trivial,trivial⟩,trivial⟩,⟨entX,trivial,trivial⟩⟩,⟨entX,⟨entX,trivial,trivial⟩,⟨entX,trivial,trivial⟩⟩⟩⟩,⟨entP27,⟨entX,⟨entX,⟨entX,⟨entX,trivial,trivial⟩,trivial⟩,⟨entX,trivial,trivial⟩⟩,⟨entX,⟨entP24,trivial,trivial⟩,⟨entX,trivial,trivial⟩⟩⟩,⟨entX,⟨entX,⟨entP28,trivial,trivial⟩,⟨entX,trivial,trivial⟩⟩,⟨entX,⟨entX,trivial,trivial⟩,⟨entX,trivial,trivial⟩⟩⟩⟩⟩,⟨entX,⟨entX,⟨entX,⟨entX,⟨entX,⟨entX,trivial,trivial⟩,trivial⟩,⟨entX,trivial,trivial⟩⟩,⟨entX,⟨entX,trivial,trivial⟩,⟨entX,trivial,trivial⟩⟩⟩,⟨entX,⟨entX,⟨entX,trivial,trivial⟩,⟨entX,trivial,trivial⟩⟩,⟨entX,⟨entX,trivial,trivial⟩,⟨entX,trivial,trivial⟩⟩⟩⟩,⟨entX,⟨entX,⟨entX,⟨entX,⟨entX,trivial,trivial⟩,trivial⟩,⟨entX,trivial,trivial⟩⟩,⟨entX,⟨entX,trivial,trivial⟩,⟨entX,trivial,trivial⟩⟩⟩,⟨entX,⟨entX,⟨entX,trivial,trivial⟩,⟨entX,trivial,trivial⟩⟩,⟨entX,⟨entX,trivial,trivial⟩,⟨entX,trivial,trivial⟩⟩⟩⟩⟩⟩
def tiM27:TI:=⟨.struct [(0,3),(1,9),(2,22),(5,24),(29,25),(30,3),(31,26)],32,296,[.i .i64 0,.s [],.i .i64 0,.i .i64 0,.i .i64 0,.i .i64 0,.i .i64 0,.i .i64 0,.i .i64 0,.i .i64 0,.i .i64 0,.i .i64 0,.i .i64 0,.i .i64 0,.i .i64 0,.i .i64 0,.i .i64 0,.i .i64 0,.i .i64 0,.i .i64 0,.i .i64 0,.i .i64 0,.i .i64 0,.i .i64 0,.i .i64 0,.i .i64 0,.i .i64 0,.i .i64 0,.i .i64 0,.nils,.i .i64 0,.nils],none,false⟩
def tiM75:TI:=⟨.struct [(0,3),(1,3),(2,3),(3,3)],4,32,[.i .i64 0,.i .i64 0,.i .i64 0,.i .i64 0],some [.i .i64,.i .i64,.i .i64,.i .i64],false⟩
def tiM100:TI:=⟨.slice 99,1,24,[.nils],none,false⟩
def treeM:Tr:=(.node 38 ti38 (.node 15 ti15 (.node 8 ti7 (.node 4 ti4 (.node 2 ti2 (.node 1 ti1 .leaf .leaf) (.node 3 ti2 .leaf .leaf)) (.node 6 ti5 (.node 5 ti5 .leaf .leaf) (.node 7 ti7 .leaf .leaf))) (.node 12 ti12 (.node 10 ti9 (.node 9 ti9 .leaf .leaf) (.node 11 ti9 .leaf .leaf)) (.node 14 ti13 (.node 13 ti13 .leaf .leaf) .leaf))) (.node 23 tiF23 (.node 19 ti18 (.node 17 ti17 (.node 16 ti16 .leaf .leaf) (.node 18 ti18 .leaf .leaf)) (.node 21 ti21 (.node 20 ti20 .leaf .leaf) (.node 22 tiF22 .leaf .leaf))) (.node 27 tiM27 (.node 25 ti25 (.node 24 tiF24 .leaf .leaf) (.node 26 ti26 .leaf .leaf)) (.node 31 ti2 (.node 28 tiM27 .leaf .leaf) .leaf)))) (.node 98 ti98 (.node 76 tiM75 (.node 46 ti43 (.node 44 ti43 (.node 43 ti43 .leaf .leaf) (.node 45 ti1 .leaf .leaf)) (.node 56 ti55 (.node 55 ti55 .leaf .leaf) (.node 75 tiM75 .leaf .leaf))) (.node 95 ti1 (.node 79 ti78 (.node 78 ti78 .leaf .leaf) (.node 94 ti1 .leaf .leaf)) (.node 97 ti1 (.node 96 ti1 .leaf .leaf) .leaf))) (.node 284 ti5 (.node 224 ZdJ (.node 100 tiM100 (.node 99 ti98 .leaf .leaf) (.node 103 ti103 .leaf .leaf)) (.node 279 Z7j (.node 267 ZdK .leaf .leaf) (.node 280 Z7j .leaf .leaf))) (.node 288 ti21 (.node 286 ti1 (.node 285 ti5 .leaf .leaf) (.node 287 ti21 .leaf .leaf)) (.node 290 Z7k (.node 289 Z7k .leaf .leaf) .leaf)))))
def TM:Tb:=treeM.get
theorem Z1r:TabOk Tryz.prog TM:=by
 refine Z34 ?_
 exact ⟨entX,⟨entX,⟨entX,⟨entX,⟨entX,⟨entX,trivial,trivial⟩,⟨entX,trivial,trivial⟩⟩,⟨entX,⟨entX,trivial,trivial⟩,⟨entX,trivial,trivial⟩⟩⟩,⟨entX,⟨entX,⟨entX,trivial,trivial⟩,⟨entX,trivial,trivial⟩⟩,⟨entX,⟨entX,trivial,trivial⟩,trivial⟩⟩⟩,⟨entX,⟨entX,⟨entX,⟨entX,trivial,trivial⟩,⟨entX,trivial,trivial⟩⟩,⟨entX,⟨entX,trivial,trivial⟩,⟨entX,trivial,trivial⟩⟩⟩,⟨entX,⟨entX,⟨entX,trivial,trivial⟩,⟨entX,trivial,trivial⟩⟩,⟨entX,⟨entX,trivial,trivial⟩,trivial⟩⟩⟩⟩,⟨entX,⟨entX,⟨entX,⟨entX,⟨entX,trivial,trivial⟩,⟨entX,trivial,trivial⟩⟩,⟨entX,⟨entX,trivial,trivial⟩,⟨entX,trivial,trivial⟩⟩⟩,⟨entX,⟨entX,⟨entX,trivial,trivial⟩,⟨entX,trivial,trivial⟩⟩,⟨entX,⟨entX,trivial,trivial⟩,trivial⟩⟩⟩,⟨entX,⟨entX,⟨entX,⟨entX,trivial,trivial⟩,⟨entX,trivial,trivial⟩⟩,⟨entX,⟨entX,trivial,trivial⟩,⟨entX,trivial,trivial⟩⟩⟩,⟨entX,⟨entX,⟨entX,trivial,trivial⟩,⟨entX,trivial,trivial⟩⟩,⟨entX,⟨entX,trivial,trivial⟩,trivial⟩⟩⟩⟩⟩
section
section
variable {P:Program} {T:Tb} {ops:Array Oper} {o:Oper}
end
end
section
section
variable {P:Program} {T:Tb} {ops:Array Oper} {o:Oper}
end
end
section
open Go Go.ChangeShapes Go.WideShapes
theorem Z3C {α β:Type} {f g:α→Option β}:∀ {l:List α} {r:List β},l.mapM f=some r→(∀ x ∈ l,∀ y,f x=some y→g x=some y)→l.mapM g=some r
 | [],r,h,hr=>by simpa using h
 | a::as1,r,h,hr=>by
   rw [List.mapM_cons] at h ⊢
   cases ha:f a with
   | none=>simp [ha] at h
   | some b=>
     cases has:as1.mapM f with
     | none=>simp [ha,has] at h
     | some bs=>
       simp [ha,has] at h
       subst h
       rw [hr a (by simp) b ha,Z3C has fun x hx y hy=>hr x (by simp [hx]) y hy]
       rfl
theorem ZcW {α β:Type} {f:α→Option β}:∀ {l:List α} {r:List β},l.mapM f=some r→∀ {x},x ∈ l→∃ y,f x=some y
 | [],r,h,x,hx=>by simp at hx
 | a::as1,r,h,x,hx=>by
   rw [List.mapM_cons] at h
   cases ha:f a with
   | none=>simp [ha] at h
   | some b=>
     cases has:as1.mapM f with
     | none=>simp [ha,has] at h
     | some bs=>
       rcases List.mem_cons.1 hx with rfl | hx
       ·exact ⟨b,ha⟩
       ·exact ZcW has hx
def Kept (w w':World):Prop:=∀ b,b < w.heap.size→w'.heap[b]?=w.heap[b]?
section
variable {H:Type} {enc:TypeId×Value→H} {P:Program} {w w':World} {base:Nat} {sp sp':Nat→Bool} {held:Bool}
theorem Kept.cell (hk:Kept w w') {a:Addr} {v:Value} (h:w.cell? a=some v):w'.cell? a=some v:=by
 have hb:=World.block_lt_of_cell? w _ h
 have:=hk a.block hb
 unfold World.cell? at h ⊢
 rw [this]
 exact h
theorem Kept.cells (hk:Kept w w') {a:Addr} {n:Nat} {cs:List Value} (h:w.cells? base a n=some cs):w'.cells? base a n=some cs:=by
 unfold World.cells? at h ⊢
 split at h
 ·rename_i hb
  rw [if_pos hb]
  exact Z3C h fun i _ y hy=>hk.cell hy
 ·cases h
def CompsOk (P:Program) (S:TypeId→Prop) (t:TypeId):Prop:=match P.underlying t with
 | some (.pointer e)=>S e
 | some (.slice e)=>S e∧0 < P.cellsOf e
 | some (.struct fs)=>∀ f ∈ fs.toList,S f.type
 | some (.array _ e)=>S e
 | some (.map _ e)=>S e
 | _=>True
def ZeV (P:Program) (n:Nat) (t:TypeId):Bool:=match P.underlying t with
 | some (.pointer e)=>Nat.blt e n
 | some (.slice e)=>Nat.blt e n&&Nat.blt 0 (P.cellsOf e)
 | some (.struct fs)=>fs.toList.all fun f=>Nat.blt f.type n
 | some (.array _ e)=>Nat.blt e n
 | some (.map _ e)=>Nat.blt e n
 | _=>true
theorem compsOk_of {P:Program} {n:Nat} (h:((List.range n).all (ZeV P n))=true):∀ t,t < n→CompsOk P (· < n) t:=by
 intro t ht
 have:=List.all_eq_true.1 h t (List.mem_range.2 ht)
 unfold ZeV at this
 unfold CompsOk
 split <;> rename_i hu <;> first | trivial | (rw [hu] at this;simp only at this)
 ·exact Nat.le_of_ble_eq_true this
 ·rw [Bool.and_eq_true] at this
  exact ⟨Nat.le_of_ble_eq_true this.1,Nat.le_of_ble_eq_true this.2⟩
 ·intro f hf
  exact Nat.le_of_ble_eq_true (List.all_eq_true.1 this f hf)
 ·exact Nat.le_of_ble_eq_true this
 ·exact Nat.le_of_ble_eq_true this
theorem Zam {S:TypeId→Prop} {r r':TypeId→List Value→Option (DataW H×List MemPlace)} (hk:Kept w w') (hsp:∀ b,b < w.heap.size→sp' b=true) (hz:∀ t,S t→CompsOk P S t)
 (hr:∀ t,S t→∀ cs x,r t cs=some x→r' t cs=some x) {t:TypeId} (hS:S t) {cs:List Value} {x:DataW H×List MemPlace}
 (h:DataW.trodStep enc P w base (fun _=>true) true r t cs=some x):DataW.trodStep enc P w' base sp' true r' t cs=some x:=by
 have hcp:=hz t hS
 unfold CompsOk at hcp
 unfold DataW.trodStep at h ⊢
 split at h
 case h_1=>exact h
 case h_2=>exact h
 case h_3=>exact h
 case h_4=>exact h
 case h_5=>exact h
 case h_6 e a ht=>
  rw [ht] at hcp
  simp only [Option.map_eq_some_iff,Option.bind_eq_some_iff] at h ⊢
  obtain ⟨y,⟨cs',hc,hy⟩,rfl⟩:=h
  exact ⟨y,⟨cs',hk.cells hc,hr _ hcp _ _ hy⟩,rfl⟩
 case h_7=>exact h
 case h_8 e a len cap ht=>
  rw [ht] at hcp
  simp only at h ⊢
  split at h
  ·rename_i hc
   rw [if_pos hc]
   simp only [Option.map_eq_some_iff,Option.bind_eq_some_iff] at h ⊢
   obtain ⟨elems,he,rest,hrest,rfl⟩:=h
   have one:∀ i y,(w.cells? base (a.add (i * P.cellsOf e)) (P.cellsOf e)).bind (r e)=some y→(w'.cells? base (a.add (i * P.cellsOf e)) (P.cellsOf e)).bind (r' e)=some y:=fun i y hy=>by
    simp only [Option.bind_eq_some_iff] at hy ⊢
    obtain ⟨cs',hc',hy'⟩:=hy
    exact ⟨cs',hk.cells hc',hr _ hcp.1 _ _ hy'⟩
   refine ⟨elems,Z3C he fun i _ y hy=>one i y hy,rest,?_,rfl⟩
   by_cases hcap:cap - len=0
   ·rw [hcap] at hrest ⊢
    simp only [List.range_zero,List.mapM_nil] at hrest ⊢
    revert hrest
    cases sp' a.block <;> simp
   ·rw [if_pos trivial] at hrest
    obtain ⟨y,hy⟩:=ZcW hrest (List.mem_range.2 (Nat.pos_of_ne_zero hcap))
    simp only [Option.bind_eq_some_iff] at hy
    obtain ⟨cs',hc',_⟩:=hy
    have hb:(a.add ((len+0) * P.cellsOf e)).block < w.heap.size:=World.cells?_block hc' hcp.2
    have hb:a.block < w.heap.size:=by
     have e1:(a.add ((len+0) * P.cellsOf e)).block=a.block:=by unfold Addr.add;split <;> rfl
     rw [← e1];exact hb
    rw [if_pos (hsp _ hb)]
    exact Z3C hrest fun i _ y hy=>one _ y hy
  ·cases h
 case h_9 fs ht=>
  rw [ht] at hcp
  split at h
  ·rename_i hc
   rw [if_pos hc]
   simp only [Option.map_eq_some_iff] at h ⊢
   obtain ⟨xs,hx,rfl⟩:=h
   exact ⟨xs,Z3C hx fun f hf y hy=>hr _ (hcp f hf) _ _ hy,rfl⟩
  ·cases h
 case h_10 n e ht=>
  rw [ht] at hcp
  split at h
  ·rename_i hc
   rw [if_pos hc]
   simp only [Option.map_eq_some_iff] at h ⊢
   obtain ⟨xs,hx,rfl⟩:=h
   exact ⟨xs,Z3C hx fun f _ y hy=>hr _ hcp _ _ hy,rfl⟩
  ·cases h
 case h_11=>exact h
 case h_12=>exact h
 case h_13=>exact h
 case h_14 k e b ht=>
  rw [ht] at hcp
  split at h
  ·rename_i es clock hb
   have hlt:b < w.heap.size:=by
    rcases Nat.lt_or_ge b w.heap.size with h1 | h1
    ·exact h1
    ·rw [Array.getElem?_eq_none h1] at hb;cases hb
   have hb':w'.heap[b]?=some (.map es clock):=by rw [hk b hlt];exact hb
   rw [hb']
   simp only
   split at h
   ·rename_i hc
    rw [if_pos hc]
    simp only [Option.bind_eq_some_iff] at h ⊢
    obtain ⟨entries,he,hd⟩:=h
    refine ⟨entries,Z3C he fun x _ y hy=>?_,hd⟩
    simp only [Option.bind_eq_some_iff] at hy ⊢
    obtain ⟨key,hk,hz⟩:=hy
    refine ⟨key,hk,?_⟩
    split at hz
    ·rename_i hf
     rw [if_pos hf]
     simp only [Option.map_eq_some_iff] at hz ⊢
     obtain ⟨q,hq,rfl⟩:=hz
     exact ⟨q,hr _ hcp _ _ hq,rfl⟩
    ·cases hz
   ·cases h
  ·cases h
 all_goals exact h
variable {S:TypeId→Prop} (hk:Kept w w') (hz:∀ t,S t→CompsOk P S t)
include hk hz
theorem Za8 (hsp:∀ b,b < w.heap.size→sp' b=true):∀ (n:Nat) (t:TypeId),S t→∀ (cs:List Value) (x:DataW H×List MemPlace),DataW.trod enc P w base (fun _=>true) true n t cs=some x→DataW.trod enc P w' base sp' true n t cs=some x:=by
 intro n
 induction n with
 | zero=>intro t _ cs x h;simp [DataW.trod] at h
 | succ n ih=>
   intro t hS cs x h
   rw [DataW.trod_step] at h ⊢
   exact Zam hk hsp hz ih hS h
theorem Z4L (hsp:∀ b,b < w.heap.size→sp' b=true):∀ {ts:List TypeId} {vs:List Value} {ds:List (DataW H)} {ps:List MemPlace},(∀ t ∈ ts,S t) →
 DataW.TrodAll enc P w base (fun _=>true) true ts vs ds ps→DataW.TrodAll enc P w' base sp' true ts vs ds ps
 | [],[],[],_,_,h=>h
 | _::_,_::_,_::_,_,hS,⟨p,q,⟨n,h⟩,hs,e⟩=>⟨p,q,⟨n,Za8 hk hz hsp n _ (hS _ (List.mem_cons_self ..)) _ _ h⟩,Z4L hsp (fun t ht=>hS t (List.mem_cons_of_mem _ ht)) hs,e⟩
theorem Z49 (hsp:∀ b,b < w.heap.size→sp' b=true) (hv:∀ n cs,w.var? P n=some cs→w'.var? P n=some cs):∀ {ns:List String} {ds:List (DataW H)} {ps:List MemPlace},(∀ n ∈ ns,∀ g t,P.globalNamed n=some g→(P.globals[g]?).map (·.type)=some t→S t) →
 DataW.TrodVars enc P w (fun _=>true) ns ds ps→DataW.TrodVars enc P w' sp' ns ds ps
 | [],[],_,_,h=>h
 | n::_,_::_,_,hS,⟨g,t,cs,fuel,p,q,h1,h2,h3,h4,hs,e⟩=>
   ⟨g,t,cs,fuel,p,q,h1,h2,hv _ _ h3,Za8 hk hz hsp _ _ (hS n (List.mem_cons_self ..) g t h1 h2) _ _ h4,Z49 hsp hv (fun n hn=>hS n (List.mem_cons_of_mem _ hn)) hs,e⟩
omit hz in
theorem Kept.var {n:String} {cs:Array Value} (h:w.var? P n=some cs):w'.var? P n=some cs:=by
 unfold World.var? at h ⊢
 cases hg:P.globalNamed n with
 | none=>rw [hg] at h;cases h
 | some g=>
   rw [hg] at h
   simp only [Option.bind_some] at h ⊢
   rcases Nat.lt_or_ge g w.heap.size with h1 | h1
   ·rw [hk g h1];exact h
   ·rw [Array.getElem?_eq_none h1] at h;cases h
omit hz in
theorem Kept.noneFrozen {ps:List MemPlace} (hl:∀ p ∈ ps,p.block < w.heap.size) (h:w.noneFrozen ps):w'.noneFrozen ps:=by
 intro b off hp
 have h1:=h b off hp
 have h2:=hl _ hp
 unfold World.frozen? at h1 ⊢
 rw [hk b h2]
 exact h1
theorem post_kept {f:Func} {s:ChangeSpec} {apart fresh handsOn again:Bool} {args:Array Value} {v:Value} {ds gs:List (DataW H)} {before:List MemPlace} {res:List (DataW H)}
 (hS:∀ t ∈ f.params.toList,S t) (hSv:∀ n ∈ s.vars,∀ g t,P.globalNamed n=some g→(P.globals[g]?).map (·.type)=some t→S t)
 (hW:DataW.Whole enc P f.params.toList s.vars apart w args.toList ds gs before) (hos:w'.os=w.os) (hout:w'.output=w.output)
 (hr:(s.fn H (ds++gs)).results=res) (ha:(s.fn H (ds++gs)).args=ds) (hvv:(s.fn H (ds++gs)).vars=gs)
 (hres:∀ (b:Nat) (sp:Nat→Bool) (hd:Bool),DataW.TrodAll enc P w' b sp hd f.resultTypes.toList (v.resultList f.resultTypes.size) res [])
 (hok:∀ (j:Nat) (t:TypeId) (r:Value),f.resultTypes[j]?=some t→(v.resultList f.resultTypes.size)[j]?=some r→Value.okWide P w' .any 0 t r) :
 s.post enc P f apart fresh handsOn again w args v w':=by
 have hlt:=hW.lt
 have hW0:=hW
 obtain ⟨p,q,h1,h2,rfl,h4,h5⟩:=hW
 have hsp:∀ b,b < w.heap.size→(fun b=>decide (b < w.heap.size)) b=true:=fun b hb=>by simpa using hb
 refine ⟨ds,gs,p++q,[],p,q,hW0,by rw [hr];exact hres _ _ _,by rw [ha];exact Z4L hk hz hsp hS h1,by rw [hvv];exact Z49 hk hz hsp (fun n cs=>hk.var) hSv h2,⟨hos,hout,fun i hi=>?_⟩,fun _=>⟨hok,_,_,([]++p)++q,⟨[]++p,q,trodAll_append (Z4L hk hz (fun _ _=>rfl) hS h1) (hres _ _ _),Z49 hk hz (fun _ _=>rfl) (fun n cs=>hk.var) hSv h2,rfl,?_,?_⟩,?_⟩⟩
 ·rw [hk i hi]
  cases w.heap[i]? with
  | none=>rfl
  | some o=>cases o <;> simp
 ·simpa using hk.noneFrozen hlt h4
 ·simpa using h5
 ·intro p hp _
  simpa using hp
end
end
section
open Go Go.ChangeShapes Go.WideShapes Go.Deep
section
variable {P:Program}
theorem Ctr.calls {f:FuncId} {fn:Func} {c:Code} (hf:P.funcs[f]?=some fn) (hb:fn.body=some c) (hnm:(fn.name == "runtime.NumGoroutine")=false) {args:List SV} {H:List SB} {K:SV→List SB→Prop} (h:Ctr P f args H K)
 {C:Fr} {E:Env} {m:Mem} {w:World} (hr:Rel E C m H w) (ho:OkA m (vers H) args) :
 Calls P f (denL E args).toArray w (fun e w'=>∃ v,e=.returned v∧∃ r H' E' m',v=den E' r∧K r H'∧(Ok m' (vers H') r∧live r=true)∧Ext E m (vers H) E' m' (vers H')∧Rel E' C m' H' w'):=by
 have h1:=h.out C E m w hr ho
 have hrun:(callFunc f (denL E args).toArray).run P w=.ok (.enter f (denL E args).toArray) w:=by
  have h1:fn.name ≠ "runtime.NumGoroutine":=by simpa using hnm
  simp [callFunc,hf,h1,hb]
 unfold Z32 at h1
 rw [hrun] at h1
 exact h1
def Z2a (w:World) (S:Nat→Bool):Mem:=fun b=>if S b then w.heap[b]? else none
def frOf (w:World) (S:Nat→Bool):Fr:=⟨w.os,w.tape,w.output,fun b=>if S b then none else w.heap[b]?,w.drawn⟩
def TabsIn (w:World):Prop:=TbOk fun b=>w.heap[b]?
def ZaR (b:Nat):Bool:=(tabs b).isSome
theorem TabsIn.mem {w:World} (hT:TabsIn w) {S:Nat→Bool} (hS:∀ b,ZaR b=true→S b=true):TbOk (Z2a w S):=fun g v hg=>by
 have:=hT g v hg
 have hs:S g=true:=hS g (by simp [ZaR,hg])
 cases v with
 | ints k zs=>obtain ⟨t,fr,h1⟩:=this;exact ⟨t,fr,by unfold Z2a;rw [hs];exact h1⟩
 | ifc=>obtain ⟨tt,v,t,fr,h1⟩:=this;exact ⟨tt,v,t,fr,by unfold Z2a;rw [hs];exact h1⟩
 | anyI k=>obtain ⟨n,arr,t,fr,h1,h2⟩:=this;exact ⟨n,arr,t,fr,by unfold Z2a;rw [hs];exact h1,h2⟩
theorem ZdL {w:World} {S S':Nat→Bool} (h:∀ b,S b=true→S' b=true):∀ b o,Z2a w S b=some o→Z2a w S' b=some o:=fun b o hb=>by
 unfold Z2a at hb ⊢
 split at hb
 ·rename_i hs;rw [if_pos (h b hs)];exact hb
 ·cases hb
theorem rel_of (w:World) (S:Nat→Bool) (E:Env) (hT:TabsIn w) (hS:∀ b,ZaR b=true→S b=true):Rel E (frOf w S) (Z2a w S) [] w:={
 os:=rfl
 tape:=rfl
 output:=⟨rfl,DrOk.refl _⟩
 im:=fun b o h=>by
  unfold Z2a at h
  split at h
  ·exact h
  ·cases h
 fr:=fun b o h=>by
  simp only [frOf] at h
  split at h
  ·cases h
  ·exact h
 mf:=⟨fun b o h=>by
  simp only [frOf] at h
  unfold Z2a
  split at h
  ·cases h
  ·rename_i hs;rw [if_neg hs],hT.mem hS⟩
 bl:=fun k B h=>by simp at h
 nn:=fun k v h hv=>by
  exfalso
  unfold Vle at h
  simp [vers] at h
 sp:=fun k b ⟨B,h,_⟩=>by simp at h
 inj:=fun j k b ⟨B,h,_⟩=>by simp at h }
theorem Rel.keptOf {w w':World} {S:Nat→Bool} {E:Env} {m:Mem} {H:List SB} (hm:∀ b o,Z2a w S b=some o→m b=some o) (h:Rel E (frOf w S) m H w'):Kept w w'∧w'.os=w.os∧w'.output=w.output:=by
 refine ⟨fun b hb=>?_,h.os,h.output.1⟩
 have hg:w.heap[b]?=some w.heap[b]:=Array.getElem?_eq_getElem hb
 cases hs:S b with
 | true=>
   have:=h.im b _ (hm b w.heap[b] (by unfold Z2a;rw [hs];exact hg))
   rw [this,hg]
 | false=>
   have:=h.fr b w.heap[b] (by simp only [frOf,hs];exact hg)
   rw [this,hg]
theorem law_callsM {f:FuncId} {fn:Func} {c:Code} (hf:P.funcs[f]?=some fn) (hb:fn.body=some c) (hnm:(fn.name == "runtime.NumGoroutine")=false) {args:List SV} (h:CtrV P f args (.b true))
 (w:World) (hT:TabsIn w) (S:Nat→Bool) (ho:OkA (Z2a w S) [] args) {vs:Array Value} (hvs:vs=(denL (fun _ _=>none) args).toArray) :
 Calls P f vs w (fun e w'=>e=.returned (.bool true)∧Kept w w'∧w'.os=w.os∧w'.output=w.output):=by
 subst hvs
 refine (h.calls hf hb hnm (rel_of w (fun b=>S b||ZaR b) _ hT (fun b h=>by simp [h])) (OkA.mono (ZdL fun b h=>by simp [h]) _ _ _ (fun _ _ h=>h) ho)).mono fun e w' he=>?_
 obtain ⟨v,rfl,r,H',E',m',rfl,⟨rfl,rfl⟩,_,hx,hrel⟩:=he
 exact ⟨rfl,hrel.keptOf hx.mm⟩
end
section
variable {H:Type} {enc:TypeId×Value→H} {P:Program} {w:World} {base:Nat} {spare:Nat→Bool} {held:Bool}
end
end
theorem ZbU {x:Int} (h1 : -9223372036854775808≤x) (h2:x≤9223372036854775807):IntKind.i64.wrap x=x:=IntWalk.i64_in x ⟨h1,h2⟩
theorem Joins.nil {new:List SV}:Joins [] new new:=⟨fun E=>rfl,fun m V _ h=>h⟩
structure Cn where
 k:Int
 t:Int
 r:Int
 l:Int
 v:Int
 deriving DecidableEq
def cn0:Cn:=⟨0,0,0,0,0⟩
def cenc (c:Cn):List SV:=[.i .i64 c.k,.i .i64 c.t,.i .i64 c.r,.i .i64 c.l,.i .i64 c.v]
def ZB (c:Cn):Int:=
 if c.k=1 then (if c.l=0∧0≤c.t∧c.t < 3∧0≤c.r∧c.r < 8 then 0 else -1)
 else if c.k=2 then (if c.t=0∧c.r=0∧0≤c.l∧c.l < 3 then 0 else -1)
 else if c.k=3 then (if c.t=0∧c.r=0∧c.l=0∧c.v=0 then 1 else -1)
 else if c.k=4∨c.k=5 then (if c.t=0∧c.r=0∧c.l=0∧c.v=0 then 2 else -1)
 else -1
theorem ZeW (c:Cn) : -1≤ZB c∧ZB c≤2:=by
 unfold ZB
 repeat' split
 all_goals omega
def nAt (cs:List Cn):Nat→Int
 | 0=>0
 | i+1=>nAt cs i+(1 - ZB (cs.getD i cn0))
def okAt (cs:List Cn) (i:Nat):Prop:=∀ j,j < i→0≤ZB (cs.getD j cn0)∧ZB (cs.getD j cn0)≤nAt cs j
def Z93 (cs:List Cn):Prop:=(1≤cs.length∧cs.length≤32)∧okAt cs cs.length∧nAt cs cs.length=1
open Classical in
noncomputable def ZU (cs:List Cn):Bool:=decide (Z93 cs)
theorem ZeX {cs:List Cn} {i:Nat} (h:okAt cs i) (h1:0≤ZB (cs.getD i cn0)) (h2:ZB (cs.getD i cn0)≤nAt cs i):okAt cs (i+1):=by
 intro j hj
 rcases Nat.lt_succ_iff_lt_or_eq.1 hj with hj | rfl
 ·exact h j hj
 ·exact ⟨h1,h2⟩
theorem ZeY {cs:List Cn}:∀ {i:Nat},okAt cs i→0≤nAt cs i∧nAt cs i≤i∧(0 < i→1≤nAt cs i)
 | 0,_=>by simp [nAt]
 | i+1,h=>by
   have ih:=ZeY (cs:=cs) (i:=i) fun j hj=>h j (by omega)
   have h1:=h i (by omega)
   simp only [nAt]
   omega
theorem Z1A {x y:Int} (h:x=y):SV.i .i64 x=SV.i .i64 y:=congrArg (SV.i .i64) h
theorem Zgu (c:Cn):CtrV Tryz.prog 104 [.agg (cenc c)] (.i .i64 (ZB c)):=by
 refine Z8 Z5 (fn:=Tryz.f104) Z Z Z Z Z Z ?_
 refine ⟨fun h1=>⟨fun h2=>?_,fun h2=>?_⟩,fun h1=>⟨fun h2=>⟨fun h3=>?_,fun h3=>?_⟩,fun h2=>⟨fun h3=>⟨fun h4=>?_,fun h4=>?_⟩,fun h3=>⟨fun h4=>⟨fun h5=>⟨fun h6=>?_,fun h6=>?_⟩,fun h5=>Bool.noConfusion (h4.symm.trans h5)⟩,fun h4=>⟨fun h5=>⟨fun h6=>?_,fun h6=>?_⟩,fun h5=>?_⟩⟩⟩⟩⟩
 ·refine Z1A (y:=ZB c) ?_
  simp at h1 h2;unfold ZB;simp [h1,h2]
 ·refine Z1A (y:=ZB c) ?_
  simp at h1 h2;unfold ZB;simp [h1];intros;omega
 ·refine Z1A (y:=ZB c) ?_
  simp at h1 h2 h3;unfold ZB;simp [h1,h2,h3]
 ·refine Z1A (y:=ZB c) ?_
  simp at h1 h2 h3;unfold ZB;simp [h1,h2];intros;omega
 ·refine Z1A (y:=ZB c) ?_
  simp at h1 h2 h3 h4;unfold ZB;simp [h1,h2,h3,h4]
 ·refine Z1A (y:=ZB c) ?_
  simp at h1 h2 h3 h4;unfold ZB;simp [h1,h2,h3];intros;omega
 ·refine Z1A (y:=ZB c) ?_
  simp at h1 h2 h3 h4 h6;unfold ZB;simp [h1,h2,h3,h4,h6]
 ·refine Z1A (y:=ZB c) ?_
  simp at h1 h2 h3 h4 h6;unfold ZB;simp [h1,h2,h3,h4];intros;omega
 ·refine Z1A (y:=ZB c) ?_
  simp at h1 h2 h3 h4 h5 h6;unfold ZB;simp [h1,h2,h3,h4,h5,h6]
 ·refine Z1A (y:=ZB c) ?_
  simp at h1 h2 h3 h4 h5 h6;unfold ZB;simp [h1,h2,h3,h4,h5];intros;omega
 ·refine Z1A (y:=ZB c) ?_
  simp at h1 h2 h3 h4 h5;unfold ZB;simp [h1,h2,h3,h4,h5]
theorem Z9y {x y:Bool} (h:x=y):SV.b x=SV.b y:=congrArg SV.b h
theorem Z7I {cs:List Cn} (h:¬ Z93 cs):ZU cs=false:=by unfold ZU;simp [h]
theorem ZeZ {cs:List Cn} (h1:(decide ((cs.length:Int) < 1)||decide ((32:Int) < cs.length))=true):ZU cs=false:=by
 refine Z7I fun h=>?_
 have h2:=h.1
 simp at h1
 omega
theorem Zf0 {cs:List Cn} {i:Nat} (hi:i < cs.length) (h:ZB (cs.getD i cn0) < 0∨nAt cs i < ZB (cs.getD i cn0)):ZU cs=false:=by
 refine Z7I fun hr=>?_
 have:=hr.2.1 i hi
 omega
theorem Zf1 {cs:List Cn} (h0:1≤cs.length∧cs.length≤32) (hk:okAt cs cs.length):decide (nAt cs cs.length=1)=ZU cs:=by
 unfold ZU Z93
 rw [Bool.eq_iff_iff]
 simp only [decide_eq_true_eq]
 exact ⟨fun h=>⟨h0,hk,h⟩,fun h=>h.2.2⟩
theorem Z7W (cs:List Cn) (a:Option Addr) (cap:Nat):CtrV Tryz.prog 46 [.imm Cn cn0 5 cenc cs a cap] (.b (ZU cs)):=by
 refine Z8 Z5 (fn:=Tryz.f46) Z Z Z Z Z Z ?_
 refine ⟨fun h1=>Z9y (ZeZ h1).symm,fun h1=>?_⟩
 have hl:1≤cs.length∧cs.length≤32:=by
  have h1:(decide ((cs.length:Int) < 1)||decide ((32:Int) < cs.length))=false:=h1
  simp at h1;omega
 refine WpC.loop Z5 (β:=Nat) (fun i=>i≤cs.length∧okAt cs i) (fun i=>[(17,.i .i64 i),(3,.i .i64 (nAt cs i))]) (fun _=>[]) (fun i=>cs.length - i) 0 34359607404 ⟨Nat.zero_le _,fun j hj=>by omega⟩ ?_ ?_
 ·exact ⟨rfl,⟨⟨rfl,rfl,rfl⟩,⟨rfl,rfl,rfl⟩,trivial⟩,⟨[],rfl⟩,trivial,rfl⟩
 ·rintro i ⟨hi,ho⟩
  have hb:=ZeY ho
  have hp:=ZeW (cs.getD i cn0)
  refine ⟨fun h2=>?_,fun h2=>?_⟩
  ·have h2:i < cs.length:=by simpa using h2
   refine ⟨fun _=>⟨by omega,by omega⟩,?_⟩
   refine Z4 Z Z Z Z Z Z Z (fun _=>Zgu (cs.getD i cn0)) ?_
   refine ⟨fun h3=>?_,fun h3=>?_⟩
   ·refine Z9y (Zf0 h2 ?_).symm
    have h3:(decide (ZB (cs.getD i cn0) < 0)||decide (nAt cs i < ZB (cs.getD i cn0)))=true:=h3
    simpa only [Bool.or_eq_true,decide_eq_true_eq] using h3
   ·have h3:(decide (ZB (cs.getD i cn0) < 0)||decide (nAt cs i < ZB (cs.getD i cn0)))=false:=h3
    simp only [Bool.or_eq_false_iff,decide_eq_false_iff_not] at h3
    refine ⟨i+1,⟨h2,ZeX ho (by omega) (by omega)⟩,by omega,rfl,⟨⟨?_,rfl,rfl⟩,⟨?_,rfl,rfl⟩,trivial⟩,⟨_,rfl⟩,trivial,rfl⟩
    ·show SV.i .i64 (IntKind.i64.wrap ((i:Int)+1))=SV.i .i64 ((i+1:Nat):Int)
     rw [ZbU (by omega) (by omega)];rfl
    ·show SV.i .i64 (IntKind.i64.wrap (nAt cs i+IntKind.i64.wrap (1 - ZB (cs.getD i cn0))))=SV.i .i64 (nAt cs i+(1 - ZB (cs.getD i cn0)))
     rw [ZbU (x:=1 - ZB (cs.getD i cn0)) (by omega) (by omega),ZbU (by omega) (by omega)]
  ·have h2:i=cs.length:=by simp at h2;omega
   subst h2
   exact Z9y (Zf1 hl ho)
section
section
variable {P:Program} {T:Tb}
theorem Za (hT:TabOk P T) {f:FuncId} {fn:Func} {c:Code} {n:Nat} (hf:P.funcs[f]?=some fn) (hb:fn.body=some c) (hn:fn.ntmps=n) (hnm:(fn.name == "runtime.NumGoroutine")=false) {args:List SV} {H:List SB} {r:SV}
 (hl:Nat.ble args.length n=true) (hr:Bnd H.length r) (hH:BndH H.length H) (h:sx P T c (retK T fn.results.toList (fun r' h=>r'=r∧∃ X,h=H++X)) ⟨args++List.replicate (n - args.length) .dead,H⟩):Ctr P f args H (fun r' h=>r'=r∧h=H):=by
 have h1:=Ctr.enter hT hf hb hn hnm hl h
 exact h1.trim Z11 fun r' H1 ⟨e,X,hX⟩=>⟨H,X,hX,Nat.le_refl _,hH,by rw [e];exact hr,e,rfl⟩
end
end
def Zht:Memo:=⟨129,
 [],
 [],
 (.ptr 1 1 0
 []),
 [(.mem 9 [(.s [82,65,88]),(.s [82,66,88]),(.s [82,67,88]),(.s [82,68,88]),(.s [82,83,73]),(.s [82,68,73]),(.s [82,56]),(.s [82,57])] 1 0),(.mem 178 [(.sl 0 1
 0 8 (.some 8) 0),(.s [36]),(.fn 151 []),(.fn 152 [])] 1
 0)]⟩
theorem ZdM:Z2W Tryz.prog Zht:=Z3a (tr:=treeF) (ft:=ftree) (ms:=[]) (n:=40) Z5 ftOk mixed (by intro m hm;cases hm) (by decide +kernel)
def Zhu:Memo:=⟨134,
 [],
 [],
 (.ptr 1 1 0
 []),
 [(.mem 9 [(.s [97,48]),(.s [97,49]),(.s [97,50]),(.s [97,51]),(.s [97,52]),(.s [97,53]),(.s [97,54]),(.s [97,55])] 1 0),(.mem 178 [(.sl 0 1 0 8 (.some 8) 0),(.s
 []),(.fn 159 []),(.fn 160 [])] 1
 0)]⟩
theorem ZdN:Z2W Tryz.prog Zhu:=Z3a (tr:=treeF) (ft:=ftree) (ms:=[]) (n:=40) Z5 ftOk mixed (by intro m hm;cases hm) (by decide +kernel)
def Zhv:Memo:=⟨135,
 [],
 [],
 (.ptr 1 1 0
 []),
 [(.mem 9 [(.s [88,48]),(.s [88,49]),(.s [88,50]),(.s [88,51]),(.s [88,52]),(.s [88,53]),(.s [88,54]),(.s [88,55])] 1 0),(.mem 178 [(.sl 0 1 0 8 (.some 8) 0),(.s
 [35]),(.fn 161 []),(.fn 162 [])] 1
 0)]⟩
theorem ZdO:Z2W Tryz.prog Zhv:=Z3a (tr:=treeF) (ft:=ftree) (ms:=[]) (n:=40) Z5 ftOk mixed (by intro m hm;cases hm) (by decide +kernel)
def Z2 (a:Int):List (List UInt8):=
 if a=1 then [[82,65,88],[82,66,88],[82,67,88],[82,68,88],[82,83,73],[82,68,73],[82,56],[82,57]]
 else if a=2 then [[97,48],[97,49],[97,50],[97,51],[97,52],[97,53],[97,54],[97,55]]
 else if a=3 then [[88,48],[88,49],[88,50],[88,51],[88,52],[88,53],[88,54],[88,55]]
 else []
def nameF (a n:Int):List UInt8:=if 0≤n∧n < 8 then (Z2 a).getD n.toNat [] else []
def rowS (s0 s1 s2 s3 s4 s5 s6 s7:List UInt8):SB:=.mem 9 [.s s0,.s s1,.s s2,.s s3,.s s4,.s s5,.s s6,.s s7] 1 0
def Zi (h:List UInt8) (rd pr:Nat):SB:=.mem 178 [.sl 0 1 0 8 (some 8) 0,.s h,.fn rd [],.fn pr []] 1 0
theorem Zv {s0 s1 s2 s3 s4 s5 s6 s7 h:List UInt8} {rd pr:Nat}:BndH 2 [rowS s0 s1 s2 s3 s4 s5 s6 s7,Zi h rd pr]:=⟨⟨rfl,rfl,rfl,rfl,rfl,rfl,rfl,rfl,trivial⟩,⟨rfl,rfl,rfl,rfl,trivial⟩,trivial⟩
theorem Zhw {x y:List UInt8} (h:x=y):SV.s x=SV.s y:=congrArg SV.s h
theorem Z94 {n:Int} (h0:0≤n) (h8:n < 8):n=0∨n=1∨n=2∨n=3∨n=4∨n=5∨n=6∨n=7:=by omega
theorem Z1s (s0 s1 s2 s3 s4 s5 s6 s7 h:List UInt8) (rd pr:Nat) (n:Int):Ctr Tryz.prog 133 [.ptr 1 1 0 [],.i .i64 n] [rowS s0 s1 s2 s3 s4 s5 s6 s7,Zi h rd pr]
 (fun r h'=>r=.s (if 0≤n∧n < 8 then [s0,s1,s2,s3,s4,s5,s6,s7].getD n.toNat [] else [])∧h'=[rowS s0 s1 s2 s3 s4 s5 s6 s7,Zi h rd pr]):=by
 refine Za Z5 (fn:=Tryz.f133) Z Z Z Z Z Z Zv ?_
 refine ⟨fun h1=>⟨Zhw ?_,_,rfl⟩,fun h1=>?_⟩
 ·have h1:(decide (n < 0)||decide ((8:Int)≤n))=true:=h1
  simp only [Bool.or_eq_true,decide_eq_true_eq] at h1
  rw [if_neg (by omega)]
 ·have h1:(decide (n < 0)||decide ((8:Int)≤n))=false:=h1
  simp only [Bool.or_eq_false_iff,decide_eq_false_iff_not] at h1
  rw [if_pos (by omega)]
  rcases Z94 (n:=n) (by omega) (by omega) with rfl | rfl | rfl | rfl | rfl | rfl | rfl | rfl
  all_goals exact ⟨fun _=>by decide,⟨rfl,_,rfl⟩⟩
theorem Zgv:Ctr Tryz.prog 129 [] [] (fun r h=>r=.ptr 1 1 0 []∧h=[rowS [82,65,88] [82,66,88] [82,67,88] [82,68,88] [82,83,73] [82,68,73] [82,56] [82,57],Zi [36] 151 152]):=ZdM
theorem ZdP:Ctr Tryz.prog 134 [] [] (fun r h=>r=.ptr 1 1 0 []∧h=[rowS [97,48] [97,49] [97,50] [97,51] [97,52] [97,53] [97,54] [97,55],Zi [] 159 160]):=ZdN
theorem Zgw:Ctr Tryz.prog 135 [] [] (fun r h=>r=.ptr 1 1 0 []∧h=[rowS [88,48] [88,49] [88,50] [88,51] [88,52] [88,53] [88,54] [88,55],Zi [35] 161 162]):=ZdO
def locF (k:Int):List UInt8:=[UInt8.ofNat (120+k.toNat)]
theorem Za9 (a n:Int):(nameF a n).length≤3:=by
 unfold nameF
 split
 ·rename_i h
  unfold Z2
  split
  ·rcases Z94 h.1 h.2 with rfl | rfl | rfl | rfl | rfl | rfl | rfl | rfl <;> decide
  ·split
   ·rcases Z94 h.1 h.2 with rfl | rfl | rfl | rfl | rfl | rfl | rfl | rfl <;> decide
   ·split
    ·rcases Z94 h.1 h.2 with rfl | rfl | rfl | rfl | rfl | rfl | rfl | rfl <;> decide
    ·simp
 ·simp
end SX
end Go.Proofs.YtdddpbmcoimgdaaGreatDoor
set_option maxRecDepth 100000
namespace Go.Proofs
open Go.Shelf
def Zan:Go.Shelf.Ren:=⟨fun | 171=>219 | 243=>237 | 246=>243 | 283=>201 | 284=>202 | 285=>203 | 286=>204 | 129=>226 | 317=>225 | 318=>227 | 319=>228 | 320=>229 | 337=>239 | 338=>240 | n=>n,fun | 3=>3 | 9=>9 | 2=>2 | 4=>4 | 171=>219 | 0=>0 | 53=>151 | 37=>117 | 5=>5 | 173=>222 | 212=>242 | 51=>224 | 20=>20 | 213=>243 | 46=>190 | 232=>274 | 233=>275 | n=>n,fun | 17=>3 | 18=>6 | 19=>7 | n=>n⟩
theorem Zf2:Go.Proofs.LaysM.n171 Tryz.prog Zan:={
 mixed:=by kernel_rfl
 f129:=Tryz.func226.trans (congrArg some (by kernel_rfl))
 f171:=Tryz.func219.trans (congrArg some (by kernel_rfl))
 f243:=Tryz.func237.trans (congrArg some (by kernel_rfl))
 f246:=Tryz.func243.trans (congrArg some (by kernel_rfl))
 f283:=Tryz.func201.trans (congrArg some (by kernel_rfl))
 f284:=Tryz.func202.trans (congrArg some (by kernel_rfl))
 f285:=Tryz.func203.trans (congrArg some (by kernel_rfl))
 f286:=Tryz.func204.trans (congrArg some (by kernel_rfl))
 f317:=Tryz.func225.trans (congrArg some (by kernel_rfl))
 f318:=Tryz.func227.trans (congrArg some (by kernel_rfl))
 f319:=Tryz.func228.trans (congrArg some (by kernel_rfl))
 f320:=Tryz.func229.trans (congrArg some (by kernel_rfl))
 f337:=Tryz.func239.trans (congrArg some (by kernel_rfl))
 f338:=Tryz.func240.trans (congrArg some (by kernel_rfl))
 t0:=Tryz.underlying0
 a0:=Tryz.isAgg0
 z0:=Tryz.sizeOf0
 v0:=Tryz.zeroValue0
 t2:=Tryz.underlying2
 a2:=Tryz.isAgg2
 z2:=Tryz.sizeOf2
 v2:=Tryz.zeroValue2
 t3:=Tryz.underlying3
 a3:=Tryz.isAgg3
 z3:=Tryz.sizeOf3
 v3:=Tryz.zeroValue3
 t4:=Tryz.underlying4
 a4:=Tryz.isAgg4
 z4:=Tryz.sizeOf4
 v4:=Tryz.zeroValue4
 t5:=Tryz.underlying5
 a5:=Tryz.isAgg5
 z5:=Tryz.sizeOf5
 v5:=Tryz.zeroValue5
 t9:=Tryz.underlying9
 a9:=Tryz.isAgg9
 z9:=Tryz.sizeOf9
 v9:=Tryz.zeroValue9
 t20:=Tryz.underlying20
 a20:=Tryz.isAgg20
 z20:=Tryz.sizeOf20
 v20:=Tryz.zeroValue20
 t37:=Tryz.underlying117
 a37:=Tryz.isAgg117
 z37:=Tryz.sizeOf117
 v37:=Tryz.zeroValue117
 t46:=Tryz.underlying190
 a46:=Tryz.isAgg190
 z46:=Tryz.sizeOf190
 v46:=Tryz.zeroValue190
 t51:=Tryz.underlying224
 a51:=Tryz.isAgg224
 z51:=Tryz.sizeOf224
 v51:=Tryz.zeroValue224
 t53:=Tryz.underlying151
 a53:=Tryz.isAgg151
 z53:=Tryz.sizeOf151
 v53:=Tryz.zeroValue151
 t171:=Tryz.underlying219
 a171:=Tryz.isAgg219
 z171:=Tryz.sizeOf219
 v171:=Tryz.zeroValue219
 t173:=Tryz.underlying222
 a173:=Tryz.isAgg222
 z173:=Tryz.sizeOf222
 v173:=Tryz.zeroValue222
 t212:=Tryz.underlying242
 a212:=Tryz.isAgg242
 z212:=Tryz.sizeOf242
 v212:=Tryz.zeroValue242
 t213:=Tryz.underlying243
 a213:=Tryz.isAgg243
 z213:=Tryz.sizeOf243
 t232:=Tryz.underlying274
 a232:=Tryz.isAgg274
 z232:=Tryz.sizeOf274
 v232:=Tryz.zeroValue274
 t233:=Tryz.underlying275
 a233:=Tryz.isAgg275
 z233:=Tryz.sizeOf275
 v233:=Tryz.zeroValue275
 g17:=by kernel_rfl
 g18:=by kernel_rfl
 g19:=by kernel_rfl
 i0:=by kernel_rfl
 i2:=by kernel_rfl
 i3:=by kernel_rfl
 i4:=by kernel_rfl
 i5:=by kernel_rfl
 i9:=by kernel_rfl
 i20:=by kernel_rfl
 i37:=by kernel_rfl
 i46:=by kernel_rfl
 i51:=by kernel_rfl
 i53:=by kernel_rfl
 i171:=by kernel_rfl
 i173:=by kernel_rfl
 i212:=by kernel_rfl
 i232:=by kernel_rfl
 i233:=by kernel_rfl
 m17:=by kernel_rfl
 m18:=by kernel_rfl
 m19:=by kernel_rfl }
end Go.Proofs
namespace Go.Proofs.YtdddpbmcoimgdaaGreatDoor
namespace SX
open Go Go.Proofs
section
open Go Go.ChangeShapes Go.WideShapes
def LKv:LK→Value→Prop
 | .i k,v=>∃ n,v=.int k n∧(Lit.int k n).wf=true
 | .b,v=>∃ b,v=.bool b
 | .s,v=>∃ s:ByteArray,v=.string s∧s.size≤maxLen
def LKs:List LK→List Value→Prop
 | [],[]=>True
 | k::ls,v::cs=>LKv k v∧LKs ls cs
 | _,_=>False
theorem LKs.app:∀ {ls rs:List LK} {cs ds:List Value},LKs ls cs→LKs rs ds→LKs (ls++rs) (cs++ds)
 | [],rs,[],ds,_,h=>h
 | k::ls,rs,v::cs,ds,h,h'=>by simp only [LKs,List.cons_append] at h ⊢;exact ⟨h.1,LKs.app h.2 h'⟩
 | [],_,_::_,_,h,_=>h.elim
 | _::_,_,[],_,h,_=>h.elim
theorem ZcX {ls:List LK} {m:Nat} (hm:ls.length=m):∀ (n:Nat) (cs:List Value),cs.length=n * m→(∀ i,i < n→LKs ls ((cs.drop (i * m)).take m))→LKs (rep n ls) cs
 | 0,cs,hl,_=>by
   have:cs=[]:=List.eq_nil_of_length_eq_zero (by omega)
   subst this;simp [rep,LKs]
 | n+1,cs,hl,h=>by
   have h0:=h 0 (by omega)
   rw [Nat.zero_mul,List.drop_zero] at h0
   have h1:=ZcX hm n (cs.drop m) (by rw [List.length_drop,hl,Nat.succ_mul];omega) fun i hi=>by
    have:=h (i+1) (by omega)
    rw [List.drop_drop,show m+i * m=(i+1) * m by rw [Nat.succ_mul,Nat.add_comm]]
    exact this
   have:=h0.app h1
   rw [List.take_append_drop] at this
   simpa only [rep] using this
section
variable {H:Type} {enc:TypeId×Value→H} {P:Program} {w:World} {base:Nat} {spare:Nat→Bool} {held:Bool}
mutual
theorem trod_flat:∀ (f:Nat) (t:TypeId) (ls:List LK),shape P f t=some ls→P.cellsOf t=ls.length→∀ (fuel:Nat) (cs:List Value) (x:DataW H×List MemPlace),DataW.trod enc P w base spare held fuel t cs=some x→LKs ls cs
 | 0,t,ls,h,_,_,_,_,_=>by simp [shape] at h
 | f+1,t,ls,h,hc,fuel,cs,x,hx=>by
   unfold shape at h
   cases hu:P.underlying t with
   | none=>simp [hu] at h
   | some d=>
     rw [hu] at h
     cases d <;> simp only at h <;> try (cases h;done)
     case bool=>
      cases h
      obtain ⟨b,rfl,_⟩:=DataW.trod_bool hu hx
      exact ⟨⟨b,rfl⟩,trivial⟩
     case int k=>
      cases h
      obtain ⟨n,rfl,_,hw⟩:=DataW.trod_int hu hx
      exact ⟨⟨n,rfl,hw⟩,trivial⟩
     case string=>
      cases h
      obtain ⟨s,rfl,_,hw⟩:=DataW.trod_string hu hx
      exact ⟨⟨s,rfl,hw⟩,trivial⟩
     case struct fs=>
      cases hsh:P.stoodInHeld t with
      | true=>rw [hsh] at h;cases h
      | false=>
        rw [hsh] at h
        simp only [cond_false] at h
        obtain ⟨xs,n,rfl,_,hl,hxl,hg⟩:=DataW.trod_struct hu hx
        have:=trod_flatF f 0 fs.toList ls h n cs (fun i fl hi=>by
         have hi':fs[i]?=some fl:=by simpa using hi
         have hlt:i < xs.length:=by
          rw [hxl]
          rcases Nat.lt_or_ge i fs.size with h | h
          ·exact h
          ·rw [Array.getElem?_eq_none h] at hi';cases hi'
         exact ⟨_,(hg i fl hi').trans (List.getElem?_eq_getElem hlt)⟩) (by omega)
        rw [List.drop_zero,List.take_of_length_le (by omega)] at this
        exact this
     case array n e=>
      cases hs:shape P f e with
      | none=>rw [hs] at h;cases h
      | some es=>
        rw [hs] at h
        simp only at h
        cases hb:Nat.beq (P.cellsOf e) es.length with
        | false=>rw [hb] at h;cases h
        | true=>
          rw [hb] at h
          simp only [cond_true,Option.some.injEq] at h
          subst h
          have hce:=Nat.eq_of_beq_eq_true hb
          obtain ⟨xs,m,rfl,_,hl,hxl,hg⟩:=DataW.trod_array hu hx
          refine ZcX hce.symm n cs (by rw [hl,hc,Z5S,hce]) fun i hi=>?_
          have hlt:i < xs.length:=by omega
          exact trod_flat f e es hs hce m _ _ ((hg i hi).trans (List.getElem?_eq_getElem hlt))
theorem trod_flatF:∀ (f off:Nat) (fs:List Field) (ls:List LK),shapeF P f off fs=some ls→∀ (n:Nat) (cs:List Value),(∀ (i:Nat) (fl:Field),fs[i]?=some fl→∃ y,DataW.trod enc P w base spare held n fl.type ((cs.drop fl.offset).take (P.cellsOf fl.type))=some y)→off+ls.length≤cs.length→LKs ls ((cs.drop off).take ls.length)
 | f,off,[],ls,h,n,cs,_,_=>by
   unfold shapeF at h
   simp only [Option.some.injEq] at h
   subst h
   simp [LKs]
 | 0,off,_::_,ls,h,_,_,_,_=>by simp [shapeF] at h
 | f+1,off,x::r,ls,h,n,cs,hg,hl=>by
   unfold shapeF at h
   cases hc:(x.name == "_" || !(Nat.beq x.offset off)) with
   | true=>rw [hc] at h;cases h
   | false=>
     rw [hc] at h
     simp only [cond_false] at h
     simp only [Bool.or_eq_false_iff,Bool.not_eq_false'] at hc
     have hoff:=Nat.eq_of_beq_eq_true hc.2
     cases hs:shape P f x.type with
     | none=>rw [hs] at h;cases h
     | some es=>
       rw [hs] at h
       simp only at h
       cases hb:Nat.beq (P.cellsOf x.type) es.length with
       | false=>rw [hb] at h;cases h
       | true=>
         rw [hb] at h
         simp only [cond_true] at h
         have hce:=Nat.eq_of_beq_eq_true hb
         cases hr:shapeF P f (off+es.length) r with
         | none=>rw [hr] at h;cases h
         | some rs=>
           rw [hr] at h
           simp only [Option.some.injEq] at h
           subst h
           rw [List.length_append] at hl
           obtain ⟨y,hy⟩:=hg 0 x rfl
           have h1:=trod_flat f x.type es hs hce n _ _ hy
           rw [hoff,hce] at h1
           have h2:=trod_flatF f (off+es.length) r rs hr n cs (fun i fl hi=>hg (i+1) fl (by simpa using hi)) (by omega)
           have:=h1.app h2
           rw [← List.drop_drop,← List.take_add,← List.length_append] at this
           exact this
end
end
end
section
open Go Go.ChangeShapes Go.WideShapes Go.ChangeAt
section
variable {H:Type} {enc:TypeId×Value→H} {P:Program} {w:World} {base:Nat} {spare:Nat→Bool} {held:Bool}
end
end
theorem Z4M {P:Program} {w:World} {n:String} {d:DataW Unit}:∀ {l:List (String×DataW Unit)} {ps:List MemPlace},DataW.LaidVars P w l ps→(n,d) ∈ l →
 ∃ g t cs fuel p,P.globalNamed n=some g∧(P.globals[g]?).map (·.type)=some t∧w.var? P n=some cs∧DataW.trod (fun _=>()) P w 0 (fun _=>true) false fuel t cs.toList=some (d,p)
 | [],_,_,h=>by cases h
 | (n',d')::r,ps,hl,h=>by
   obtain ⟨g,t,cs,fuel,p,q,h1,h2,h3,h4,h5,_⟩:=hl
   rcases List.mem_cons.1 h with h | h
   ·cases h;exact ⟨g,t,cs,fuel,p,h1,h2,h3,h4⟩
   ·exact Z4M h5 h
theorem Z9z {P:Program} {l:List (String×DataW Unit)} {w:World} (hf:(l.filter fun x=>x.2.handleName?.isSome)=[]) (h:laidMetH P l w):laidMet P l w:=by
 unfold laidMetH at h
 rw [hf] at h
 exact h
theorem Zgx {H:Type} {enc:TypeId×Value→H} {P:Program} {w:World} {base:Nat} {sp:Nat→Bool} {held:Bool} {fuel:Nat} {t:TypeId} {ms} {cs:List Value} {tn:String} {d:DataW H} {p:List MemPlace}
 (ht:P.underlying t=some (.interface ms)) (h:DataW.trod enc P w base sp held fuel t cs=some (.iface tn d,p)):∃ u v,cs=[.iface u v]:=by
 cases fuel with
 | zero=>simp [DataW.trod] at h
 | succ fuel=>
   unfold DataW.trod at h
   rw [ht] at h
   match cs,h with
   | [.iface u v],_=>exact ⟨u,v,rfl⟩
   | [.nilIface],h=>simp at h
   | [],h=>simp at h
   | _::_::_,h=>simp at h
   | [.int _ _],h | [.bool _],h | [.float _ _],h | [.string _],h | [.pointer _],h | [.slice _ _ _],h | [.agg _],h | [.map _],h | [.func _ _ _],h | [.nilFunc],h | [.tuple _],h | [.chan _],h=>simp at h
def TbRow (P:Program) (laid:List (String×DataW Unit)) (g:Nat):TbV→Prop
 | .ints k zs=>∃ n t N e,(n,Lib.tabData k zs) ∈ laid∧P.globalNamed n=some g∧(P.globals[g]?).map (·.type)=some t∧P.underlying t=some (.array N e)∧P.underlying e=some (.int k)∧P.cellsOf e=1∧P.cellsOf t=N
 | .ifc=>∃ n t ms tn d,(n,.iface tn d) ∈ laid∧P.globalNamed n=some g∧(P.globals[g]?).map (·.type)=some t∧P.underlying t=some (.interface ms)
 | .anyI _=>False
theorem Zf3 {P:Program} {w:World} {n:String} {g:Nat} {cs:Array Value} (hg:P.globalNamed n=some g) (h:w.var? P n=some cs):∃ t fr,w.heap[g]?=some (.cells cs t fr):=by
 unfold World.var? at h
 rw [hg] at h
 simp only [Option.bind_some] at h
 split at h
 ·rename_i c t fr hh;cases h;exact ⟨t,fr,hh⟩
 ·cases h
theorem Zf4 {P:Program} {laid:List (String×DataW Unit)} {w:World} (hf:(laid.filter fun x=>x.2.handleName?.isSome)=[]) (h:laidMetH P laid w) (hr:∀ g v,tabs g=some v→TbRow P laid g v∨TbAt (fun b=>w.heap[b]?) g v):TabsIn w:=by
 obtain ⟨ps,hl,_⟩:=Z9z hf h
 intro g v hg
 rcases hr g v hg with hv | hv
 rotate_left
 ·exact hv
 cases v with
 | ints k zs=>
   obtain ⟨n,t,N,e,hm,h1,h2,h3,h4,h5,h6⟩:=hv
   obtain ⟨g',t',cs,fuel,p,g1,g2,g3,g4⟩:=Z4M hl hm
   obtain rfl:=Option.some.inj (h1.symm.trans g1)
   obtain rfl:=Option.some.inj (h2.symm.trans g2)
   have:=Lib.cells_of_tab h3 h4 h5 h6 g4
   obtain ⟨t2,fr,hh⟩:=Zf3 h1 g3
   refine ⟨t2,fr,?_⟩
   show w.heap[g]?=_
   rw [hh,← this]
 | anyI k=>exact hv.elim
 | ifc=>
   obtain ⟨n,t,ms,tn,d,hm,h1,h2,h3⟩:=hv
   obtain ⟨g',t',cs,fuel,p,g1,g2,g3,g4⟩:=Z4M hl hm
   obtain rfl:=Option.some.inj (h1.symm.trans g1)
   obtain rfl:=Option.some.inj (h2.symm.trans g2)
   obtain ⟨u,v,hc⟩:=Zgx h3 g4
   obtain ⟨t2,fr,hh⟩:=Zf3 h1 g3
   refine ⟨u,v,t2,fr,?_⟩
   show w.heap[g]?=_
   rw [hh]
   congr 2
   exact Array.toList_inj.1 (by simpa using hc)
theorem Zhx {w:World} {g:Nat} {k:IntKind} (h:∃ m,w.cell? ⟨g,0,none⟩=some (.int k m)):TbAt (fun b=>w.heap[b]?) g (.anyI k):=by
 obtain ⟨m,hm⟩:=h
 unfold World.cell? at hm
 simp only at hm
 split at hm
 ·rename_i arr t fr hh
  exact ⟨m,arr,t,fr,hh,by simpa using hm⟩
 ·cases hm
section
open Go Go.ChangeShapes Go.WideShapes Go.ChangeAt Go.RowKit
variable {H:Type} {enc:TypeId×Value→H}
theorem returns_shaped {a:Assume} {C:Checked} {os:Os} {f:FuncId} {fn:Func} {s:ChangeSpec} {conds:List PathCond} {apart fresh handsOn again:Bool} {X:World→Array Value→Prop}
 (hX:∀ (w w':World) (args:Array Value),w.heap=w'.heap→X w args→X w' args)
 (own:ownKnob C.prog.godebug=none) (started:os.Started) (noInit:C.prog.inits.idxOf? f=none) (hfn:C.prog.funcs[f]?=some fn)
 (witness:∃ (w:World) (tape:Tape) (i:Input),w.os=os∧(w.forCall tape i).Shaped C.prog∧i.vars=[]∧Input.okWide C.prog (w.forCall tape i) .any w.heap.size f i ∧
  ((s.pre enc C.prog fn conds apart (w.forCall tape i).memory i.args∧X (w.forCall tape i).memory i.args)∧sizedMet enc C.prog fn (OpenSpec.ofChange s) apart (w.forCall tape i).memory i.args)∧a.holds C.prog (lone (Frame.enter C.prog f i.args .normal) [] (w.forCall tape i)))
 (contract:∀ (W:World) (base:Nat) (args:Array Value) (ds gs:List (DataW H)) (before:List MemPlace),
  (∀ (j:Nat) t v,fn.params[j]?=some t→args[j]?=some v→Value.okWide C.prog W .any base t v) →
  DataW.Whole enc C.prog fn.params.toList s.vars apart W args.toList ds gs before →
  (DataW.weightsEach C.prog (fn.params.toList++s.plain.varTypes C.prog) (ds++gs)).all (· ≤ reachBytes)=true→X W args→W.ShapedOpen C.prog →
  Calls C.prog f args W fun e W'=>∃ v,e=.returned v∧s.post enc C.prog fn apart fresh handsOn again W args v W') :
 ReturnsInHanded a C os f .any (fun w args=>(s.pre enc C.prog fn conds apart w args∧X w args)∧sizedMet enc C.prog fn (OpenSpec.ofChange s) apart w args) (s.post enc C.prog fn apart fresh handsOn again):=by
 refine returnsInHanded_of_calls own started noInit witness ?_
 intro w tape i _ hsh _ hok hpre hholds
 obtain ⟨_,_,_,fn',hfn',_,_,_,_,hval⟩:=hok
 have e:fn'=fn:=Option.some.inj (hfn'.symm.trans hfn)
 subst e
 obtain ⟨⟨⟨ds,gs,before,hw,hc⟩,hx⟩,hz⟩:=hpre
 have hw':=DataW.Whole.of_heap (w':=w.forCall tape i) (by rfl) hw
 refine (contract (w.forCall tape i) w.heap.size i.args ds gs before hval hw' (hz.weights hw) (hX _ _ _ (by rfl) hx) hsh).mono fun e W' ⟨v,he,hp⟩=>?_
 subst he
 exact ChangeSpec.post_blind hp
end
section
open Go Go.ChangeShapes Go.WideShapes
section
variable {H:Type} {enc:TypeId×Value→H} {P:Program} {w:World} {base:Nat} {spare:Nat→Bool} {held:Bool}
def memQ (w:World):Mem:=Z2a w fun _=>true
theorem Zhy (w:World) (b:Nat):memQ w b=w.heap[b]?:=by unfold memQ Z2a;simp
theorem Zgy {t e:TypeId} (ht:P.underlying t=some (.slice e)) (hpos:0 < P.cellsOf e) {fuel:Nat} {c:List Value} {x:DataW H×List MemPlace} (h:DataW.trod enc P w base spare held fuel t c=some x) :
 ∃ (rows:List (List Value)) (a:Option Addr) (cap:Nat),c=[.slice a rows.length cap]∧rows.length≤cap∧cap≤maxLen∧(∀ row ∈ rows,row.length=P.cellsOf e∧∃ n y,DataW.trod enc P w base spare held n e row=some y) ∧
   (rows≠[]→∃ ad arr ty fr,a=some ad∧ad.spot=none∧w.heap[ad.block]?=some (.cells arr ty fr)∧∀ j row,rows[j]?=some row→∀ u c,row[u]?=some c→arr[ad.off+j * P.cellsOf e+u]?=some c):=by
 rcases DataW.trod_slice ht h with ⟨e1,_⟩ | ⟨a,l0,c0,elems,rest,n,rfl,e1,_,_,h1,h2,h3,h4,_⟩
 ·exact ⟨[],none,0,e1,Nat.le_refl _,Nat.zero_le _,fun row hr=>(by cases hr),fun h=>absurd rfl h⟩
 ·have hrow:∀ j,j < l0→∃ row y,w.cells? base (a.add (j * P.cellsOf e)) (P.cellsOf e)=some row∧DataW.trod enc P w base spare held n e row=some y:=fun j hj=>by
   have:=h4 j hj
   rw [List.getElem?_eq_getElem (by omega)] at this
   obtain ⟨row,q1,q2⟩:=Option.bind_eq_some_iff.1 this
   exact ⟨row,_,q1,q2⟩
  have hlen:∀ j row,w.cells? base (a.add (j * P.cellsOf e)) (P.cellsOf e)=some row→row.length=P.cellsOf e:=fun j row q1=>by
   unfold World.cells? at q1
   split at q1
   ·have hl:=mapM_some_length q1
    simpa using hl
   ·cases q1
  have hget:∀ j,j < l0→((List.range l0).map fun j=>(w.cells? base (a.add (j * P.cellsOf e)) (P.cellsOf e)).getD [])[j]?=some ((w.cells? base (a.add (j * P.cellsOf e)) (P.cellsOf e)).getD []):=fun j hj=>by
   rw [List.getElem?_map,List.getElem?_range hj];rfl
  have hcell:∀ j,j < l0→∀ u c,((w.cells? base (a.add (j * P.cellsOf e)) (P.cellsOf e)).getD [])[u]?=some c→u < P.cellsOf e∧w.cell? ((a.add (j * P.cellsOf e)).add u)=some c:=fun j hj u c hu=>by
   obtain ⟨row,y,q1,q2⟩:=hrow j hj
   rw [q1] at hu
   simp only [Option.getD_some] at hu
   unfold World.cells? at q1
   split at q1
   ·have hl:=mapM_some_length q1
    have hlt:u < row.length:=(List.getElem?_eq_some_iff.1 hu).1
    have hlt2:u < P.cellsOf e:=by simpa [hl] using hlt
    have:=mapM_some_get q1 u u (by simp [hlt2])
    exact ⟨hlt2,by rw [this,hu]⟩
   ·cases q1
  refine ⟨(List.range l0).map fun j=>(w.cells? base (a.add (j * P.cellsOf e)) (P.cellsOf e)).getD [],some a,c0,by simpa using e1,by simp;omega,by omega,fun row hr=>?_,fun hne=>?_⟩
  ·obtain ⟨j,hj,rfl⟩:=List.mem_map.1 hr
   obtain ⟨row,y,q1,q2⟩:=hrow j (by simpa using hj)
   rw [q1]
   exact ⟨hlen j row q1,n,y,q2⟩
  ·have hl0:0 < l0:=by
    rcases Nat.eq_zero_or_pos l0 with h | h
    ·subst h;exact absurd rfl hne
    ·exact h
   obtain ⟨row,y,q1,q2⟩:=hrow 0 hl0
   have hrl:=hlen 0 row q1
   have h00:=(hcell 0 hl0 0 (row[0]'(by omega)) (by rw [q1];simp)).2
   have ha0:a.add 0=a:=by simp [Addr.add]
   rw [Nat.zero_mul,ha0,ha0] at h00
   have hsp:=World.cell?_spot h00
   have hadd:∀ k,(a.add k).spot=none∧(a.add k).block=a.block∧(a.add k).off=a.off+k:=fun k=>by
    unfold Addr.add
    split
    ·rename_i h;subst h;exact ⟨hsp,rfl,rfl⟩
    ·exact ⟨rfl,rfl,rfl⟩
   have hadd2:∀ k u,(a.add k).add u=⟨a.block,a.off+k+u,none⟩:=fun k u=>by
    obtain ⟨g1,g2,g3⟩:=hadd k
    unfold Addr.add at g1 g2 g3 ⊢
    split
    ·rename_i h
     subst h
     simp only [Nat.add_zero]
     split
     ·rename_i h;subst h
      cases a;simp only at hsp;subst hsp;rfl
     ·rfl
    ·split
     ·rename_i h;subst h;simp
     ·rfl
   have h00':=h00
   unfold World.cell? at h00'
   split at h00'
   ·rename_i arr ty fr hblk
    refine ⟨a,arr,ty,fr,rfl,hsp,hblk,fun j row hj u c hu=>?_⟩
    have hjl:j < l0:=by have:=(List.getElem?_eq_some_iff.1 hj).1;simpa using this
    rw [hget j hjl] at hj
    cases hj
    have h5:=(hcell j hjl u c hu).2
    rw [hadd2] at h5
    unfold World.cell? at h5
    rw [hblk] at h5
    simp only [Option.isSome_none,Bool.false_eq_true,if_false] at h5
    exact h5
   ·cases h00'
theorem open_immQ {t e:TypeId} (ht:P.underlying t=some (.slice e)) {α:Type} (d:α) {n:Nat} (en:α→List SV) (hn:P.cellsOf e=n) (hpos:0 < n) (hw:∀ x,wdL (en x)=n) (Q:α→Prop)
 (hdec:∀ m row y,DataW.trod enc P w base spare held m e row=some y→row.length=n→∃ x,row=cellsL E0 (en x)∧OkL (memQ w) [] (en x)∧Q x) {fuel:Nat} {c:List Value} {x:DataW H×List MemPlace} (h:DataW.trod enc P w base spare held fuel t c=some x) :
 ∃ (xs:List α) (a:Option Addr) (cap:Nat),c=[.slice a xs.length cap]∧Ok (memQ w) [] (.imm α d n en xs a cap)∧cap≤maxLen∧∀ x ∈ xs,Q x:=by
 obtain ⟨rows,a,cap,rfl,h1,h2,h3,h4⟩:=Zgy ht (by omega) h
 have hx:∃ xs:List α,(rows=xs.map fun x=>cellsL E0 (en x))∧∀ x ∈ xs,OkL (memQ w) [] (en x)∧Q x:=by
  clear h h4 h1
  induction rows with
  | nil=>exact ⟨[],rfl,fun x hx=>by cases hx⟩
  | cons row rows ih=>
    obtain ⟨xs,hxs,hq⟩:=ih fun r hr=>h3 r (List.mem_cons_of_mem _ hr)
    obtain ⟨hl,m,y,hy⟩:=h3 row List.mem_cons_self
    obtain ⟨x,hx,hok⟩:=hdec m row y hy (by omega)
    exact ⟨x::xs,by rw [hxs,hx];rfl,fun z hz=>by
     rcases List.mem_cons.1 hz with rfl | hz
     ·exact hok
     ·exact hq z hz⟩
 obtain ⟨xs,rfl,hq⟩:=hx
 rw [List.length_map] at *
 refine ⟨xs,a,cap,rfl,?_,h2,fun x hx=>(hq x hx).2⟩
 simp only [Ok]
 refine ⟨h1,fun hne=>?_,hw,fun j hj=>?_⟩
 ·obtain ⟨ad,arr,ty,fr,rfl,e2,e3,e4⟩:=h4 (by simpa using hne)
  refine ⟨ad,arr,ty,fr,rfl,e2,by rw [Zhy];exact e3,fun j hj u c hu=>?_⟩
  have:=e4 j (cellsL E0 (en (xs.getD j d))) (by
   rw [List.getElem?_map,List.getElem?_eq_getElem hj]
   simp [List.getD_eq_getElem?_getD,List.getElem?_eq_getElem hj]) u c hu
  rw [hn] at this
  exact this
 ·rw [List.getD_eq_getElem?_getD,List.getElem?_eq_getElem hj]
  exact (hq _ (List.getElem_mem hj)).1
end
end
theorem Zhz (c:Cn) (m:Mem):OkL m [] (cenc c):=by simp [cenc,OkL,Ok,isUnit]
theorem Zf5 {cs:List Cn} (h:ZU cs=true):Z93 cs:=by unfold ZU at h;simpa using h
end SX
end Go.Proofs.YtdddpbmcoimgdaaGreatDoor
set_option maxRecDepth 100000
namespace Go.Proofs
open Go.Shelf
def Zao:Go.Shelf.Ren:=⟨fun | 143=>120 | 219=>142 | 217=>146 | 225=>165 | 224=>166 | 267=>167 | 266=>171 | 314=>205 | n=>n,fun | 9=>9 | 3=>3 | 4=>4 | 5=>5 | 46=>190 | 146=>225 | 51=>224 | n=>n,fun | 1=>0 | n=>n⟩
theorem Zf6:Go.Proofs.Lays.n143 Tryz.prog Zao:={
 mixed:=by kernel_rfl
 f143:=Tryz.func120.trans (congrArg some (by kernel_rfl))
 f217:=Tryz.func146.trans (congrArg some (by kernel_rfl))
 f219:=Tryz.func142.trans (congrArg some (by kernel_rfl))
 f224:=Tryz.func166.trans (congrArg some (by kernel_rfl))
 f225:=Tryz.func165.trans (congrArg some (by kernel_rfl))
 f266:=Tryz.func171.trans (congrArg some (by kernel_rfl))
 f267:=Tryz.func167.trans (congrArg some (by kernel_rfl))
 f314:=Tryz.func205.trans (congrArg some (by kernel_rfl))
 t3:=Tryz.underlying3
 a3:=Tryz.isAgg3
 z3:=Tryz.sizeOf3
 v3:=Tryz.zeroValue3
 t4:=Tryz.underlying4
 a4:=Tryz.isAgg4
 z4:=Tryz.sizeOf4
 v4:=Tryz.zeroValue4
 t5:=Tryz.underlying5
 a5:=Tryz.isAgg5
 z5:=Tryz.sizeOf5
 v5:=Tryz.zeroValue5
 t9:=Tryz.underlying9
 a9:=Tryz.isAgg9
 z9:=Tryz.sizeOf9
 v9:=Tryz.zeroValue9
 t46:=Tryz.underlying190
 a46:=Tryz.isAgg190
 z46:=Tryz.sizeOf190
 v46:=Tryz.zeroValue190
 t51:=Tryz.underlying224
 a51:=Tryz.isAgg224
 z51:=Tryz.sizeOf224
 v51:=Tryz.zeroValue224
 t146:=Tryz.underlying225
 a146:=Tryz.isAgg225
 z146:=Tryz.sizeOf225
 v146:=Tryz.zeroValue225
 g1:=by kernel_rfl }
end Go.Proofs
set_option maxRecDepth 100000
namespace Go.Proofs
open Go.Shelf
def Zap:Go.Shelf.Ren:=⟨fun | 144=>144 | 143=>120 | 219=>142 | 217=>146 | 225=>165 | 224=>166 | 267=>167 | 266=>171 | 314=>205 | n=>n,fun | 9=>9 | 4=>4 | 3=>3 | 5=>5 | 46=>190 | 146=>225 | 51=>224 | n=>n,fun | 1=>0 | n=>n⟩
theorem Zf7:Go.Proofs.Lays.n144 Tryz.prog Zap:={
 mixed:=by kernel_rfl
 f143:=Tryz.func120.trans (congrArg some (by kernel_rfl))
 f144:=Tryz.func144.trans (congrArg some (by kernel_rfl))
 f217:=Tryz.func146.trans (congrArg some (by kernel_rfl))
 f219:=Tryz.func142.trans (congrArg some (by kernel_rfl))
 f224:=Tryz.func166.trans (congrArg some (by kernel_rfl))
 f225:=Tryz.func165.trans (congrArg some (by kernel_rfl))
 f266:=Tryz.func171.trans (congrArg some (by kernel_rfl))
 f267:=Tryz.func167.trans (congrArg some (by kernel_rfl))
 f314:=Tryz.func205.trans (congrArg some (by kernel_rfl))
 t3:=Tryz.underlying3
 a3:=Tryz.isAgg3
 z3:=Tryz.sizeOf3
 v3:=Tryz.zeroValue3
 t4:=Tryz.underlying4
 a4:=Tryz.isAgg4
 z4:=Tryz.sizeOf4
 v4:=Tryz.zeroValue4
 t5:=Tryz.underlying5
 a5:=Tryz.isAgg5
 z5:=Tryz.sizeOf5
 v5:=Tryz.zeroValue5
 t9:=Tryz.underlying9
 a9:=Tryz.isAgg9
 z9:=Tryz.sizeOf9
 v9:=Tryz.zeroValue9
 t46:=Tryz.underlying190
 a46:=Tryz.isAgg190
 z46:=Tryz.sizeOf190
 v46:=Tryz.zeroValue190
 t51:=Tryz.underlying224
 a51:=Tryz.isAgg224
 z51:=Tryz.sizeOf224
 v51:=Tryz.zeroValue224
 t146:=Tryz.underlying225
 a146:=Tryz.isAgg225
 z146:=Tryz.sizeOf225
 v146:=Tryz.zeroValue225
 g1:=by kernel_rfl }
end Go.Proofs
set_option maxRecDepth 100000
namespace Go.Proofs
open Go.Shelf
def Zaq:Go.Shelf.Ren:=⟨fun | 137=>127 | 217=>146 | 266=>171 | n=>n,fun | 9=>9 | 5=>5 | 3=>3 | n=>n,fun | n=>n⟩
theorem Zf8:Go.Proofs.Lays.n137 Tryz.prog Zaq:={
 mixed:=by kernel_rfl
 f137:=Tryz.func127.trans (congrArg some (by kernel_rfl))
 f217:=Tryz.func146.trans (congrArg some (by kernel_rfl))
 f266:=Tryz.func171.trans (congrArg some (by kernel_rfl))
 t3:=Tryz.underlying3
 a3:=Tryz.isAgg3
 z3:=Tryz.sizeOf3
 v3:=Tryz.zeroValue3
 t5:=Tryz.underlying5
 a5:=Tryz.isAgg5
 z5:=Tryz.sizeOf5
 v5:=Tryz.zeroValue5
 t9:=Tryz.underlying9
 a9:=Tryz.isAgg9
 z9:=Tryz.sizeOf9
 v9:=Tryz.zeroValue9 }
end Go.Proofs
set_option maxRecDepth 100000
namespace Go.Proofs
open Go.Shelf
def Zar:Go.Shelf.Ren:=⟨fun | 17=>170 | 21=>208 | 22=>209 | 23=>210 | 24=>211 | 25=>230 | 27=>219 | 26=>231 | 28=>237 | 29=>243 | 30=>201 | 31=>202 | 32=>203 | 33=>204 | 35=>226 | 34=>225 | 36=>227 | 37=>228 | 38=>229 | 39=>239 | 40=>240 | n=>n,fun | 9=>9 | 3=>3 | 24=>170 | 34=>227 | 4=>4 | 39=>229 | 44=>247 | 37=>117 | 0=>0 | 47=>267 | 50=>270 | 48=>268 | 2=>2 | 52=>219 | 22=>151 | 5=>5 | 55=>222 | 59=>242 | 60=>224 | 20=>20 | 61=>243 | 36=>190 | 65=>274 | 66=>275 | 67=>64 | n=>n,fun | 0=>4 | 1=>5 | 2=>3 | 3=>6 | 4=>7 | n=>n⟩
theorem Zf9:Go.Proofs.LaysPu.n17 Tryz.prog Zar:={
 mixed:=by kernel_rfl
 f17:=Tryz.func170.trans (congrArg some (by kernel_rfl))
 f21:=Tryz.func208.trans (congrArg some (by kernel_rfl))
 f22:=Tryz.func209.trans (congrArg some (by kernel_rfl))
 f23:=Tryz.func210.trans (congrArg some (by kernel_rfl))
 f24:=Tryz.func211.trans (congrArg some (by kernel_rfl))
 f25:=Tryz.func230.trans (congrArg some (by kernel_rfl))
 f26:=Tryz.func231.trans (congrArg some (by kernel_rfl))
 f27:=Tryz.func219.trans (congrArg some (by kernel_rfl))
 f28:=Tryz.func237.trans (congrArg some (by kernel_rfl))
 f29:=Tryz.func243.trans (congrArg some (by kernel_rfl))
 f30:=Tryz.func201.trans (congrArg some (by kernel_rfl))
 f31:=Tryz.func202.trans (congrArg some (by kernel_rfl))
 f32:=Tryz.func203.trans (congrArg some (by kernel_rfl))
 f33:=Tryz.func204.trans (congrArg some (by kernel_rfl))
 f34:=Tryz.func225.trans (congrArg some (by kernel_rfl))
 f35:=Tryz.func226.trans (congrArg some (by kernel_rfl))
 f36:=Tryz.func227.trans (congrArg some (by kernel_rfl))
 f37:=Tryz.func228.trans (congrArg some (by kernel_rfl))
 f38:=Tryz.func229.trans (congrArg some (by kernel_rfl))
 f39:=Tryz.func239.trans (congrArg some (by kernel_rfl))
 f40:=Tryz.func240.trans (congrArg some (by kernel_rfl))
 t0:=Tryz.underlying0
 a0:=Tryz.isAgg0
 z0:=Tryz.sizeOf0
 v0:=Tryz.zeroValue0
 i0:=by kernel_rfl
 t2:=Tryz.underlying2
 a2:=Tryz.isAgg2
 z2:=Tryz.sizeOf2
 v2:=Tryz.zeroValue2
 i2:=by kernel_rfl
 t3:=Tryz.underlying3
 a3:=Tryz.isAgg3
 z3:=Tryz.sizeOf3
 v3:=Tryz.zeroValue3
 i3:=by kernel_rfl
 t4:=Tryz.underlying4
 a4:=Tryz.isAgg4
 z4:=Tryz.sizeOf4
 v4:=Tryz.zeroValue4
 i4:=by kernel_rfl
 t5:=Tryz.underlying5
 a5:=Tryz.isAgg5
 z5:=Tryz.sizeOf5
 v5:=Tryz.zeroValue5
 i5:=by kernel_rfl
 t9:=Tryz.underlying9
 a9:=Tryz.isAgg9
 z9:=Tryz.sizeOf9
 v9:=Tryz.zeroValue9
 i9:=by kernel_rfl
 t20:=Tryz.underlying20
 a20:=Tryz.isAgg20
 z20:=Tryz.sizeOf20
 v20:=Tryz.zeroValue20
 i20:=by kernel_rfl
 t22:=Tryz.underlying151
 a22:=Tryz.isAgg151
 z22:=Tryz.sizeOf151
 v22:=Tryz.zeroValue151
 i22:=by kernel_rfl
 t24:=Tryz.underlying170
 a24:=Tryz.isAgg170
 z24:=Tryz.sizeOf170
 v24:=Tryz.zeroValue170
 i24:=by kernel_rfl
 t34:=Tryz.underlying227
 a34:=Tryz.isAgg227
 z34:=Tryz.sizeOf227
 v34:=Tryz.zeroValue227
 i34:=by kernel_rfl
 c34:=by kernel_rfl
 t36:=Tryz.underlying190
 a36:=Tryz.isAgg190
 z36:=Tryz.sizeOf190
 v36:=Tryz.zeroValue190
 i36:=by kernel_rfl
 t37:=Tryz.underlying117
 a37:=Tryz.isAgg117
 z37:=Tryz.sizeOf117
 v37:=Tryz.zeroValue117
 i37:=by kernel_rfl
 t39:=Tryz.underlying229
 a39:=Tryz.isAgg229
 z39:=Tryz.sizeOf229
 v39:=Tryz.zeroValue229
 i39:=by kernel_rfl
 t44:=Tryz.underlying247
 a44:=Tryz.isAgg247
 z44:=Tryz.sizeOf247
 v44:=Tryz.zeroValue247
 i44:=by kernel_rfl
 t47:=Tryz.underlying267
 a47:=Tryz.isAgg267
 z47:=Tryz.sizeOf267
 v47:=Tryz.zeroValue267
 i47:=by kernel_rfl
 t48:=Tryz.underlying268
 a48:=Tryz.isAgg268
 z48:=Tryz.sizeOf268
 v48:=Tryz.zeroValue268
 i48:=by kernel_rfl
 t50:=Tryz.underlying270
 a50:=Tryz.isAgg270
 z50:=Tryz.sizeOf270
 v50:=Tryz.zeroValue270
 i50:=by kernel_rfl
 t52:=Tryz.underlying219
 a52:=Tryz.isAgg219
 z52:=Tryz.sizeOf219
 v52:=Tryz.zeroValue219
 i52:=by kernel_rfl
 t55:=Tryz.underlying222
 a55:=Tryz.isAgg222
 z55:=Tryz.sizeOf222
 v55:=Tryz.zeroValue222
 i55:=by kernel_rfl
 t59:=Tryz.underlying242
 a59:=Tryz.isAgg242
 z59:=Tryz.sizeOf242
 v59:=Tryz.zeroValue242
 i59:=by kernel_rfl
 t60:=Tryz.underlying224
 a60:=Tryz.isAgg224
 z60:=Tryz.sizeOf224
 v60:=Tryz.zeroValue224
 i60:=by kernel_rfl
 t61:=Tryz.underlying243
 a61:=Tryz.isAgg243
 z61:=Tryz.sizeOf243
 t65:=Tryz.underlying274
 a65:=Tryz.isAgg274
 z65:=Tryz.sizeOf274
 v65:=Tryz.zeroValue274
 i65:=by kernel_rfl
 t66:=Tryz.underlying275
 a66:=Tryz.isAgg275
 z66:=Tryz.sizeOf275
 v66:=Tryz.zeroValue275
 i66:=by kernel_rfl
 t67:=Tryz.underlying64
 a67:=Tryz.isAgg64
 z67:=Tryz.sizeOf64
 v67:=Tryz.zeroValue64
 i67:=by kernel_rfl
 g0:=by kernel_rfl
 m0:=by kernel_rfl
 g1:=by kernel_rfl
 m1:=by kernel_rfl
 g2:=by kernel_rfl
 m2:=by kernel_rfl
 g3:=by kernel_rfl
 m3:=by kernel_rfl
 g4:=by kernel_rfl
 m4:=by kernel_rfl }
end Go.Proofs
namespace Go.Proofs.YtdddpbmcoimgdaaGreatDoor
namespace SX
open Go Go.Proofs
end SX
end Go.Proofs.YtdddpbmcoimgdaaGreatDoor
set_option maxRecDepth 100000
namespace Go.Proofs
open Go.Shelf
def Z5D:Go.Shelf.Ren:=⟨fun | 156=>218 | 165=>234 | 166=>235 | 169=>236 | 240=>241 | 241=>242 | 276=>244 | 277=>245 | n=>n,fun | 31=>173 | 9=>9 | 3=>3 | 4=>4 | 0=>0 | 20=>20 | 72=>262 | 76=>264 | 70=>260 | 37=>117 | 75=>170 | 127=>267 | 164=>276 | 5=>5 | 80=>64 | n=>n,fun | n=>n⟩
theorem ZdQ:Go.Proofs.Lays.n156 Tryz.prog Z5D:={
 mixed:=by kernel_rfl
 f156:=Tryz.func218.trans (congrArg some (by kernel_rfl))
 f165:=Tryz.func234.trans (congrArg some (by kernel_rfl))
 f166:=Tryz.func235.trans (congrArg some (by kernel_rfl))
 f169:=Tryz.func236.trans (congrArg some (by kernel_rfl))
 f240:=Tryz.func241.trans (congrArg some (by kernel_rfl))
 f241:=Tryz.func242.trans (congrArg some (by kernel_rfl))
 f276:=Tryz.func244.trans (congrArg some (by kernel_rfl))
 f277:=Tryz.func245.trans (congrArg some (by kernel_rfl))
 t0:=Tryz.underlying0
 a0:=Tryz.isAgg0
 z0:=Tryz.sizeOf0
 v0:=Tryz.zeroValue0
 t3:=Tryz.underlying3
 a3:=Tryz.isAgg3
 z3:=Tryz.sizeOf3
 v3:=Tryz.zeroValue3
 t4:=Tryz.underlying4
 a4:=Tryz.isAgg4
 z4:=Tryz.sizeOf4
 v4:=Tryz.zeroValue4
 t9:=Tryz.underlying9
 a9:=Tryz.isAgg9
 z9:=Tryz.sizeOf9
 v9:=Tryz.zeroValue9
 t20:=Tryz.underlying20
 a20:=Tryz.isAgg20
 z20:=Tryz.sizeOf20
 v20:=Tryz.zeroValue20
 t31:=Tryz.underlying173
 a31:=Tryz.isAgg173
 z31:=Tryz.sizeOf173
 v31:=Tryz.zeroValue173
 t37:=Tryz.underlying117
 a37:=Tryz.isAgg117
 z37:=Tryz.sizeOf117
 v37:=Tryz.zeroValue117
 t70:=Tryz.underlying260
 a70:=Tryz.isAgg260
 z70:=Tryz.sizeOf260
 v70:=Tryz.zeroValue260
 t72:=Tryz.underlying262
 a72:=Tryz.isAgg262
 z72:=Tryz.sizeOf262
 v72:=Tryz.zeroValue262
 t75:=Tryz.underlying170
 a75:=Tryz.isAgg170
 z75:=Tryz.sizeOf170
 v75:=Tryz.zeroValue170
 t76:=Tryz.underlying264
 a76:=Tryz.isAgg264
 z76:=Tryz.sizeOf264
 v76:=Tryz.zeroValue264
 t127:=Tryz.underlying267
 a127:=Tryz.isAgg267
 z127:=Tryz.sizeOf267
 v127:=Tryz.zeroValue267
 t164:=Tryz.underlying276
 a164:=Tryz.isAgg276
 z164:=Tryz.sizeOf276
 v164:=Tryz.zeroValue276 }
end Go.Proofs
namespace Go.Proofs.YtdddpbmcoimgdaaGreatDoor
namespace SX
open Go Go.Proofs
def ArmBar:Memo:=⟨197,
 [],
 [],
 (.tup [(.sl 0 1 0 3 (.some 3) 0),(.sl 1 1 0 3 (.some 3)
 0)]),
 [(.mem 9 [(.s [83,89]),(.s [76,68]),(.s [83,84])] 1 0),(.mem 217 [(.i .i64 3),(.i .i64 3),(.i .i64 1),(.i .i64 3),(.i .i64 2),(.i .i64 2)] 1
 0)]⟩
theorem Zfa:Z2W Tryz.prog ArmBar:=Z3a (tr:=treeF) (ft:=ftree) (ms:=[]) (n:=40) Z5 ftOk mixed (by intro m hm;cases hm) (by decide +kernel)
section
section
variable {P:Program} {T:Tb} {ops:Array Oper} {o:Oper}
end
end
section
open Go Go.Proofs Go.Sort
theorem Rel.tabs {E C m H w} (h:Rel E C m H w):TabsIn w:=h.mf.2.mono h.im
theorem Zgz {P:Program} {w:World} {n:String} {g:Nat} {k:IntKind} {zs:List Int} (hT:TabsIn w) (hg:P.globalNamed n=some g) (ht:SX.tabs g=some (.ints k zs)):Lib.TabIs P w n k zs:=by
 obtain ⟨t,fr,h⟩:=hT g _ ht
 have h:w.heap[g]?=some (.cells (zs.map (.int k)).toArray t fr):=h
 unfold Lib.TabIs World.var?
 rw [hg]
 simp only [Option.bind_some,h]
theorem Rel.grown {E C m w} (h:Rel E C m [] w) (k:Nat) (os:Array Obj):Rel E C m [] (Sort.grow (w.drewN k) os):=by
 refine ⟨h.os,h.tape,⟨h.output.1,h.output.2.trans (Nat.le_add_right _ _)⟩,fun b o hb=>?_,fun b o hb=>?_,h.mf,fun k B hB=>by simp at hB,fun k v hv=>(Z1V hv).elim,?_,?_⟩
 ·have h1:=h.im b o hb
  show (w.heap++os)[b]?=some o
  rw [Array.getElem?_append_left (ZE h1)];exact h1
 ·have h1:=h.fr b o hb
  show (w.heap++os)[b]?=some o
  rw [Array.getElem?_append_left (ZE h1)];exact h1
 ·rintro k b ⟨B,hB,_⟩;simp at hB
 ·rintro j k b ⟨B,hB,_⟩;simp at hB
theorem Rel.below {E C m H w w'} (hd:Z6r=false) (h:Rel E C m H w) (hb:Go.RowKit.Below w.heap.size w w'):Rel E C m H w':=by
 have hk:∀ b o,w.heap[b]?=some o→w'.heap[b]?=some o:=fun b o hbo=>by rw [hb.block b (ZE hbo)];exact hbo
 refine ⟨hb.os.trans h.os,hb.tape.trans h.tape,⟨hb.output.trans h.output.1,fun e=>by rw [hd] at e;cases e⟩,fun b o hbo=>hk b o (h.im b o hbo),fun b o hbo=>hk b o (h.fr b o hbo),h.mf,fun k B hB=>?_,h.nn,h.sp,h.inj⟩
 refine (h.bl k B hB).mono (.refl ..) (fun _ _=>rfl) fun b hbk=>?_
 obtain ⟨o,ho⟩:=(h.bl k B hB).block hB b ⟨B,hB,hbk⟩
 rw [hk b o ho,ho]
theorem ZbV {P:Program} (hd:Z6r=false) {f:FuncId} {fn:Func} {c:Code} (hf:P.funcs[f]?=some fn) (hb:fn.body=some c) (hnm:(fn.name == "runtime.NumGoroutine")=false) {args:List SV} {H:List SB} {r:SV} (hok:∀ m,Ok m (vers H) r) (hl:live r=true)
 (h:∀ C E m w,Rel E C m H w→OkA m (vers H) args→Calls P f (denL E args).toArray w (fun e w'=>e=.returned (den E r)∧Go.RowKit.Below w.heap.size w w')):Ctr P f args H (fun r' h=>r'=r∧h=H):=by
 refine ⟨fun C E m w hr ha=>?_⟩
 have hrun:(callFunc f (denL E args).toArray).run P w=.ok (.enter f (denL E args).toArray) w:=by
  have h1:fn.name ≠ "runtime.NumGoroutine":=by simpa using hnm
  simp [callFunc,hf,h1,hb]
 unfold Z32
 rw [hrun]
 refine (h C E m w hr ha).mono ?_
 rintro e w' ⟨rfl,hw⟩
 exact ⟨_,rfl,r,H,E,m,rfl,⟨rfl,rfl⟩,⟨hok m,hl⟩,.refl ..,hr.below hd hw⟩
theorem Z3t {P:Program} {f:FuncId} {fn:Func} {c:Code} (hf:P.funcs[f]?=some fn) (hb:fn.body=some c) (hnm:(fn.name == "runtime.NumGoroutine")=false) {args:List SV} {r:SV} (hok:∀ m,Ok m [] r) (hl:live r=true)
 (h:∀ w,TabsIn w→∀ E m,OkA m [] args→Calls P f (denL E args).toArray w (fun e w'=>e=.returned (den E r)∧∃ k os,w'=grow (w.drewN k) os)):CtrV P f args r:=by
 refine ⟨fun C E m w hr ha=>?_⟩
 have hrun:(callFunc f (denL E args).toArray).run P w=.ok (.enter f (denL E args).toArray) w:=by
  have h1:fn.name ≠ "runtime.NumGoroutine":=by simpa using hnm
  simp [callFunc,hf,h1,hb]
 unfold Z32
 rw [hrun]
 refine (h w hr.tabs E m ha).mono ?_
 rintro e w' ⟨rfl,k,os,rfl⟩
 exact ⟨_,rfl,r,[],E,m,rfl,⟨rfl,rfl⟩,⟨hok m,hl⟩,.refl ..,hr.grown k os⟩
end
theorem Zfb:tabs 3=some (.ints .u64 Lib.pow10Tab):=by kernel_rfl
theorem Z7l (n:Int) (h0 : -9223372036854775808≤n) (h1:n≤9223372036854775807):CtrV Tryz.prog 219 [.i .i64 n] (.s (Lib.itoa n)):=
 Z3t (fn:=Tryz.f219) Tryz.func219 Z Z (fun m=>trivial) rfl fun w hT E m _=>
  Any.strconv_Itoa Zf2 n h0 h1 w (Zgz hT (by kernel_rfl) Zfb)
theorem tabsIn_row {laid:List (String×DataW Unit)} {W:World} (h:laidMetH Tryz.prog laid W) (hf:(laid.filter fun x=>x.2.handleName?.isSome)=[]) (hsh:W.ShapedOpen Tryz.prog)
 {n6 n7 n3 n5 n4 n1:String} (h6:(n6,Rows.laid_math_bits_deBruijn32tab) ∈ laid) (h7:(n7,Rows.laid_math_bits_deBruijn64tab) ∈ laid) (h3:(n3,Rows.laid_internal_strconv_uint64pow10) ∈ laid) (h5:(n5,Rows.laid_strconv_ErrRange) ∈ laid) (h4:(n4,Rows.laid_strconv_ErrSyntax) ∈ laid) (h1:(n1,Rows.laid_strings_asciiSpace) ∈ laid) (g6:Tryz.prog.globalNamed n6=some 6) (g7:Tryz.prog.globalNamed n7=some 7) (g3:Tryz.prog.globalNamed n3=some 3) (g5:Tryz.prog.globalNamed n5=some 5) (g4:Tryz.prog.globalNamed n4=some 4) (g1:Tryz.prog.globalNamed n1=some 1):TabsIn W:=by
 refine Zf4 hf h fun g v hg=>?_
 unfold tabs at hg
 cases c0:Nat.beq g 6 with
 | true=>
   rw [c0] at hg
   cases hg
   obtain rfl:=Nat.eq_of_beq_eq_true c0
   exact .inl ⟨_,274,_,5,h6,g6,by kernel_rfl,Tryz.underlying274,Tryz.underlying5,by kernel_rfl,by kernel_rfl⟩
 | false=>
 rw [c0] at hg
 simp only [cond_false] at hg
 cases c1:Nat.beq g 7 with
 | true=>
   rw [c1] at hg
   cases hg
   obtain rfl:=Nat.eq_of_beq_eq_true c1
   exact .inl ⟨_,275,_,5,h7,g7,by kernel_rfl,Tryz.underlying275,Tryz.underlying5,by kernel_rfl,by kernel_rfl⟩
 | false=>
 rw [c1] at hg
 simp only [cond_false] at hg
 cases c2:Nat.beq g 3 with
 | true=>
   rw [c2] at hg
   cases hg
   obtain rfl:=Nat.eq_of_beq_eq_true c2
   exact .inl ⟨_,242,_,151,h3,g3,by kernel_rfl,Tryz.underlying242,Tryz.underlying151,by kernel_rfl,by kernel_rfl⟩
 | false=>
 rw [c2] at hg
 simp only [cond_false] at hg
 cases c3:Nat.beq g 5 with
 | true=>
   rw [c3] at hg
   cases hg
   obtain rfl:=Nat.eq_of_beq_eq_true c3
   exact .inl ⟨_,170,_,_,_,h5,g5,by kernel_rfl,Tryz.underlying170⟩
 | false=>
 rw [c3] at hg
 simp only [cond_false] at hg
 cases c4:Nat.beq g 4 with
 | true=>
   rw [c4] at hg
   cases hg
   obtain rfl:=Nat.eq_of_beq_eq_true c4
   exact .inl ⟨_,170,_,_,_,h4,g4,by kernel_rfl,Tryz.underlying170⟩
 | false=>
 rw [c4] at hg
 simp only [cond_false] at hg
 cases c5:Nat.beq g 1 with
 | true=>
   rw [c5] at hg
   cases hg
   obtain rfl:=Nat.eq_of_beq_eq_true c5
   exact .inl ⟨_,192,_,5,h1,g1,by kernel_rfl,Tryz.underlying192,Tryz.underlying5,by kernel_rfl,by kernel_rfl⟩
 | false=>
 rw [c5] at hg
 simp only [cond_false] at hg
 cases c6:Nat.beq g 0 with
 | true=>
   rw [c6] at hg
   cases hg
   obtain rfl:=Nat.eq_of_beq_eq_true c6
   exact .inr (Zhx (cell_of_shapedOpen_int (zero:=#[.int .i64 0]) (t:=3) hsh (of_decide_eq_true (by kernel_rfl)) (by kernel_rfl) rfl (by kernel_rfl) (by kernel_rfl) Tryz.underlying3))
 | false=>
 rw [c6] at hg
 simp only [cond_false] at hg
 cases hg
section
section
variable {P:Program} {T:Tb}
theorem Z16 (hT:TabOk P T) {f:FuncId} {fn:Func} {c:Code} {n:Nat} (hf:P.funcs[f]?=some fn) (hb:fn.body=some c) (hn:fn.ntmps=n) (hnm:(fn.name == "runtime.NumGoroutine")=false) {args:List SV} {H H':List SB} {r:SV}
 (hl:Nat.ble args.length n=true) (hr:Bnd H'.length r) (hH:BndH H'.length H') (hle:H.length≤H'.length) (h:sx P T c (retK T fn.results.toList (fun r' h=>r'=r∧∃ X,h=H'++X)) ⟨args++List.replicate (n - args.length) .dead,H⟩):Ctr P f args H (fun r' h=>r'=r∧h=H'):=by
 have h1:=Ctr.enter hT hf hb hn hnm hl h
 exact h1.trim Z11 fun r' H1 ⟨e,X,hX⟩=>⟨H',X,hX,hle,hH,by rw [e];exact hr,e,rfl⟩
variable {ops:Array Oper} {o:Oper}
theorem Zs {K:St→Prop} {t:List SV} {h:List SB} {c:Call} (hop:o.op=.call c) {fo:Operand} (hcal:c.callee=.value fo) (hg:Zz ops t o=some []) {f:FuncId} {fst caps:List SV} (hf:calB (evG [] t fo)=some (f,fst,caps))
 (ks:List Nat) {ρ:Nat→Nat} (hρ:rho ks h.length=ρ) {args0:List SV} {H0 H1:List SB} {r0:SV} (hc:Ctr P f args0 H0 (fun r h=>r=r0∧h=H1))
 (ha:fst++(c.args.toList.map (evG [] t)++caps)=renL ρ args0) (hl:(c.args.toList.map (evG [] t)).all live=true) (hnd:Z2e ks=true) (hks:ks.length=H0.length) (hH:Lent ρ h H0 0) (hlen:H1.length=H0.length)
 (hK:Z61 h (zipB ρ H1 0) fun h2=>putK t h2 o.dst (ren ρ r0) K):OpC P T ops o K ⟨t,h⟩:=by
 refine ZD hop hcal hg hf ks 0 (ns:=[]) rfl (h1:=h) (by simp) (ρ:=ρ) (by rw [List.append_nil];exact hρ) hc ha hl (by rw [List.append_nil];exact hnd) hks hH rfl (fun r H' hk=>?_) ?_
 ·rw [hk.2,List.append_nil,hlen,hks];exact ⟨Nat.le_refl _,Nat.le_refl _⟩
 ·rintro r H' ⟨rfl,rfl⟩
  exact hK
end
section
variable {P:Program} {ops:Array Oper} {o:Oper}
theorem Z23 {n:Nat} {K:Eff→Nat→St→Prop} {t:List SV} {h:List SB} {p:List (Nat×Bool)} (hg:Zz ops t o=some p) (hb:gB t p=false) (x:SV) (hK:putD t h o.dst (ZA p o.dst x) (Ze o p) [] n K):OpD P ops o n K ⟨t,h⟩:=by
 unfold putD at hK
 simp only [Z1o,Z2I] at hK
 refine ⟨⟨⟨o.dst,ZA p o.dst x,hang (ZA p o.dst x)++Ze o p,[],[]⟩,n,rfl,⟨fun S' _ _ h1 h2 h3 C E m a w hr=>?_⟩,fun n hn=>List.mem_append_left _ hn,fun k hk=>by simp [wN] at hk,hK⟩⟩
 have hlk:Like (Ze o p) t S'.t:=fun n hn=>h1 n (List.mem_append_right _ hn)
 obtain ⟨t',h'⟩:=S'
 have hh:=(Z1z (P:=P) (T:=fun _=>none) (ops:=ops) (o:=o) (t:=t') (h:=h') (K:=fun S''=>S''=⟨putF t' o.dst (ZA p o.dst x),h'⟩) (Z1f hg (Z1k hlk)) (by rw [Z5x (Z1k hlk)];exact hb) x (by rw [Z13])).out C E m a w hr
 unfold opW at hh ⊢
 have next:∀ a' w',(∃ E' m' S'',S''=(⟨putF t' o.dst (ZA p o.dst x),h'⟩:St)∧Ext E m (vers h') E' m' (vers S''.h)∧Rep E' C m' S'' a' w') →
  ∃ E' m',Ext E m (vers h') E' m' (vers ((⟨o.dst,ZA p o.dst x,hang (ZA p o.dst x)++Ze o p,[],[]⟩:Eff).put ⟨t',h'⟩).h)∧Rep E' C m' ((⟨o.dst,ZA p o.dst x,hang (ZA p o.dst x)++Ze o p,[],[]⟩:Eff).put ⟨t',h'⟩) a' w':=by
  rintro a' w' ⟨E',m',S'',rfl,k1,k2⟩
  rw [ZX h3] at k2
  exact ⟨E',m',k1,k2⟩
 split
 ·rename_i hw
  rw [if_pos hw] at hh
  exact Z19 hh next
 ·rename_i hw
  rw [if_neg hw] at hh
  exact next _ _ hh
end
end
section
section
variable {α:Type} {d:α} {n:Nat} {enc:α→List SV} {xs:List α}
theorem Zcr {E C m t h a w} (hr:Rep E C m ⟨t,h⟩ a w) {k N:Nat} {ty:TypeId} {segs:List SV} (hk:h[k]?=some (.mem ty segs 1 0)) (hc:∀ E,cellsL E segs=cellsL E [.arr N α d n enc xs]) (hN:xs.length=N) (hw:∀ x,wdL (enc x)=n) (ho:∀ m V,OkL m V segs→∀ j,j < N→OkL m [] (enc (xs.getD j d))) :
 ∃ m' b c,Ext E m (vers h) E m' (vers (h.set k (.gone 1)))∧Rep E C m' ⟨t,h.set k (.gone 1)⟩ a w∧E k 1=some (b,c)∧(∃ arr ty fr,m' b=some (.cells arr ty fr)∧∀ j,j < N→∀ u v,(cellsL E0 (enc (xs.getD j d)))[u]?=some v→arr[j * n+u]?=some v)∧∀ j,j < N→OkL m' [] (enc (xs.getD j d)):=by
 have hvs:vers (h.set k (.gone 1))=vers h:=ZP (B':=.gone 1) hk rfl
 have hkl:k < h.length:=(List.getElem?_eq_some_iff.1 hk).1
 have hgk:(h.set k (.gone 1))[k]?=some (.gone 1):=by simp [List.getElem?_set,hkl]
 have hge:∀ j,j≠k→(h.set k (.gone 1))[j]?=h[j]?:=fun j hj=>List.getElem?_set_ne (Ne.symm hj)
 have hblk:∀ j b,Zm E (h.set k (.gone 1)) j b→j≠k∧Zm E h j b:=by
  rintro j b ⟨B',hB',hb⟩
  by_cases hj:j=k
  ·subst hj;rw [hgk] at hB';cases hB';exact hb.elim
  ·rw [hge j hj] at hB';exact ⟨hj,B',hB',hb⟩
 obtain ⟨_,b,c,e1,e2,o1⟩:=hr.rel.bl k _ hk
 have hat:Zm E h k b:=⟨_,hk,by decide,c,e1⟩
 obtain ⟨s1,s2⟩:=hr.rel.sp k b hat
 have hm1:∀ b' o,m b'=some o→(fun b'=>if b'=b then some (.cells (cellsL E segs).toArray ty (0,0)) else m b') b'=some o:=fun b' o ho=>by
  have:b'≠b:=fun e=>by subst e;rw [s1] at ho;cases ho
  simp only [if_neg this];exact ho
 have hx:Ext E m (vers h) E (fun b'=>if b'=b then some (.cells (cellsL E segs).toArray ty (0,0)) else m b') (vers (h.set k (.gone 1))):=⟨hm1,fun _ _ h=>by rw [hvs];exact h,fun _ _ _=>rfl⟩
 have oE:=ho _ _ o1
 have oA:Ok m [] (.arr N α d n enc xs):=by simp only [Ok];exact ⟨hN,hw,oE⟩
 refine ⟨_,b,c,hx,hr.up hx ?_,e1,⟨_,_,_,if_pos rfl,?_⟩,fun j hj=>(oE j hj).mono hm1 _ _ _ (fun _ _ h=>h)⟩
 ·refine ⟨hr.rel.os,hr.rel.tape,hr.rel.output,?_,hr.rel.fr,⟨?_,hr.rel.mf.2.mono hm1⟩,?_,?_,?_,?_⟩
  ·intro b' o ho
   by_cases hb:b'=b
   ·subst hb;simp only [if_true] at ho;cases ho;exact e2
   ·simp only [if_neg hb] at ho;exact hr.rel.im b' o ho
  ·intro b' o ho
   have:b'≠b:=fun e=>by subst e;rw [s2] at ho;cases ho
   simp only [if_neg this];exact hr.rel.mf.1 b' o ho
  ·intro j B' hB'
   by_cases hj:j=k
   ·subst hj;rw [hgk] at hB';cases hB';trivial
   ·rw [hge j hj] at hB'
    exact (hr.rel.bl j B' hB').mono hx (fun _ _=>rfl) (fun _ _=>rfl)
  ·rw [hvs];exact hr.rel.nn
  ·intro j b' hb
   obtain ⟨h1,h2⟩:=hblk j b' hb
   have:b'≠b:=fun e=>by subst e;exact h1 (hr.rel.inj j k _ h2 hat)
   simp only [if_neg this];exact hr.rel.sp j b' h2
  ·intro i j b' h1 h2;exact hr.rel.inj i j b' (hblk i b' h1).2 (hblk j b' h2).2
 ·intro j hj u v hu
  have hst:cellsL E (enc (xs.getD j d))=cellsL E0 (enc (xs.getD j d)):=cellsL_stable (m:=m) (V:=[]) (fun k v hv=>(Z1V hv).elim) _ (oE j hj)
  have h1:=Z3i (E:=E) oA hj (u:=u) (c:=v) (by rw [hst];exact hu)
  simp only [List.getElem?_toArray]
  rw [hc]
  simp only [cellsL,List.append_nil]
  exact h1
variable {P:Program} {T:Tb} {ops:Array Oper} {o:Oper}
theorem Z4k {K:St→Prop} {t:List SV} {h:List SB} {k N cap:Nat} {ty:TypeId} {segs:List SV} (j:Nat) (d:α) (enc:α→List SV) (xs:List α) (hk:h[k]?=some (.mem ty segs 1 0)) (hj:t[j]?=some (.sl k 1 0 N (some cap) 0)) (hN:xs.length=N) (hcap:N≤cap) (hw:∀ x,wdL (enc x)=n) (hc:∀ E,cellsL E segs=cellsL E [.arr N α d n enc xs]) (ho:∀ m V,OkL m V segs→∀ j,j < N→OkL m [] (enc (xs.getD j d)))
 (hK:∀ ad,OpC P T ops o K ⟨t.set j (.imm α d n enc xs (some ad) cap),h.set k (.gone 1)⟩):OpC P T ops o K ⟨t,h⟩:=by
 refine OpC.from fun C E m a w hr=>?_
 obtain ⟨m',b,c,h1,h2,h3,⟨arr,ty',fr,h4,h5⟩,h6⟩:=Zcr hr hk hc hN hw ho
 have hlt:j < t.length:=(List.getElem?_eq_some_iff.1 hj).1
 refine ⟨E,m',_,hK ⟨b,0,none⟩,h1,?_,?_,h2.df,h2.rel⟩
 ·simpa using h2.sz
 ·intro q x v hx hv
  by_cases hq:q=j
  ·subst hq
   rw [List.getElem?_set_self hlt] at hx
   cases hx
   have h0:=h2.sl q _ v hj hv
   refine ⟨?_,?_⟩
   ·simp only [Ok]
    refine ⟨by omega,fun hne=>⟨_,arr,ty',fr,rfl,rfl,h4,fun p hp u v hu=>?_⟩,hw,fun p hp=>h6 p (by omega)⟩
    have:=h5 p (by omega) u v hu
    simpa using this
   ·rw [h0.2]
    simp only [den,wrapV,cells,List.headD_cons,h3,hN,Option.getD_some]
    simp
  ·rw [List.getElem?_set_ne (Ne.symm hq)] at hx
   exact (h2.sl q x v hx hv).set_plain hj ⟨fun b=>by simp,fun q b=>by simp⟩
end
end
theorem Zcs {X:List Value→World→(Value→World→Prop)→Prop} (hX:Z2G X) {A B:List SV} {α:Type} {d:α} {n:Nat} {enc:α→List SV} {xs:List α} {k ver off len:Nat} {cap:Option Nat} {dc:Nat} {H:List SB} {ty:TypeId} {segs:List SV} {gw:Nat} {K:SV→List SB→Prop}
 (hk:H[k]?=some (.mem ty segs ver gw)) (hlen:xs.length=len) (hw:∀ x,wdL (enc x)=n) (hok:∀ x m,OkL m [] (enc x))
 (hc:∀ E j,j < len→∀ u c,(cellsL E0 (enc (xs.getD j d)))[u]?=some c→(cellsL E segs)[off+j * n+u]?=some c)
 (hcap:match cap with | some c=>len≤c | none=>n=gw∧0 < gw∧off=dc * n∧off+len * n≤wdL segs)
 (h:∀ a cap,Cp X (A++.imm α d n enc xs a cap::B) (H.set k (.gone ver)) K) :
 Cp X (A++.sl k ver off len cap dc::B) H K:=by
 refine ⟨fun C E m w hr ha=>?_⟩
 have hvs:vers (H.set k (.gone ver))=vers H:=ZP (B':=.gone ver) hk rfl
 have hkl:k < H.length:=(List.getElem?_eq_some_iff.1 hk).1
 have hgk:(H.set k (.gone ver))[k]?=some (.gone ver):=by simp [List.getElem?_set,hkl]
 have hge:∀ j,j≠k→(H.set k (.gone ver))[j]?=H[j]?:=fun j hj=>List.getElem?_set_ne (Ne.symm hj)
 obtain ⟨haA,haS⟩:=Z9Y ha
 have haS':=haS
 simp only [OkA,Ok] at haS
 obtain ⟨⟨_,_,hv0⟩,haB⟩:=haS
 have hblk:∀ j b,Zm E (H.set k (.gone ver)) j b→j≠k∧Zm E H j b:=by
  rintro j b ⟨B',hB',hb⟩
  by_cases hj:j=k
  ·subst hj;rw [hgk] at hB';cases hB';exact hb.elim
  ·rw [hge j hj] at hB';exact ⟨hj,B',hB',hb⟩
 have hbl:=hr.bl k _ hk
 have key:∃ (m1:Mem) (a:Option Addr) (cp:Nat),(∀ b o,m b=some o→m1 b=some o)∧den E (.sl k ver off len cap dc)=den E (.imm α d n enc xs a cp)∧Ok m1 (vers H) (.imm α d n enc xs a cp) ∧
  Rel E C m1 (H.set k (.gone ver)) w∧(∀ b,Zm E H k b→∃ o,m1 b=some o∧w.heap[b]?=some o)∧(∀ b,m1 b=m b∨Zm E H k b):=by
  by_cases hz:ver=0
  ·have hxs:xs=[]:=by have:=hv0 hz;exact List.eq_nil_of_length_eq_zero (by omega)
   have hE:E k ver=none:=by
    cases gw with
    | zero=>have:=hbl.1;omega
    | succ g=>have:=(hbl.2.1 hz).2;rw [hz];exact this
   refine ⟨m,none,cap.getD 0,fun _ _ h=>h,?_,?_,?_,?_,fun b=>.inl rfl⟩
   ·simp [den,wrapV,cells,hE,hlen]
   ·simp only [Ok]
    exact ⟨by simp [hxs],fun h=>absurd hxs h,hw,fun j _=>hok _ _⟩
   ·refine ⟨hr.os,hr.tape,hr.output,hr.im,hr.fr,hr.mf,?_,?_,?_,?_⟩
    ·intro j B' hB'
     by_cases hj:j=k
     ·subst hj;rw [hgk] at hB';cases hB';trivial
     ·rw [hge j hj] at hB';rw [hvs];exact hr.bl j B' hB'
    ·rw [hvs];exact hr.nn
    ·intro j b hb;exact hr.sp j b (hblk j b hb).2
    ·intro i j b h1 h2;exact hr.inj i j b (hblk i b h1).2 (hblk j b h2).2
   ·rintro b ⟨B',hB',hb⟩
    rw [hk] at hB';cases hB'
    exact absurd hz hb.1
  ·have hh:∃ b c arr,E k ver=some (b,c)∧w.heap[b]?=some (.cells arr ty (0,0))∧(∃ spare,arr=(cellsL E segs++spare).toArray∧(gw≠0→(cellsL E segs).length+spare.length=c * gw))∧OkL m (vers H) segs:=by
    cases gw with
    | zero=>obtain ⟨_,b,c,e1,e2,e3⟩:=hbl;exact ⟨b,c,_,e1,e2,⟨[],by simp,fun h=>absurd rfl h⟩,e3⟩
    | succ g=>obtain ⟨e3,_,e4⟩:=hbl;obtain ⟨b,c,sp,e1,e2,e5,_⟩:=e4 hz;exact ⟨b,c,_,e1,e2,⟨sp,rfl,fun _=>e5⟩,e3⟩
   obtain ⟨b,c,arr,e1,e2,⟨sp,rfl,e5⟩,e3⟩:=hh
   have hat:Zm E H k b:=⟨_,hk,hz,c,e1⟩
   obtain ⟨s1,s2⟩:=hr.sp k b hat
   have hlc:xs.length≤cap.getD (c - dc):=by
    cases cap with
    | some c'=>simp only [Option.getD_some];rw [hlen];exact hcap
    | none=>
      obtain ⟨c1,c2,c3,c4⟩:=hcap
      simp only [Option.getD_none]
      have h5:=e5 (by omega)
      have h6:=length_cellsL E segs _ e3
      have h7:(dc+len) * n≤c * n:=by
       rw [Nat.add_mul,← c3]
       calc off+len * n≤wdL segs:=c4
        _≤c * gw:=by omega
        _=c * n:=by rw [c1]
      have:=Nat.le_of_mul_le_mul_right h7 (by omega)
      omega
   refine ⟨fun b'=>if b'=b then some (.cells (cellsL E segs++sp).toArray ty (0,0)) else m b',some ⟨b,if cap=none∧len=0∧c=dc then 0 else off,none⟩,cap.getD (c - dc),?_,?_,?_,?_,?_,?_⟩
   ·intro b' o ho
    have:b'≠b:=fun e=>by subst e;rw [s1] at ho;cases ho
    simp only [if_neg this];exact ho
   ·simp [den,wrapV,cells,e1,hlen]
   ·simp only [Ok]
    refine ⟨hlc,fun hne=>⟨_,_,ty,(0,0),rfl,rfl,by simp;rfl,fun j hj u v hu=>?_⟩,hw,fun j _=>hok _ _⟩
    have h1:=hc E j (by omega) u v hu
    have hne:(if cap=none∧len=0∧c=dc then 0 else off)=off:=if_neg fun h=>by omega
    simp only [List.getElem?_toArray,hne]
    have h2:off+j * n+u < (cellsL E segs).length:=(List.getElem?_eq_some_iff.1 h1).1
    rw [List.getElem?_append_left h2];exact h1
   ·refine ⟨hr.os,hr.tape,hr.output,?_,hr.fr,⟨?_,hr.mf.2.mono fun b' o ho=>?_⟩,?_,?_,?_,?_⟩
    ·intro b' o ho
     by_cases hb:b'=b
     ·subst hb;rw [if_pos rfl] at ho;cases ho;exact e2
     ·rw [if_neg hb] at ho;exact hr.im b' o ho
    ·intro b' o ho
     have:b'≠b:=fun e=>by subst e;rw [s2] at ho;cases ho
     simp only [if_neg this];exact hr.mf.1 b' o ho
    ·have:b'≠b:=fun e=>by subst e;rw [s1] at ho;cases ho
     simp only [if_neg this];exact ho
    ·intro j B' hB'
     by_cases hj:j=k
     ·subst hj;rw [hgk] at hB';cases hB';trivial
     ·rw [hge j hj] at hB';rw [hvs]
      exact (hr.bl j B' hB').mono ⟨fun b' o ho=>by
       have:b'≠b:=fun e=>by subst e;rw [s1] at ho;cases ho
       simp only [if_neg this];exact ho,fun _ _ h=>h,fun _ _ _=>rfl⟩ (fun _ _=>rfl) (fun _ _=>rfl)
    ·rw [hvs];exact hr.nn
    ·intro j b' hb
     obtain ⟨h1,h2⟩:=hblk j b' hb
     have:b'≠b:=fun e=>by subst e;exact h1 (hr.inj j k _ h2 hat)
     simp only [if_neg this];exact hr.sp j b' h2
    ·intro i j b' h1 h2;exact hr.inj i j b' (hblk i b' h1).2 (hblk j b' h2).2
   ·rintro b' ⟨B',hB',hb⟩
    rw [hk] at hB';cases hB'
    obtain ⟨_,c2,hb⟩:=hb
    rw [e1] at hb;cases hb
    exact ⟨_,by simp,e2⟩
   ·intro b'
    by_cases hb:b'=b
    ·right;subst hb;exact hat
    ·left;simp only [if_neg hb]
 obtain ⟨m1,a,cp,k1,k2,k3,k4,k5,k6⟩:=key
 have hargs:denL E (A++.sl k ver off len cap dc::B)=denL E (A++.imm α d n enc xs a cp::B):=by
  rw [Z3R,Z3R]
  congr 1
  simp only [denL]
  congr 1
 rw [hargs]
 have haX:OkA m1 (vers (H.set k (.gone ver))) (A++.imm α d n enc xs a cp::B):=by
  rw [hvs]
  refine Z4f (OkA.mono k1 A _ _ (fun _ _ h=>h) haA) ?_
  simp only [OkA]
  exact ⟨⟨rfl,k3⟩,OkA.mono k1 B _ _ (fun _ _ h=>h) haB⟩
 refine hX _ _ _ _ ((h a cp).out C E m1 w k4 haX) ?_
 rintro v w' ⟨r,H',E',m2,rfl,hKr,hok',hx,hrel⟩
 rw [hvs] at hx
 exact ⟨r,H',E',m2,rfl,hKr,hok',⟨fun b o ho=>hx.mm b o (k1 b o ho),hx.vv,hx.ee⟩,hrel⟩
section
def After (Q:St→Prop) (S:St):Prop:=∀ C E m a w,Rep E C m S a w→∃ E' m' S',Q S'∧Ext E m (vers S.h) E' m' (vers S'.h)∧Rep E' C m' S' a w
theorem After.pure {Q:St→Prop} {S:St} (h:Q S):After Q S:=fun C E m a w hr=>⟨E,m,S,h,.refl ..,hr⟩
theorem After.join {Q:St→Prop} {S:St} (h:After (After Q) S):After Q S:=fun C E m a w hr=>by
 obtain ⟨E1,m1,S1,q1,e1,r1⟩:=h C E m a w hr
 obtain ⟨E2,m2,S2,q,e2,r2⟩:=q1 C E1 m1 a w r1
 exact ⟨E2,m2,S2,q,e1.trans e2,r2⟩
theorem After.shift {Q:St→Prop} {S S':St} (hs:Shift S S') (h:After Q S'):After Q S:=fun C E m a w hr=>by
 obtain ⟨E1,m1,e1,r1⟩:=hs C E m a w hr
 obtain ⟨E2,m2,S2,q,e2,r2⟩:=h C E1 m1 a w r1
 exact ⟨E2,m2,S2,q,e1.trans e2,r2⟩
theorem WpC.after {P:Program} {c:Code} {K:Exit→St→Prop} {S:St} (h:WpC P c (fun e S'=>After (K e) S') S):WpC P c K S:=by
 refine ⟨fun C E m a w hr=>?_⟩
 refine wp_mono (h.out C E m a w hr) ?_
 rintro e a' w' ⟨E1,m1,S1,k1,k2,k3⟩
 obtain ⟨E2,m2,S2,q,e2,r2⟩:=k1 C E1 m1 a' w' k3
 exact ⟨E2,m2,S2,q,k2.trans e2,r2⟩
section
variable {P:Program} {T:Tb} {ops:Array Oper} {o:Oper}
theorem OpC.first {K:St→Prop} {S:St} (h:After (fun S'=>OpC P T ops o K S') S):OpC P T ops o K S:=OpC.from h
end
theorem Rel.recellE {E C m H w} (h:Rel E C m H w) {k ver g:Nat} {ty:TypeId} {segs segs':List SV} (hk:H[k]?=some (.mem ty segs ver g)) (hc:cellsL E segs'=cellsL E segs) (ho:OkL m (vers H) segs'):Rel E C m (H.set k (.mem ty segs' ver g)) w:=by
 have hvs:vers (H.set k (.mem ty segs' ver g))=vers H:=ZP (B':=.mem ty segs' ver g) hk rfl
 have hkl:k < H.length:=(List.getElem?_eq_some_iff.1 hk).1
 have hgk:(H.set k (.mem ty segs' ver g))[k]?=some (.mem ty segs' ver g):=by simp [List.getElem?_set,hkl]
 have hge:∀ j,j≠k→(H.set k (.mem ty segs' ver g))[j]?=H[j]?:=fun j hj=>List.getElem?_set_ne (Ne.symm hj)
 have hblk:∀ j b,Zm E (H.set k (.mem ty segs' ver g)) j b→Zm E H j b:=by
  rintro j b ⟨B',hB',hb⟩
  by_cases hj:j=k
  ·subst hj;rw [hgk] at hB';cases hB';exact ⟨_,hk,hb⟩
  ·rw [hge j hj] at hB';exact ⟨B',hB',hb⟩
 refine ⟨h.os,h.tape,h.output,h.im,h.fr,h.mf,?_,?_,fun j b hb=>h.sp j b (hblk j b hb),fun i j b h1 h2=>h.inj i j b (hblk i b h1) (hblk j b h2)⟩
 ·intro j B' hB'
  rw [hvs]
  by_cases hj:j=k
  ·subst hj;rw [hgk] at hB';cases hB'
   have h1:=h.bl j _ hk
   cases g with
   | zero=>
     obtain ⟨a1,b,c,a2,a3,a4⟩:=h1
     exact ⟨a1,b,c,a2,by rw [hc];exact a3,ho⟩
   | succ g=>
     obtain ⟨o1,o2,o3⟩:=h1
     exact ⟨ho,fun e=>by rw [hc];exact o2 e,fun e=>by rw [hc];exact o3 e⟩
  ·rw [hge j hj] at hB';exact h.bl j B' hB'
 ·rw [hvs];exact h.nn
theorem Holds.oks {E m V w k ty segs ver g} (h:Holds E m V w k (.mem ty segs ver g)):OkL m V segs:=by
 cases g with
 | zero=>exact h.2.choose_spec.choose_spec.2.2
 | succ g=>exact h.1
theorem Z6O {α:Type} {Q:St→Prop} {t:List SV} {h:List SB} {k ver N g n gi vi:Nat} {ty ty':TypeId} {enc:α→List SV} {xs:List α} {d:α} {pre post:List SV} (i:Nat) (hk:h[k]?=some (.mem ty [.arr N α d n enc xs] ver (g+1))) (hi:h[i]?=some (.mem ty' (pre++.sl k ver 0 N none 0::post) vi gi)) (hik:i≠k) (hn:n=g+1) (hv:ver≠0) (hN:xs.length=N) (hw:∀ x,wdL (enc x)=n) (hok:∀ x m,OkL m [] (enc x))
 (hK:∀ ad cap,N≤cap→Q ⟨t,(h.set k (.gone ver)).set i (.mem ty' (pre++.imm α d n enc xs (some ad) cap::post) vi gi)⟩):After Q ⟨t,h⟩:=by
 intro C E m a w hr
 obtain ⟨m',b,c,h1,h2,⟨l1,l2,arr,ty2,fr,l3,l4⟩⟩:=Z64 hr hk hn hv hw hok
 have hi2:(h.set k (.gone ver))[i]?=some (.mem ty' (pre++.sl k ver 0 N none 0::post) vi gi):=by rw [List.getElem?_set_ne (Ne.symm hik)];exact hi
 have hvs:=ZP (B':=SB.mem ty' (pre++.imm α d n enc xs (some ⟨b,0,none⟩) c::post) vi gi) hi2 rfl
 have hoks:=(h2.rel.bl i _ hi2).oks
 refine ⟨E,m',_,hK ⟨b,0,none⟩ c l2,by rw [hvs];exact h1,?_⟩
 have hrel:=h2.rel.recellE (segs':=pre++.imm α d n enc xs (some ⟨b,0,none⟩) c::post) hi2 (by
  simp only [Zr,cellsL]
  congr 2
  simp only [cells,l1,Option.getD_none,hN,Nat.sub_zero]
  simp) (by
  rw [OkL_append] at hoks ⊢
  refine ⟨hoks.1,?_⟩
  have ho2:=hoks.2
  simp only [OkL] at ho2 ⊢
  refine ⟨⟨rfl,?_⟩,ho2.2⟩
  simp only [Ok]
  refine ⟨by omega,fun hne=>⟨_,arr,ty2,fr,rfl,rfl,l3,fun p hp u v hu=>?_⟩,hw,fun p hp=>hok _ _⟩
  have:=l4 p (by omega) u v hu
  simpa using this)
 refine ⟨h2.sz,fun q x v hx hv=>?_,h2.df,hrel⟩
 have:=h2.sl q x v hx hv
 show SlotOk E m' (vers ((h.set k (.gone ver)).set i _)) t v x
 rw [hvs];exact this
theorem Zas {α:Type} {Q:St→Prop} {t:List SV} {h:List SB} {k ver N g n gi vi:Nat} {ty ty':TypeId} {enc:α→List SV} {xs:List α} {d:α} {pre post:List SV} (i:Nat) (hk:h[k]?=some (.mem ty [.arr N α d n enc xs] ver (g+1))) (hi:h[i]?=some (.mem ty' (pre++.sl k ver 0 N none 0::post) vi gi)) (hik:i≠k) (hn:n=g+1) (hv:ver≠0) (hN:xs.length=N) (hw:∀ x,wdL (enc x)=n) (hfr:ZaO enc)
 (hK:∀ ad cap,N≤cap→Q ⟨t,(h.set k (.gone ver)).set i (.mem ty' (pre++.imm α d n enc xs (some ad) cap::post) vi gi)⟩):After Q ⟨t,h⟩:=by
 intro C E m a w hr
 obtain ⟨m',b,c,h1,h2,⟨l1,l2,arr,ty2,fr,l3,l4⟩,l5⟩:=Zcq hr hk hn hv hw hfr
 have hi2:(h.set k (.gone ver))[i]?=some (.mem ty' (pre++.sl k ver 0 N none 0::post) vi gi):=by rw [List.getElem?_set_ne (Ne.symm hik)];exact hi
 have hvs:=ZP (B':=SB.mem ty' (pre++.imm α d n enc xs (some ⟨b,0,none⟩) c::post) vi gi) hi2 rfl
 have hoks:=(h2.rel.bl i _ hi2).oks
 refine ⟨E,m',_,hK ⟨b,0,none⟩ c l2,by rw [hvs];exact h1,?_⟩
 have hrel:=h2.rel.recellE (segs':=pre++.imm α d n enc xs (some ⟨b,0,none⟩) c::post) hi2 (by
  simp only [Zr,cellsL]
  congr 2
  simp only [cells,l1,Option.getD_none,hN,Nat.sub_zero]
  simp) (by
  rw [OkL_append] at hoks ⊢
  refine ⟨hoks.1,?_⟩
  have ho2:=hoks.2
  simp only [OkL] at ho2 ⊢
  refine ⟨⟨rfl,?_⟩,ho2.2⟩
  simp only [Ok]
  refine ⟨by omega,fun hne=>⟨_,arr,ty2,fr,rfl,rfl,l3,fun p hp u v hu=>?_⟩,hw,fun p hp=>l5 p (by omega)⟩
  have:=l4 p (by omega) u v hu
  simpa using this)
 refine ⟨h2.sz,fun q x v hx hv=>?_,h2.df,hrel⟩
 have:=h2.sl q x v hx hv
 show SlotOk E m' (vers ((h.set k (.gone ver)).set i _)) t v x
 rw [hvs];exact this
theorem After.slot {α:Type} {Q:St→Prop} {t:List SV} {h:List SB} {k ver N g n:Nat} {ty:TypeId} {enc:α→List SV} {xs:List α} {d:α} (j:Nat) (hk:h[k]?=some (.mem ty [.arr N α d n enc xs] ver (g+1))) (hj:t[j]?=some (.sl k ver 0 N none 0)) (hn:n=g+1) (hv:ver≠0) (hN:xs.length=N) (hw:∀ x,wdL (enc x)=n) (hok:∀ x m,OkL m [] (enc x))
 (hK:∀ ad cap,N≤cap→Q ⟨t.set j (.imm α d n enc xs (some ad) cap),h.set k (.gone ver)⟩):After Q ⟨t,h⟩:=by
 intro C E m a w hr
 obtain ⟨m',b,c,h1,h2,h3⟩:=Z64 hr hk hn hv hw hok
 have hlt:j < t.length:=(List.getElem?_eq_some_iff.1 hj).1
 obtain ⟨l1,l2,arr,ty2,fr,l3,l4⟩:=h3
 refine ⟨E,m',_,hK ⟨b,0,none⟩ c l2,h1,?_,?_,h2.df,h2.rel⟩
 ·simpa using h2.sz
 ·intro q x v hx hv
  by_cases hq:q=j
  ·subst hq
   rw [List.getElem?_set_self hlt] at hx
   cases hx
   have h0:=h2.sl q _ v hj hv
   refine ⟨?_,?_⟩
   ·simp only [Ok]
    refine ⟨by omega,fun hne=>⟨_,arr,ty2,fr,rfl,rfl,l3,fun p hp u v hu=>?_⟩,hw,fun p hp=>hok _ _⟩
    have:=l4 p (by omega) u v hu
    simpa using this
   ·rw [h0.2]
    simp only [den,wrapV,cells,List.headD_cons,l1,Option.getD_none,hN,Nat.sub_zero]
    simp
  ·rw [List.getElem?_set_ne (Ne.symm hq)] at hx
   exact (h2.sl q x v hx hv).set_plain hj ⟨fun b=>by simp,fun q b=>by simp⟩
section
variable {P:Program} {T:Tb} {ops:Array Oper} {o:Oper}
theorem OpC.after {K:St→Prop} {S:St} (h:OpC P T ops o (fun S'=>After K S') S):OpC P T ops o K S:=by
 refine ⟨fun C E m a w hr=>?_⟩
 have h3:=h.out C E m a w hr
 unfold opW at h3 ⊢
 have next:∀ a' w',(∃ E2 m2 S2,After K S2∧Ext E m (vers S.h) E2 m2 (vers S2.h)∧Rep E2 C m2 S2 a' w')→∃ E2 m2 S2,K S2∧Ext E m (vers S.h) E2 m2 (vers S2.h)∧Rep E2 C m2 S2 a' w':=by
  rintro a' w' ⟨E2,m2,S2,k1,k2,k3⟩
  obtain ⟨E4,m4,S4,q,e4,r4⟩:=k1 C E2 m2 a' w' k3
  exact ⟨E4,m4,S4,q,k2.trans e4,r4⟩
 split
 ·rename_i hw
  rw [if_pos hw] at h3
  exact Z19 h3 next
 ·rename_i hw
  rw [if_neg hw] at h3
  exact next _ _ h3
end
theorem After.recell {Q:St→Prop} {t:List SV} {h:List SB} (k:Nat) {ver g:Nat} {ty:TypeId} {segs:List SV} (segs':List SV) (hk:h[k]?=some (.mem ty segs ver g)) (hc:∀ E,cellsL E segs'=cellsL E segs) (ho:∀ m V,OkL m V segs→OkL m V segs') (hQ:After Q ⟨t,h.set k (.mem ty segs' ver g)⟩):After Q ⟨t,h⟩:=
 After.shift (Shift.recell k segs' hk hc ho rfl) hQ
end
end SX
end Go.Proofs.YtdddpbmcoimgdaaGreatDoor
