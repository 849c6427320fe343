/- A part of SX: symbolic and concrete runs of the program, with contracts of functions; lemmas without further conditions. Shortened by a tool (mini.py). -/
import Derived.Shelf.Strings.Search3
import Derived.Shelf.Small.Strs
import Derived.Shelf.Pu.ToError
import Derived.Lib.IndexMore
import Derived.Lib.IndexBytes
import Derived.Test.YtdddpbmcoimgdaaGreatDoorJAC
import Derived.Test.YtdddpbmcoimgdaaGreatDoorJAG
import Derived.Test.YtdddpbmcoimgdaaGreatDoorJAA
set_option linter.unusedVariables false
set_option linter.unusedSimpArgs false
set_option linter.unusedSectionVars false
set_option maxRecDepth 100000
namespace Go.Proofs.YtdddpbmcoimgdaaGreatDoor
namespace SX
open Go Go.Proofs
theorem Z6p (w:World):Sort.grow (w.drewN 0) #[]=w:=by simp [Sort.grow,World.drewN]
theorem Zdl:tabs 0=some (.anyI .i64):=by kernel_rfl
theorem Z76 {w:World} (hT:TabsIn w):∃ n,w.cell? ⟨0,0,none⟩=some (.int .i64 n):=by
 obtain ⟨n,arr,t,fr,h1,h2⟩:=hT _ _ Zdl
 have h1:w.heap[0]?=some (.cells arr t fr):=h1
 exact ⟨n,by unfold World.cell?;simp only [h1];simpa using h2⟩
theorem Zf0 (s p:List UInt8) (hs:s.length≤100000):CtrV Tryz.prog 120 [.s s,.s p] (.i .i64 (Lib.index s p)):=
 Z3i (fn:=Tryz.f120) Tryz.func120 Z Z (fun m=>trivial) rfl fun w hT E m _=>by
  obtain ⟨n,hm⟩:=Z76 hT
  refine (Any.strings_Index Zev ⟨⟨s⟩⟩ ⟨⟨p⟩⟩ n w (by show s.length < 4294967281;omega) hm).mono ?_
  rintro e w' ⟨he,rfl⟩
  exact ⟨he,0,#[],(Z6p _).symm⟩
theorem Z6q (s p:List UInt8) (hs:s.length≤100000):CtrV Tryz.prog 144 [.s s,.s p] (.b (Lib.contains s p)):=
 Z3i (fn:=Tryz.f144) Tryz.func144 Z Z (fun m=>trivial) rfl fun w hT E m _=>by
  obtain ⟨n,hm⟩:=Z76 hT
  refine (Any.strings_Contains Zew ⟨⟨s⟩⟩ ⟨⟨p⟩⟩ n w (by show s.length < 4294967281;omega) hm).mono ?_
  rintro e w' ⟨he,rfl⟩
  exact ⟨he,0,#[],(Z6p _).symm⟩
theorem Z9R (s:List UInt8) (c:Int):CtrV Tryz.prog 127 [.s s,.i .u8 c] (.i .i64 (Lib.indexByte s c.toNat.toUInt8)):=
 Z3i (fn:=Tryz.f127) Tryz.func127 Z Z (fun m=>trivial) rfl fun w hT E m _=>by
  refine (Any.strings_IndexByte Zex ⟨⟨s⟩⟩ c w).mono ?_
  rintro e w' ⟨he,rfl⟩
  exact ⟨he,0,#[],(Z6p _).symm⟩
theorem ZhH {s:List UInt8} {c:UInt8} (h:c ∉ s):Lib.contains s [c]=false:=by
 have key:∀ s:List UInt8,c ∉ s→Lib.indexByte s c = -1:=by
  intro s
  induction s with
  | nil=>intro _;rfl
  | cons b l ih=>
    intro h
    simp only [List.mem_cons,not_or] at h
    unfold Lib.indexByte
    have hb:(b == c)=false:=by simp;exact fun e=>h.1 e.symm
    rw [hb,ih h.2];rfl
 unfold Lib.contains
 rw [Lib.index_one,key s h]
 rfl
theorem Zf1:Z5X=false:=rfl
theorem ZhI:tabs 4=some .ifc:=by kernel_rfl
theorem Zgv (f s:List UInt8) (hs:s.length≤100000) (b k:Int):Ctr Tryz.prog 170 [.s f,.s s,.i .i64 b,.i .i64 k,.iface 227 (.i .i64 2)] [] (fun r h=>(∃ v,r=.iface 229 (.raw v)∧Z1Z v=true)∧h=[]):=by
 refine ⟨fun C E m w hr ha=>?_⟩
 have hrun:(callFunc 170 (denL E [.s f,.s s,.i .i64 b,.i .i64 k,.iface 227 (.i .i64 2)]).toArray).run Tryz.prog w=.ok (.enter 170 (denL E [.s f,.s s,.i .i64 b,.i .i64 k,.iface 227 (.i .i64 2)]).toArray) w:=
  enters_of Tryz.func170 (by kernel_rfl) rfl _ w
 obtain ⟨tt,v,t,fr,h1⟩:=hr.tabs _ _ ZhI
 have h1:w.heap[4]?=some (.cells #[.iface tt v] t fr):=h1
 have hc:w.cell? ⟨4,0,none⟩=some (.iface tt v):=by unfold World.cell?;simp only [h1];rfl
 unfold Z2T
 rw [hrun]
 refine (AnyPu.strconv_toError_syntax Zey ⟨⟨f⟩⟩ ⟨⟨s⟩⟩ b k (.iface tt v) w (by show s.length≤281474976710656;omega) hc (.inr ⟨_,_,rfl⟩)).mono ?_
 rintro e w' ⟨N,rfl,_,_,hw⟩
 refine ⟨_,rfl,.iface 229 (.raw (.pointer (some ⟨N,0,none⟩))),[],E,m,rfl,⟨⟨_,rfl,rfl⟩,rfl⟩,⟨?_,rfl⟩,.refl ..,hr.below Zf1 hw⟩
 simp [Ok,live]
def PuR (x:Option Nat) (r:SV):Prop:=
 match x with
 | some n=>r=.tup [.i .u64 n,.raw .nilIface]
 | none=>∃ v,r=.tup [.i .u64 0,.iface 229 (.raw v)]∧Z1Z v=true
theorem pu_of (b:Nat) (s:List UInt8) (hs:s.length≤100000) (hi:CtrV Tryz.prog 169 [.s s,.i .i64 b,.i .i64 64] (puV (puF b s))):Ctr Tryz.prog 145 [.s s,.i .i64 b,.i .i64 64] [] (fun r h=>PuR (puF b s) r∧h=[]):=by
 have key:Ctr Tryz.prog 145 [.s s,.i .i64 b,.i .i64 64] [] (fun r h=>PuR (puF b s) r∧Bnd 0 r):=by
  refine Ctr.enter Z5 (fn:=Tryz.f145) Z Z Z Z Z ?_
  cases hx:puF b s with
  | some n=>
    rw [hx] at hi
    refine Z4 Z Z Z Z Z Z Z (fun _=>hi) ?_
    refine ⟨fun h=>(by cases h),fun _=>?_⟩
    exact ⟨rfl,rfl⟩
  | none=>
    rw [hx] at hi
    refine Z4 Z Z Z Z Z Z Z (fun _=>hi) ?_
    refine ⟨fun _=>?_,fun h=>by cases h⟩
    refine Z1k Z Z Z Z [] 0 Z Z Z (Zgv [80,97,114,115,101,85,105,110,116] s hs b 64) Z Z Z Z trivial rfl (fun r H' hk=>?_) ?_
    ·rw [hk.2];exact ⟨Nat.le_refl _,Nat.le_refl _⟩
    rintro r H' ⟨⟨v,rfl,hv⟩,rfl⟩
    exact ⟨⟨v,rfl,hv⟩,rfl⟩
 exact key.trim ZK fun r H1 ⟨h1,h2⟩=>⟨[],H1,rfl,Nat.zero_le _,trivial,h2,h1,rfl⟩
def NumR (x:Option Nat) (r:SV):Prop:=
 match x with
 | some n=>r=.tup [.i .i64 (IntKind.i64.wrap n),.b true]
 | none=>∃ v,r=.tup [.i .i64 v,.b false]
theorem Z6r {w:List UInt8} {c:UInt8} (h:c ∈ Z12 w):c ∈ w:=by
 unfold Z12 at h
 split at h
 ·exact List.mem_of_mem_drop h
 ·exact h
theorem Zf2 (w:List UInt8):(Z12 w).length≤w.length:=by
 unfold Z12;split
 ·simp
 ·exact Nat.le_refl _
theorem Zf3 (w:List UInt8) (hn:∀ c ∈ w,numB (c.toNat:Int)=true) (hl:(Z12 w).length≤Z2b w):CtrV Tryz.prog 169 [.s (Z12 w),.i .i64 (Z2G w),.i .i64 64] (puV (puF (Z2G w) (Z12 w))):=by
 unfold Z2G Z2b at *
 split at hl
 ·rename_i h;simp only [h,if_true];exact Zgu _ (fun c hc=>hn c (Z6r hc)) hl
 ·rename_i h;simp only [h,if_false];exact Zgt _ (fun c hc=>hn c (Z6r hc)) hl
theorem Zcz {w:List UInt8} (hl:(Z12 w).length≤Z2b w):numF w=(match puF (Z2G w) (Z12 w) with | none=>none | some n=>if n≤9223372036854775808 then some n else none):=by
 unfold numF puF
 rw [if_neg (by omega)]
 split
 ·rfl
 ·rfl
theorem Zf4 (w:List UInt8) (hn:∀ c ∈ w,numB (c.toNat:Int)=true) (hw:w.length≤10000):Ctr Tryz.prog 125 [.s w] [] (fun r h=>NumR (numF w) r∧h=[]):=by
 have hnd:=Zf2 w
 have hcon:Lib.contains (Z12 w) [95]=false:=ZhH fun h=>by
  have:=hn _ (Z6r h)
  exact absurd this (by decide)
 have key:Ctr Tryz.prog 125 [.s w] [] (fun r h=>NumR (numF w) r∧Bnd 0 r):=by
  refine Ctr.enter Z5 (fn:=Tryz.f125) Z Z Z Z Z ?_
  refine Z4 Z Z Z Z Z Z Z (fun _=>Zbl w [48,120]) ?_
  cases hx:hexB w with
  | true=>
    have hp:pre w [48,120]=true:=hx
    have hds:cutP w [48,120]=Z12 w:=by
     unfold cutP Z12;rw [hp,hx];simp
    have hb:Z2G w=16:=by unfold Z2G;rw [hx];rfl
    have hm:Z2b w=16:=by unfold Z2b;rw [hx];rfl
    rw [hp,hds]
    refine ⟨fun _=>?_,fun h=>by cases h⟩
    refine Z4 Z Z Z Z Z Z Z (fun _=>Z6q (Z12 w) [95] (by omega)) ?_
    refine ⟨fun h=>?_,fun h=>?_⟩
    ·have h:(decide ((16:Int) < ((Z12 w)).length)||Lib.contains (Z12 w) [95])=true:=h
     rw [hcon,Bool.or_false] at h
     have h:=of_decide_eq_true h
     have h0:numF w=none:=by unfold numF;rw [if_pos (by rw [hm];omega)]
     rw [h0]
     exact ⟨⟨0,rfl⟩,rfl⟩
    ·have h:(decide ((16:Int) < ((Z12 w)).length)||Lib.contains (Z12 w) [95])=false:=h
     rw [hcon,Bool.or_false] at h
     have h:=of_decide_eq_false h
     have hl:(Z12 w).length≤Z2b w:=by rw [hm];omega
     have hpu:=Zf3 w hn hl
     rw [hb] at hpu
     rw [Zcz hl,hb]
     refine Z1k Z Z Z Z [] 0 Z Z Z (pu_of 16 (Z12 w) (by omega) hpu) Z Z Z Z trivial rfl (fun r H' hk=>?_) ?_
     ·rw [hk.2];exact ⟨Nat.le_refl _,Nat.le_refl _⟩
     rintro r H' ⟨hr,rfl⟩
     cases hx2:puF 16 (Z12 w) with
     | some n=>
       rw [hx2] at hr
       have hr:r=.tup [.i .u64 n,.raw .nilIface]:=hr
       subst hr
       refine ⟨?_,rfl⟩
       by_cases h2:n≤9223372036854775808
       ·have e:decide ((n:Int)≤9223372036854775808)=true:=decide_eq_true (by omega)
        show NumR (if n≤9223372036854775808 then some n else none) (SV.tup [.i .i64 (IntKind.i64.wrap n),.b (true&&decide ((n:Int)≤9223372036854775808))])
        rw [if_pos h2,e]
        rfl
       ·have e:decide ((n:Int)≤9223372036854775808)=false:=decide_eq_false (by omega)
        show NumR (if n≤9223372036854775808 then some n else none) (SV.tup [.i .i64 (IntKind.i64.wrap n),.b (true&&decide ((n:Int)≤9223372036854775808))])
        rw [if_neg h2,e]
        exact ⟨_,rfl⟩
     | none=>
       rw [hx2] at hr
       obtain ⟨v,hr,_⟩:=hr
       subst hr
       exact ⟨⟨_,rfl⟩,rfl⟩
  | false=>
    have hp:pre w [48,120]=false:=hx
    have hds:Z12 w=w:=by unfold Z12;rw [hx];rfl
    have hb:Z2G w=10:=by unfold Z2G;rw [hx];rfl
    have hm:Z2b w=19:=by unfold Z2b;rw [hx];rfl
    rw [hp]
    rw [hds] at hcon hnd
    refine ⟨fun h=>(by cases h),fun _=>?_⟩
    refine Z4 Z Z Z Z Z Z Z (fun _=>Z6q w [95] (by omega)) ?_
    refine ⟨fun h=>?_,fun h=>?_⟩
    ·have h:(decide ((19:Int) < (w).length)||Lib.contains w [95])=true:=h
     rw [hcon,Bool.or_false] at h
     have h:=of_decide_eq_true h
     have h0:numF w=none:=by unfold numF;rw [if_pos (by rw [hm,hds];omega)]
     rw [h0]
     exact ⟨⟨0,rfl⟩,rfl⟩
    ·have h:(decide ((19:Int) < (w).length)||Lib.contains w [95])=false:=h
     rw [hcon,Bool.or_false] at h
     have h:=of_decide_eq_false h
     have hl:(Z12 w).length≤Z2b w:=by rw [hm,hds];omega
     have hpu:=Zf3 w hn hl
     rw [hb,hds] at hpu
     rw [Zcz hl,hb,hds]
     refine Z1k Z Z Z Z [] 0 Z Z Z (pu_of 10 w (by omega) hpu) Z Z Z Z trivial rfl (fun r H' hk=>?_) ?_
     ·rw [hk.2];exact ⟨Nat.le_refl _,Nat.le_refl _⟩
     rintro r H' ⟨hr,rfl⟩
     cases hx2:puF 10 w with
     | some n=>
       rw [hx2] at hr
       have hr:r=.tup [.i .u64 n,.raw .nilIface]:=hr
       subst hr
       refine ⟨?_,rfl⟩
       by_cases h2:n≤9223372036854775808
       ·have e:decide ((n:Int)≤9223372036854775808)=true:=decide_eq_true (by omega)
        show NumR (if n≤9223372036854775808 then some n else none) (SV.tup [.i .i64 (IntKind.i64.wrap n),.b (true&&decide ((n:Int)≤9223372036854775808))])
        rw [if_pos h2,e]
        rfl
       ·have e:decide ((n:Int)≤9223372036854775808)=false:=decide_eq_false (by omega)
        show NumR (if n≤9223372036854775808 then some n else none) (SV.tup [.i .i64 (IntKind.i64.wrap n),.b (true&&decide ((n:Int)≤9223372036854775808))])
        rw [if_neg h2,e]
        exact ⟨_,rfl⟩
     | none=>
       rw [hx2] at hr
       obtain ⟨v,hr,_⟩:=hr
       subst hr
       exact ⟨⟨_,rfl⟩,rfl⟩
 exact key.trim ZK fun r H1 ⟨h1,h2⟩=>⟨[],H1,rfl,Nat.zero_le _,trivial,h2,h1,rfl⟩
end SX
end Go.Proofs.YtdddpbmcoimgdaaGreatDoor
