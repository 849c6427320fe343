/- A part of SX: symbolic and concrete runs of the program, with contracts of functions; lemmas without further conditions. Shortened by a tool (mini.py). -/
import Derived.Shelf.Strings.Search3
import Derived.Shelf.Small.Strs
import Derived.Shelf.Pu.ToError
import Derived.Lib.IndexMore
import Derived.Lib.IndexBytes
import Derived.Test.YtdddpbmcoimgdaaGreatDoorWAC
import Derived.Test.YtdddpbmcoimgdaaGreatDoorWAD
import Derived.Test.YtdddpbmcoimgdaaGreatDoorWAG
import Derived.Test.YtdddpbmcoimgdaaGreatDoorWAA
set_option linter.unusedVariables false
set_option linter.unusedSimpArgs false
set_option linter.unusedSectionVars false
set_option maxRecDepth 100000
namespace Go.Proofs.YtdddpbmcoimgdaaGreatDoor
namespace SX
open Go Go.Proofs
theorem Z6W (w:World):Sort.grow (w.drewN 0) #[]=w:=by simp [Sort.grow,World.drewN]
theorem ZdZ:tabs 0=some (.anyI .i64):=by kernel_rfl
theorem Z7J {w:World} (hT:TabsIn w):∃ n,w.cell? ⟨0,0,none⟩=some (.int .i64 n):=by
 obtain ⟨n,arr,t,fr,h1,h2⟩:=hT _ _ ZdZ
 have h1:w.heap[0]?=some (.cells arr t fr):=h1
 exact ⟨n,by unfold World.cell?;simp only [h1];simpa using h2⟩
theorem ZfB (s p:List UInt8) (hs:s.length≤100000):CtrV Tryz.prog 120 [.s s,.s p] (.i .i64 (Lib.index s p)):=
 Z3t (fn:=Tryz.f120) Tryz.func120 Z Z (fun m=>trivial) rfl fun w hT E m _=>by
  obtain ⟨n,hm⟩:=Z7J hT
  refine (Any.strings_Index Zf6 ⟨⟨s⟩⟩ ⟨⟨p⟩⟩ n w (by show s.length < 4294967281;omega) hm).mono ?_
  rintro e w' ⟨he,rfl⟩
  exact ⟨he,0,#[],(Z6W _).symm⟩
theorem Z6X (s p:List UInt8) (hs:s.length≤100000):CtrV Tryz.prog 144 [.s s,.s p] (.b (Lib.contains s p)):=
 Z3t (fn:=Tryz.f144) Tryz.func144 Z Z (fun m=>trivial) rfl fun w hT E m _=>by
  obtain ⟨n,hm⟩:=Z7J hT
  refine (Any.strings_Contains Zf7 ⟨⟨s⟩⟩ ⟨⟨p⟩⟩ n w (by show s.length < 4294967281;omega) hm).mono ?_
  rintro e w' ⟨he,rfl⟩
  exact ⟨he,0,#[],(Z6W _).symm⟩
theorem Zat (s:List UInt8) (c:Int):CtrV Tryz.prog 127 [.s s,.i .u8 c] (.i .i64 (Lib.indexByte s c.toNat.toUInt8)):=
 Z3t (fn:=Tryz.f127) Tryz.func127 Z Z (fun m=>trivial) rfl fun w hT E m _=>by
  refine (Any.strings_IndexByte Zf8 ⟨⟨s⟩⟩ c w).mono ?_
  rintro e w' ⟨he,rfl⟩
  exact ⟨he,0,#[],(Z6W _).symm⟩
theorem Zih {s:List UInt8} {c:UInt8} (h:c ∉ s):Lib.contains s [c]=false:=by
 have key:∀ s:List UInt8,c ∉ s→Lib.indexByte s c = -1:=by
  intro s
  induction s with
  | nil=>intro _;rfl
  | cons b l ih=>
    intro h
    simp only [List.mem_cons,not_or] at h
    unfold Lib.indexByte
    have hb:(b == c)=false:=by simp;exact fun e=>h.1 e.symm
    rw [hb,ih h.2];rfl
 unfold Lib.contains
 rw [Lib.index_one,key s h]
 rfl
theorem ZfC:Z6r=false:=rfl
theorem Zii:tabs 4=some .ifc:=by kernel_rfl
theorem ZgY (f s:List UInt8) (hs:s.length≤100000) (b k:Int):Ctr Tryz.prog 170 [.s f,.s s,.i .i64 b,.i .i64 k,.iface 227 (.i .i64 2)] [] (fun r h=>(∃ v,r=.iface 229 (.raw v)∧Z25 v=true)∧h=[]):=by
 refine ⟨fun C E m w hr ha=>?_⟩
 have hrun:(callFunc 170 (denL E [.s f,.s s,.i .i64 b,.i .i64 k,.iface 227 (.i .i64 2)]).toArray).run Tryz.prog w=.ok (.enter 170 (denL E [.s f,.s s,.i .i64 b,.i .i64 k,.iface 227 (.i .i64 2)]).toArray) w:=
  enters_of Tryz.func170 (by kernel_rfl) rfl _ w
 obtain ⟨tt,v,t,fr,h1⟩:=hr.tabs _ _ Zii
 have h1:w.heap[4]?=some (.cells #[.iface tt v] t fr):=h1
 have hc:w.cell? ⟨4,0,none⟩=some (.iface tt v):=by unfold World.cell?;simp only [h1];rfl
 unfold Z32
 rw [hrun]
 refine (AnyPu.strconv_toError_syntax Zf9 ⟨⟨f⟩⟩ ⟨⟨s⟩⟩ b k (.iface tt v) w (by show s.length≤281474976710656;omega) hc (.inr ⟨_,_,rfl⟩)).mono ?_
 rintro e w' ⟨N,rfl,_,_,hw⟩
 refine ⟨_,rfl,.iface 229 (.raw (.pointer (some ⟨N,0,none⟩))),[],E,m,rfl,⟨⟨_,rfl,rfl⟩,rfl⟩,⟨?_,rfl⟩,.refl ..,hr.below ZfC hw⟩
 simp [Ok,live]
def PuR (x:Option Nat) (r:SV):Prop:=
 match x with
 | some n=>r=.tup [.i .u64 n,.raw .nilIface]
 | none=>∃ v,r=.tup [.i .u64 0,.iface 229 (.raw v)]∧Z25 v=true
theorem pu_of (b:Nat) (s:List UInt8) (hs:s.length≤100000) (hi:CtrV Tryz.prog 169 [.s s,.i .i64 b,.i .i64 64] (puV (puF b s))):Ctr Tryz.prog 145 [.s s,.i .i64 b,.i .i64 64] [] (fun r h=>PuR (puF b s) r∧h=[]):=by
 have key:Ctr Tryz.prog 145 [.s s,.i .i64 b,.i .i64 64] [] (fun r h=>PuR (puF b s) r∧Bnd 0 r):=by
  refine Ctr.enter Z5 (fn:=Tryz.f145) Z Z Z Z Z ?_
  cases hx:puF b s with
  | some n=>
    rw [hx] at hi
    refine Z4 Z Z Z Z Z Z Z (fun _=>hi) ?_
    refine ⟨fun h=>(by cases h),fun _=>?_⟩
    exact ⟨rfl,rfl⟩
  | none=>
    rw [hx] at hi
    refine Z4 Z Z Z Z Z Z Z (fun _=>hi) ?_
    refine ⟨fun _=>?_,fun h=>by cases h⟩
    refine ZD Z Z Z Z [] 0 Z Z Z (ZgY [80,97,114,115,101,85,105,110,116] s hs b 64) Z Z Z Z trivial rfl (fun r H' hk=>?_) ?_
    ·rw [hk.2];exact ⟨Nat.le_refl _,Nat.le_refl _⟩
    rintro r H' ⟨⟨v,rfl,hv⟩,rfl⟩
    exact ⟨⟨v,rfl,hv⟩,rfl⟩
 exact key.trim Z11 fun r H1 ⟨h1,h2⟩=>⟨[],H1,rfl,Nat.zero_le _,trivial,h2,h1,rfl⟩
def NumR (x:Option Nat) (r:SV):Prop:=
 match x with
 | some n=>r=.tup [.i .i64 (IntKind.i64.wrap n),.b true]
 | none=>∃ v,r=.tup [.i .i64 v,.b false]
theorem Z6Y {w:List UInt8} {c:UInt8} (h:c ∈ Z1c w):c ∈ w:=by
 unfold Z1c at h
 split at h
 ·exact List.mem_of_mem_drop h
 ·exact h
theorem ZfD (w:List UInt8):(Z1c w).length≤w.length:=by
 unfold Z1c;split
 ·simp
 ·exact Nat.le_refl _
theorem ZfE (w:List UInt8) (hn:∀ c ∈ w,numB (c.toNat:Int)=true) (hl:(Z1c w).length≤Z2j w):CtrV Tryz.prog 169 [.s (Z1c w),.i .i64 (Z2M w),.i .i64 64] (puV (puF (Z2M w) (Z1c w))):=by
 unfold Z2M Z2j at *
 split at hl
 ·rename_i h;simp only [h,if_true];exact ZgX _ (fun c hc=>hn c (Z6Y hc)) hl
 ·rename_i h;simp only [h,if_false];exact ZgW _ (fun c hc=>hn c (Z6Y hc)) hl
theorem Zde {w:List UInt8} (hl:(Z1c w).length≤Z2j w):numF w=(match puF (Z2M w) (Z1c w) with | none=>none | some n=>if n≤9223372036854775808 then some n else none):=by
 unfold numF puF
 rw [if_neg (by omega)]
 split
 ·rfl
 ·rfl
theorem ZfF (w:List UInt8) (hn:∀ c ∈ w,numB (c.toNat:Int)=true) (hw:w.length≤10000):Ctr Tryz.prog 125 [.s w] [] (fun r h=>NumR (numF w) r∧h=[]):=by
 have hnd:=ZfD w
 have hcon:Lib.contains (Z1c w) [95]=false:=Zih fun h=>by
  have:=hn _ (Z6Y h)
  exact absurd this (by decide)
 have key:Ctr Tryz.prog 125 [.s w] [] (fun r h=>NumR (numF w) r∧Bnd 0 r):=by
  refine Ctr.enter Z5 (fn:=Tryz.f125) Z Z Z Z Z ?_
  refine Z4 Z Z Z Z Z Z Z (fun _=>ZbY w [48,120]) ?_
  cases hx:hexB w with
  | true=>
    have hp:pre w [48,120]=true:=hx
    have hds:cutP w [48,120]=Z1c w:=by
     unfold cutP Z1c;rw [hp,hx];simp
    have hb:Z2M w=16:=by unfold Z2M;rw [hx];rfl
    have hm:Z2j w=16:=by unfold Z2j;rw [hx];rfl
    rw [hp,hds]
    refine ⟨fun _=>?_,fun h=>by cases h⟩
    refine Z4 Z Z Z Z Z Z Z (fun _=>Z6X (Z1c w) [95] (by omega)) ?_
    refine ⟨fun h=>?_,fun h=>?_⟩
    ·have h:(decide ((16:Int) < ((Z1c w)).length)||Lib.contains (Z1c w) [95])=true:=h
     rw [hcon,Bool.or_false] at h
     have h:=of_decide_eq_true h
     have h0:numF w=none:=by unfold numF;rw [if_pos (by rw [hm];omega)]
     rw [h0]
     exact ⟨⟨0,rfl⟩,rfl⟩
    ·have h:(decide ((16:Int) < ((Z1c w)).length)||Lib.contains (Z1c w) [95])=false:=h
     rw [hcon,Bool.or_false] at h
     have h:=of_decide_eq_false h
     have hl:(Z1c w).length≤Z2j w:=by rw [hm];omega
     have hpu:=ZfE w hn hl
     rw [hb] at hpu
     rw [Zde hl,hb]
     refine ZD Z Z Z Z [] 0 Z Z Z (pu_of 16 (Z1c w) (by omega) hpu) Z Z Z Z trivial rfl (fun r H' hk=>?_) ?_
     ·rw [hk.2];exact ⟨Nat.le_refl _,Nat.le_refl _⟩
     rintro r H' ⟨hr,rfl⟩
     cases hx2:puF 16 (Z1c w) with
     | some n=>
       rw [hx2] at hr
       have hr:r=.tup [.i .u64 n,.raw .nilIface]:=hr
       subst hr
       refine ⟨?_,rfl⟩
       by_cases h2:n≤9223372036854775808
       ·have e:decide ((n:Int)≤9223372036854775808)=true:=decide_eq_true (by omega)
        show NumR (if n≤9223372036854775808 then some n else none) (SV.tup [.i .i64 (IntKind.i64.wrap n),.b (true&&decide ((n:Int)≤9223372036854775808))])
        rw [if_pos h2,e]
        rfl
       ·have e:decide ((n:Int)≤9223372036854775808)=false:=decide_eq_false (by omega)
        show NumR (if n≤9223372036854775808 then some n else none) (SV.tup [.i .i64 (IntKind.i64.wrap n),.b (true&&decide ((n:Int)≤9223372036854775808))])
        rw [if_neg h2,e]
        exact ⟨_,rfl⟩
     | none=>
       rw [hx2] at hr
       obtain ⟨v,hr,_⟩:=hr
       subst hr
       exact ⟨⟨_,rfl⟩,rfl⟩
  | false=>
    have hp:pre w [48,120]=false:=hx
    have hds:Z1c w=w:=by unfold Z1c;rw [hx];rfl
    have hb:Z2M w=10:=by unfold Z2M;rw [hx];rfl
    have hm:Z2j w=19:=by unfold Z2j;rw [hx];rfl
    rw [hp]
    rw [hds] at hcon hnd
    refine ⟨fun h=>(by cases h),fun _=>?_⟩
    refine Z4 Z Z Z Z Z Z Z (fun _=>Z6X w [95] (by omega)) ?_
    refine ⟨fun h=>?_,fun h=>?_⟩
    ·have h:(decide ((19:Int) < (w).length)||Lib.contains w [95])=true:=h
     rw [hcon,Bool.or_false] at h
     have h:=of_decide_eq_true h
     have h0:numF w=none:=by unfold numF;rw [if_pos (by rw [hm,hds];omega)]
     rw [h0]
     exact ⟨⟨0,rfl⟩,rfl⟩
    ·have h:(decide ((19:Int) < (w).length)||Lib.contains w [95])=false:=h
     rw [hcon,Bool.or_false] at h
     have h:=of_decide_eq_false h
     have hl:(Z1c w).length≤Z2j w:=by rw [hm,hds];omega
     have hpu:=ZfE w hn hl
     rw [hb,hds] at hpu
     rw [Zde hl,hb,hds]
     refine ZD Z Z Z Z [] 0 Z Z Z (pu_of 10 w (by omega) hpu) Z Z Z Z trivial rfl (fun r H' hk=>?_) ?_
     ·rw [hk.2];exact ⟨Nat.le_refl _,Nat.le_refl _⟩
     rintro r H' ⟨hr,rfl⟩
     cases hx2:puF 10 w with
     | some n=>
       rw [hx2] at hr
       have hr:r=.tup [.i .u64 n,.raw .nilIface]:=hr
       subst hr
       refine ⟨?_,rfl⟩
       by_cases h2:n≤9223372036854775808
       ·have e:decide ((n:Int)≤9223372036854775808)=true:=decide_eq_true (by omega)
        show NumR (if n≤9223372036854775808 then some n else none) (SV.tup [.i .i64 (IntKind.i64.wrap n),.b (true&&decide ((n:Int)≤9223372036854775808))])
        rw [if_pos h2,e]
        rfl
       ·have e:decide ((n:Int)≤9223372036854775808)=false:=decide_eq_false (by omega)
        show NumR (if n≤9223372036854775808 then some n else none) (SV.tup [.i .i64 (IntKind.i64.wrap n),.b (true&&decide ((n:Int)≤9223372036854775808))])
        rw [if_neg h2,e]
        exact ⟨_,rfl⟩
     | none=>
       rw [hx2] at hr
       obtain ⟨v,hr,_⟩:=hr
       subst hr
       exact ⟨⟨_,rfl⟩,rfl⟩
 exact key.trim Z11 fun r H1 ⟨h1,h2⟩=>⟨[],H1,rfl,Nat.zero_le _,trivial,h2,h1,rfl⟩
end SX
end Go.Proofs.YtdddpbmcoimgdaaGreatDoor
