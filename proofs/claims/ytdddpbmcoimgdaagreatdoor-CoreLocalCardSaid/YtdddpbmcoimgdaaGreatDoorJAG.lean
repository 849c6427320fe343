/- A part of SX: symbolic and concrete runs of the program, with contracts of functions; lemmas without further conditions. Shortened by a tool (mini.py). -/
import Derived.Test.YtdddpbmcoimgdaaGreatDoorJAC
import Derived.Test.YtdddpbmcoimgdaaGreatDoorJAE
import Derived.Test.YtdddpbmcoimgdaaGreatDoorJAA
set_option linter.unusedVariables false
set_option linter.unusedSimpArgs false
set_option linter.unusedSectionVars false
set_option maxRecDepth 100000
namespace Go.Proofs.YtdddpbmcoimgdaaGreatDoor
namespace SX
open Go Go.Proofs
def lowI (n:Int):Int:=bits .or .u8 n 32
theorem Z3r (n:Int):CtrV Tryz.prog 206 [.i .u8 n] (.i .u8 (lowI n)):=by
 refine Z8 Z5 (fn:=Tryz.f206) Z Z Z Z Z Z ?_
 exact rfl
def Zdk (n:Nat):Bool:=
 if decide (48≤(n:Int))&&decide ((n:Int)≤57) then decide (IntKind.u8.wrap ((n:Int) - 48)=(digV n:Int))
 else if numB n then (decide (97≤lowI n)&&decide (lowI n≤122))&&decide (IntKind.u8.wrap (IntKind.u8.wrap (lowI n - 97)+10)=(digV n:Int)) else true
theorem Z9C:∀ n:Fin 256,Zdk n.val=true:=by decide +kernel
theorem Zcx {c:UInt8} (h:(decide (48≤(c.toNat:Int))&&decide ((c.toNat:Int)≤57))=true):IntKind.u8.wrap ((c.toNat:Int) - 48)=(digV c.toNat:Int):=by
 have:=Z9C ⟨c.toNat,c.toNat_lt⟩
 unfold Zdk at this
 simp only [h,if_true,decide_eq_true_eq] at this
 exact this
theorem Zcy {c:UInt8} (hn:numB (c.toNat:Int)=true) (h:(decide (48≤(c.toNat:Int))&&decide ((c.toNat:Int)≤57))=false) :
 (decide (97≤lowI c.toNat)&&decide (lowI c.toNat≤122))=true∧IntKind.u8.wrap (IntKind.u8.wrap (lowI c.toNat - 97)+10)=(digV c.toNat:Int):=by
 have:=Z9C ⟨c.toNat,c.toNat_lt⟩
 unfold Zdk at this
 simp only [h,hn,if_true,Bool.false_eq_true,if_false,Bool.and_eq_true,decide_eq_true_eq] at this
 simp only [Bool.and_eq_true,decide_eq_true_eq]
 exact this
theorem Z6o {b:Nat}:∀ {l:List UInt8} {c:UInt8} {a n:Nat},valB b l a=some n→valB b (l++[c]) a=if digV c.toNat < b then some (n * b+digV c.toNat) else none
 | [],c,a,n,h=>by simp only [valB,Option.some.injEq] at h;subst h;simp [valB]
 | x::l,c,a,n,h=>by
   simp only [valB,List.cons_append] at h ⊢
   split at h
   ·rename_i hx;rw [if_pos hx];exact Z6o h
   ·cases h
theorem Z9D {b:Nat}:∀ {l r:List UInt8} {a:Nat},valB b l a=none→valB b (l++r) a=none
 | [],r,a,h=>by simp [valB] at h
 | x::l,r,a,h=>by
   simp only [valB,List.cons_append] at h ⊢
   split at h
   ·rename_i hx;rw [if_pos hx];exact Z9D h
   ·rename_i hx;rw [if_neg hx]
theorem Z9E {s:List UInt8} {i:Nat} (hi:i < s.length):s.take (i+1)=s.take i++[s.getD i 0]:=by
 rw [List.take_add_one]
 simp [List.getElem?_eq_getElem hi,List.getD_eq_getElem?_getD]
theorem Z4P {b:Nat} {s:List UInt8} {i n:Nat} (hi:i < s.length) (h:valB b (s.take i) 0=some n) (hd:digV (s.getD i 0).toNat < b):valB b (s.take (i+1)) 0=some (n * b+digV (s.getD i 0).toNat):=by
 rw [Z9E hi,Z6o h,if_pos hd]
theorem Z5T {b:Nat} {s:List UInt8} {i n:Nat} (hi:i < s.length) (h:valB b (s.take i) 0=some n) (hd:¬ digV (s.getD i 0).toNat < b):valB b s 0=none:=by
 have h1:valB b (s.take (i+1)) 0=none:=by rw [Z9E hi,Z6o h,if_neg hd]
 have:=Z9D (r:=s.drop (i+1)) h1
 rwa [List.take_append_drop] at this
def puF (b:Nat) (s:List UInt8):Option Nat:=if s=[] then none else valB b s 0
def puV:Option Nat→SV
 | some n=>.tup [.i .u64 n,.raw .nilIface]
 | none=>.tup [.i .u64 0,.iface 227 (.i .i64 2)]
theorem wu64 {x:Int} (h1:0≤x) (h2:x≤18446744073709551615):IntKind.u64.wrap x=x:=IntWalk.u64_in x ⟨h1,h2⟩
set_option maxHeartbeats 4000000 in
theorem Zgt (s:List UInt8) (hn:∀ c ∈ s,numB (c.toNat:Int)=true) (hl:s.length≤19):CtrV Tryz.prog 169 [.s s,.i .i64 10,.i .i64 64] (puV (puF 10 s)):=by
 refine Z8 Z5 (fn:=Tryz.f169) Z Z Z Z Z (by unfold puV;split <;> rfl) ?_
 refine ⟨fun h=>?_,fun h=>?_⟩
 ·have h:s=[]:=of_decide_eq_true h
  subst h;rfl
 have hne:s≠[]:=of_decide_eq_false h
 have hpu:puF 10 s=valB 10 s 0:=by unfold puF;rw [if_neg hne]
 refine ⟨fun _=>?_,fun h=>absurd h (by decide)⟩
 iterate 2 refine ⟨fun h=>absurd h (by decide),fun _=>?_⟩
 refine ⟨fun _=>?_,fun h=>absurd h (by decide)⟩
 refine ⟨fun _=>by decide,?_⟩
 refine OpC.bytes Z5 Z Z Z Z Z Z Z Z Z fun ad cap=>?_
 refine WpC.loop Z5 (β:=Nat×Nat) (fun x=>x.1≤s.length∧valB 10 (s.take x.1) 0=some x.2∧x.2 < 10 ^ x.1) (fun x=>[(13,.i .u64 x.2),(101,.i .i64 x.1),(12,.b false)]) (fun _=>[]) (fun x=>s.length - x.1) (0,0) 23384026197294446688723656123004069511501514518720 ⟨Nat.zero_le _,rfl,by decide⟩ ?_ ?_
 ·exact ⟨rfl,⟨⟨rfl,rfl,rfl⟩,⟨rfl,rfl,rfl⟩,⟨rfl,rfl,rfl⟩,trivial⟩,⟨[],rfl⟩,trivial,rfl⟩
 ·rintro ⟨i,n⟩ ⟨hi,hv,hlt⟩
  simp only at hi hv hlt
  refine ⟨fun h2=>?_,fun h2=>?_⟩
  ·have h2:i < s.length:=by
    have h2:decide ((i:Int) < s.length)=true:=h2
    simpa using h2
   have hpw:10 ^ i≤1000000000000000000:=by
    have:10 ^ i≤10 ^ 18:=Nat.pow_le_pow_right (by decide) (by omega)
    exact Nat.le_trans this (by decide)
   have hmem:numB ((s.getD i 0).toNat:Int)=true:=hn _ (by
    rw [List.getD_eq_getElem?_getD,List.getElem?_eq_getElem h2];exact List.getElem_mem h2)
   refine ⟨fun _=>⟨by omega,by omega⟩,?_⟩
   refine ⟨fun h3=>?_,fun _=>?_⟩
   ·exfalso
    have h3:(decide (((s.getD i 0).toNat:Int)=95)&&decide ((10:Int)=0))=true:=h3
    simp at h3
   have fin:∀ D:Int,D=(digV (s.getD i 0).toNat:Int)→digV (s.getD i 0).toNat < 10→IntKind.u64.wrap (IntKind.u64.wrap ((n:Int) * IntKind.u64.wrap 10)+IntKind.u64.wrap D)=((n * 10+digV (s.getD i 0).toNat:Nat):Int)∧IntKind.u64.wrap ((n:Int) * IntKind.u64.wrap 10)=((n * 10:Nat):Int):=by
    intro D hD hd
    have e1:IntKind.u64.wrap 10=10:=rfl
    have e2:IntKind.u64.wrap ((n:Int) * 10)=(n:Int) * 10:=wu64 (by omega) (by omega)
    have e3:IntKind.u64.wrap D=D:=wu64 (by omega) (by omega)
    rw [e1,e2,e3,wu64 (by omega) (by omega),hD]
    exact ⟨by push_cast;rfl,by push_cast;rfl⟩
   refine ⟨fun h4=>?_,fun h4=>?_⟩
   ·have h4:(decide (48≤((s.getD i 0).toNat:Int))&&decide (((s.getD i 0).toNat:Int)≤57))=true:=h4
    have hD:=Zcx h4
    refine ⟨fun h5=>?_,fun h5=>?_⟩
    ·have h5:decide (IntKind.u8.wrap 10≤IntKind.u8.wrap (((s.getD i 0).toNat:Int) - 48))=true:=h5
     have h5:=of_decide_eq_true h5
     have e8:IntKind.u8.wrap 10=10:=rfl
     rw [e8,hD] at h5
     show _=puV (puF 10 s)
     rw [hpu,Z5T h2 hv (by omega)]
     rfl
    ·have h5:decide (IntKind.u8.wrap 10≤IntKind.u8.wrap (((s.getD i 0).toNat:Int) - 48))=false:=h5
     have h5:=of_decide_eq_false h5
     have e8:IntKind.u8.wrap 10=10:=rfl
     rw [e8,hD] at h5
     have hd:digV (s.getD i 0).toNat < 10:=by omega
     obtain ⟨f1,f2⟩:=fin _ hD hd
     refine ⟨fun h6=>?_,fun _=>⟨fun h7=>?_,fun _=>?_⟩⟩
     ·have h6:decide ((1844674407370955162:Int)≤n)=true:=h6
      have h6:=of_decide_eq_true h6
      omega
     ·exfalso
      have h7:(decide (IntKind.u64.wrap (IntKind.u64.wrap ((n:Int) * IntKind.u64.wrap 10)+IntKind.u64.wrap (IntKind.u8.wrap (((s.getD i 0).toNat:Int) - 48))) < IntKind.u64.wrap ((n:Int) * IntKind.u64.wrap 10))||decide ((18446744073709551615:Int) < IntKind.u64.wrap (IntKind.u64.wrap ((n:Int) * IntKind.u64.wrap 10)+IntKind.u64.wrap (IntKind.u8.wrap (((s.getD i 0).toNat:Int) - 48)))))=true:=h7
      rw [f1,f2] at h7
      simp only [Bool.or_eq_true,decide_eq_true_eq] at h7
      omega
     ·refine ⟨(i+1,n * 10+digV (s.getD i 0).toNat),⟨h2,Z4P h2 hv hd,?_⟩,by show s.length - (i+1) < s.length - i;omega,rfl,⟨⟨?_,rfl,rfl⟩,⟨?_,rfl,rfl⟩,⟨rfl,rfl,rfl⟩,trivial⟩,⟨[],rfl⟩,trivial,rfl⟩
      ·show n * 10+digV (s.getD i 0).toNat < 10 ^ (i+1)
       rw [Nat.pow_succ];omega
      ·exact congrArg (SV.i .u64) f1
      ·show SV.i .i64 (IntKind.i64.wrap ((i:Int)+1))=SV.i .i64 ((i+1:Nat):Int)
       rw [w64 (by omega) (by omega)];rfl
   ·have h4:(decide (48≤((s.getD i 0).toNat:Int))&&decide (((s.getD i 0).toNat:Int)≤57))=false:=h4
    obtain ⟨hD1,hD⟩:=Zcy hmem h4
    iterate 2 refine Z4 Z Z Z Z Z Z Z (fun _=>Z3r _) ?_
    refine ⟨fun _=>?_,fun h5=>absurd (hD1.symm.trans h5) (by decide)⟩
    refine Z4 Z Z Z Z Z Z Z (fun _=>Z3r _) ?_
    refine ⟨fun h5=>?_,fun h5=>?_⟩
    ·have h5:decide (IntKind.u8.wrap 10≤IntKind.u8.wrap (IntKind.u8.wrap (lowI ((s.getD i 0).toNat:Int) - 97)+10))=true:=h5
     have h5:=of_decide_eq_true h5
     have e8:IntKind.u8.wrap 10=10:=rfl
     rw [e8,hD] at h5
     show _=puV (puF 10 s)
     rw [hpu,Z5T h2 hv (by omega)]
     rfl
    ·have h5:decide (IntKind.u8.wrap 10≤IntKind.u8.wrap (IntKind.u8.wrap (lowI ((s.getD i 0).toNat:Int) - 97)+10))=false:=h5
     have h5:=of_decide_eq_false h5
     have e8:IntKind.u8.wrap 10=10:=rfl
     rw [e8,hD] at h5
     have hd:digV (s.getD i 0).toNat < 10:=by omega
     obtain ⟨f1,f2⟩:=fin _ hD hd
     refine ⟨fun h6=>?_,fun _=>⟨fun h7=>?_,fun _=>?_⟩⟩
     ·have h6:decide ((1844674407370955162:Int)≤n)=true:=h6
      have h6:=of_decide_eq_true h6
      omega
     ·exfalso
      have h7:(decide (IntKind.u64.wrap (IntKind.u64.wrap ((n:Int) * IntKind.u64.wrap 10)+IntKind.u64.wrap (IntKind.u8.wrap (IntKind.u8.wrap (lowI ((s.getD i 0).toNat:Int) - 97)+10))) < IntKind.u64.wrap ((n:Int) * IntKind.u64.wrap 10))||decide ((18446744073709551615:Int) < IntKind.u64.wrap (IntKind.u64.wrap ((n:Int) * IntKind.u64.wrap 10)+IntKind.u64.wrap (IntKind.u8.wrap (IntKind.u8.wrap (lowI ((s.getD i 0).toNat:Int) - 97)+10)))))=true:=h7
      rw [f1,f2] at h7
      simp only [Bool.or_eq_true,decide_eq_true_eq] at h7
      omega
     ·refine ⟨(i+1,n * 10+digV (s.getD i 0).toNat),⟨h2,Z4P h2 hv hd,?_⟩,by show s.length - (i+1) < s.length - i;omega,rfl,⟨⟨?_,rfl,rfl⟩,⟨?_,rfl,rfl⟩,⟨rfl,rfl,rfl⟩,trivial⟩,⟨[],rfl⟩,trivial,rfl⟩
      ·show n * 10+digV (s.getD i 0).toNat < 10 ^ (i+1)
       rw [Nat.pow_succ];omega
      ·exact congrArg (SV.i .u64) f1
      ·show SV.i .i64 (IntKind.i64.wrap ((i:Int)+1))=SV.i .i64 ((i+1:Nat):Int)
       rw [w64 (by omega) (by omega)];rfl
  ·have h2:i=s.length:=by
    have h2:decide ((i:Int) < s.length)=false:=h2
    simp at h2;omega
   subst h2
   rw [List.take_length] at hv
   refine Z4 Z Z Z Z Z Z Z (r:=.b true) (fun hg=>(by cases hg)) ?_
   refine ⟨fun h=>(by cases h),fun _=>?_⟩
   show _=puV (puF 10 s)
   rw [hpu,hv]
   rfl
set_option maxHeartbeats 4000000 in
theorem Zgu (s:List UInt8) (hn:∀ c ∈ s,numB (c.toNat:Int)=true) (hl:s.length≤16):CtrV Tryz.prog 169 [.s s,.i .i64 16,.i .i64 64] (puV (puF 16 s)):=by
 refine Z8 Z5 (fn:=Tryz.f169) Z Z Z Z Z (by unfold puV;split <;> rfl) ?_
 refine ⟨fun h=>?_,fun h=>?_⟩
 ·have h:s=[]:=of_decide_eq_true h
  subst h;rfl
 have hne:s≠[]:=of_decide_eq_false h
 have hpu:puF 16 s=valB 16 s 0:=by unfold puF;rw [if_neg hne]
 refine ⟨fun _=>?_,fun h=>absurd h (by decide)⟩
 iterate 3 refine ⟨fun h=>absurd h (by decide),fun _=>?_⟩
 refine ⟨fun _=>?_,fun h=>absurd h (by decide)⟩
 refine ⟨fun _=>by decide,?_⟩
 refine OpC.bytes Z5 Z Z Z Z Z Z Z Z Z fun ad cap=>?_
 refine WpC.loop Z5 (β:=Nat×Nat) (fun x=>x.1≤s.length∧valB 16 (s.take x.1) 0=some x.2∧x.2 < 16 ^ x.1) (fun x=>[(13,.i .u64 x.2),(101,.i .i64 x.1),(12,.b false)]) (fun _=>[]) (fun x=>s.length - x.1) (0,0) 23384026197294446688723656123004069511501514518720 ⟨Nat.zero_le _,rfl,by decide⟩ ?_ ?_
 ·exact ⟨rfl,⟨⟨rfl,rfl,rfl⟩,⟨rfl,rfl,rfl⟩,⟨rfl,rfl,rfl⟩,trivial⟩,⟨[],rfl⟩,trivial,rfl⟩
 ·rintro ⟨i,n⟩ ⟨hi,hv,hlt⟩
  simp only at hi hv hlt
  refine ⟨fun h2=>?_,fun h2=>?_⟩
  ·have h2:i < s.length:=by
    have h2:decide ((i:Int) < s.length)=true:=h2
    simpa using h2
   have hpw:16 ^ i≤1152921504606846976:=by
    have:16 ^ i≤16 ^ 15:=Nat.pow_le_pow_right (by decide) (by omega)
    exact Nat.le_trans this (by decide)
   have hmem:numB ((s.getD i 0).toNat:Int)=true:=hn _ (by
    rw [List.getD_eq_getElem?_getD,List.getElem?_eq_getElem h2];exact List.getElem_mem h2)
   refine ⟨fun _=>⟨by omega,by omega⟩,?_⟩
   refine ⟨fun h3=>?_,fun _=>?_⟩
   ·exfalso
    have h3:(decide (((s.getD i 0).toNat:Int)=95)&&decide ((16:Int)=0))=true:=h3
    simp at h3
   have fin:∀ D:Int,D=(digV (s.getD i 0).toNat:Int)→digV (s.getD i 0).toNat < 16→IntKind.u64.wrap (IntKind.u64.wrap ((n:Int) * IntKind.u64.wrap 16)+IntKind.u64.wrap D)=((n * 16+digV (s.getD i 0).toNat:Nat):Int)∧IntKind.u64.wrap ((n:Int) * IntKind.u64.wrap 16)=((n * 16:Nat):Int):=by
    intro D hD hd
    have e1:IntKind.u64.wrap 16=16:=rfl
    have e2:IntKind.u64.wrap ((n:Int) * 16)=(n:Int) * 16:=wu64 (by omega) (by omega)
    have e3:IntKind.u64.wrap D=D:=wu64 (by omega) (by omega)
    rw [e1,e2,e3,wu64 (by omega) (by omega),hD]
    exact ⟨by push_cast;rfl,by push_cast;rfl⟩
   refine ⟨fun h4=>?_,fun h4=>?_⟩
   ·have h4:(decide (48≤((s.getD i 0).toNat:Int))&&decide (((s.getD i 0).toNat:Int)≤57))=true:=h4
    have hD:=Zcx h4
    refine ⟨fun h5=>?_,fun h5=>?_⟩
    ·have h5:decide (IntKind.u8.wrap 16≤IntKind.u8.wrap (((s.getD i 0).toNat:Int) - 48))=true:=h5
     have h5:=of_decide_eq_true h5
     have e8:IntKind.u8.wrap 16=16:=rfl
     rw [e8,hD] at h5
     show _=puV (puF 16 s)
     rw [hpu,Z5T h2 hv (by omega)]
     rfl
    ·have h5:decide (IntKind.u8.wrap 16≤IntKind.u8.wrap (((s.getD i 0).toNat:Int) - 48))=false:=h5
     have h5:=of_decide_eq_false h5
     have e8:IntKind.u8.wrap 16=16:=rfl
     rw [e8,hD] at h5
     have hd:digV (s.getD i 0).toNat < 16:=by omega
     obtain ⟨f1,f2⟩:=fin _ hD hd
     refine ⟨fun h6=>?_,fun _=>⟨fun h7=>?_,fun _=>?_⟩⟩
     ·have h6:decide ((1152921504606846976:Int)≤n)=true:=h6
      have h6:=of_decide_eq_true h6
      omega
     ·exfalso
      have h7:(decide (IntKind.u64.wrap (IntKind.u64.wrap ((n:Int) * IntKind.u64.wrap 16)+IntKind.u64.wrap (IntKind.u8.wrap (((s.getD i 0).toNat:Int) - 48))) < IntKind.u64.wrap ((n:Int) * IntKind.u64.wrap 16))||decide ((18446744073709551615:Int) < IntKind.u64.wrap (IntKind.u64.wrap ((n:Int) * IntKind.u64.wrap 16)+IntKind.u64.wrap (IntKind.u8.wrap (((s.getD i 0).toNat:Int) - 48)))))=true:=h7
      rw [f1,f2] at h7
      simp only [Bool.or_eq_true,decide_eq_true_eq] at h7
      omega
     ·refine ⟨(i+1,n * 16+digV (s.getD i 0).toNat),⟨h2,Z4P h2 hv hd,?_⟩,by show s.length - (i+1) < s.length - i;omega,rfl,⟨⟨?_,rfl,rfl⟩,⟨?_,rfl,rfl⟩,⟨rfl,rfl,rfl⟩,trivial⟩,⟨[],rfl⟩,trivial,rfl⟩
      ·show n * 16+digV (s.getD i 0).toNat < 16 ^ (i+1)
       rw [Nat.pow_succ];omega
      ·exact congrArg (SV.i .u64) f1
      ·show SV.i .i64 (IntKind.i64.wrap ((i:Int)+1))=SV.i .i64 ((i+1:Nat):Int)
       rw [w64 (by omega) (by omega)];rfl
   ·have h4:(decide (48≤((s.getD i 0).toNat:Int))&&decide (((s.getD i 0).toNat:Int)≤57))=false:=h4
    obtain ⟨hD1,hD⟩:=Zcy hmem h4
    iterate 2 refine Z4 Z Z Z Z Z Z Z (fun _=>Z3r _) ?_
    refine ⟨fun _=>?_,fun h5=>absurd (hD1.symm.trans h5) (by decide)⟩
    refine Z4 Z Z Z Z Z Z Z (fun _=>Z3r _) ?_
    refine ⟨fun h5=>?_,fun h5=>?_⟩
    ·have h5:decide (IntKind.u8.wrap 16≤IntKind.u8.wrap (IntKind.u8.wrap (lowI ((s.getD i 0).toNat:Int) - 97)+10))=true:=h5
     have h5:=of_decide_eq_true h5
     have e8:IntKind.u8.wrap 16=16:=rfl
     rw [e8,hD] at h5
     show _=puV (puF 16 s)
     rw [hpu,Z5T h2 hv (by omega)]
     rfl
    ·have h5:decide (IntKind.u8.wrap 16≤IntKind.u8.wrap (IntKind.u8.wrap (lowI ((s.getD i 0).toNat:Int) - 97)+10))=false:=h5
     have h5:=of_decide_eq_false h5
     have e8:IntKind.u8.wrap 16=16:=rfl
     rw [e8,hD] at h5
     have hd:digV (s.getD i 0).toNat < 16:=by omega
     obtain ⟨f1,f2⟩:=fin _ hD hd
     refine ⟨fun h6=>?_,fun _=>⟨fun h7=>?_,fun _=>?_⟩⟩
     ·have h6:decide ((1152921504606846976:Int)≤n)=true:=h6
      have h6:=of_decide_eq_true h6
      omega
     ·exfalso
      have h7:(decide (IntKind.u64.wrap (IntKind.u64.wrap ((n:Int) * IntKind.u64.wrap 16)+IntKind.u64.wrap (IntKind.u8.wrap (IntKind.u8.wrap (lowI ((s.getD i 0).toNat:Int) - 97)+10))) < IntKind.u64.wrap ((n:Int) * IntKind.u64.wrap 16))||decide ((18446744073709551615:Int) < IntKind.u64.wrap (IntKind.u64.wrap ((n:Int) * IntKind.u64.wrap 16)+IntKind.u64.wrap (IntKind.u8.wrap (IntKind.u8.wrap (lowI ((s.getD i 0).toNat:Int) - 97)+10)))))=true:=h7
      rw [f1,f2] at h7
      simp only [Bool.or_eq_true,decide_eq_true_eq] at h7
      omega
     ·refine ⟨(i+1,n * 16+digV (s.getD i 0).toNat),⟨h2,Z4P h2 hv hd,?_⟩,by show s.length - (i+1) < s.length - i;omega,rfl,⟨⟨?_,rfl,rfl⟩,⟨?_,rfl,rfl⟩,⟨rfl,rfl,rfl⟩,trivial⟩,⟨[],rfl⟩,trivial,rfl⟩
      ·show n * 16+digV (s.getD i 0).toNat < 16 ^ (i+1)
       rw [Nat.pow_succ];omega
      ·exact congrArg (SV.i .u64) f1
      ·show SV.i .i64 (IntKind.i64.wrap ((i:Int)+1))=SV.i .i64 ((i+1:Nat):Int)
       rw [w64 (by omega) (by omega)];rfl
  ·have h2:i=s.length:=by
    have h2:decide ((i:Int) < s.length)=false:=h2
    simp at h2;omega
   subst h2
   rw [List.take_length] at hv
   refine Z4 Z Z Z Z Z Z Z (r:=.b true) (fun hg=>(by cases hg)) ?_
   refine ⟨fun h=>(by cases h),fun _=>?_⟩
   show _=puV (puF 16 s)
   rw [hpu,hv]
   rfl
end SX
end Go.Proofs.YtdddpbmcoimgdaaGreatDoor
