/- A part of SX: symbolic and concrete runs of the program, with contracts of functions; lemmas without further conditions. Shortened by a tool (mini.py). -/
import Derived.Lib.ConvBytes
import Derived.IntWalk
import Derived.Lib.Index
import Derived.Test.YtdddpbmcoimgdaaGreatDoorRows
import Derived.ProofKit
import Derived.LaidMore
import Derived.OpenShut
import Derived.Stop.Joined
import Derived.Carry
import Derived.SizedLaws
import Derived.ChangeMaps5
import Derived.JoinedOf
import Derived.Shelf.Strings.OnBuilder
import Derived.Lib.IndexMore
import Derived.Lib.IndexBytes
import Derived.Test.YtdddpbmcoimgdaaGreatDoorWAB
import Derived.Test.YtdddpbmcoimgdaaGreatDoorWAC
import Derived.Test.YtdddpbmcoimgdaaGreatDoorWAA
set_option linter.unusedVariables false
set_option linter.unusedSimpArgs false
set_option linter.unusedSectionVars false
set_option maxRecDepth 100000
namespace Go.Proofs.YtdddpbmcoimgdaaGreatDoor
namespace SX
open Go Go.Proofs
section
def byE (c:UInt8):List SV:=[.i .u8 (c.toNat:Int)]
section
variable {P:Program} {T:Tb} {ops:Array Oper} {o:Oper}
theorem OpC.bytes (hT:TabOk P T) {K:St→Prop} {t:List SV} {h:List SB} {src dst:TypeId} {x:Operand} (hop:o.op=.convert src dst x) (hg:Zz ops t o=some []) {s:List UInt8} (hx:evG [] t x=.s s) {ts td te:TI} {e:TypeId}
 (h1:T src=some ts) (h2:ts.k=.str) (h3:T dst=some td) (h4:td.k=.slice e) (h5:T e=some te) (h6:te.k=.int .u8) (hK:∀ ad cap,putK t h o.dst (.imm UInt8 0 1 byE s (some ad) cap) K):OpC P T ops o K ⟨t,h⟩:=by
 refine ⟨fun C E m a w hr=>?_⟩
 have hwant:Region.wanted o (yielded ops a.tmps)=true:=by simp [Region.wanted,Z1p hg]
 unfold opW
 rw [hwant,if_pos rfl]
 obtain ⟨g1,g2⟩:=(hr.evs .nil).live (o:=x) (by rw [hx];rfl)
 rw [hx] at g2
 have hxv:a.eval x=.string ⟨⟨s⟩⟩:=by rw [g2];simp [den_v]
 have hs:=(hT.ti src ts h1).str h2
 have hd:=(hT.ti dst td h3).slice h4
 have he:=TiOk.int_und (hT.ti e te h5) h6
 have hrun:=Lib.run_convert_string_bytes w src dst e ⟨⟨s⟩⟩ hs hd he
 simp only [Oper.wp,execOp,hop,hxv,Sem.run_bind,hrun,Result.andThen_ok,Sem.run_pure,Oper.upon]
 have hfresh:∀ b o',w.heap[b]?=some o'→b < w.heap.size:=fun b o' hb=>ZE hb
 have hmn:m w.heap.size=none:=by
  cases hm:m w.heap.size with
  | none=>rfl
  | some o'=>have:=hfresh _ _ (hr.rel.im _ _ hm);omega
 have hFn:C.F w.heap.size=none:=by
  cases hm:C.F w.heap.size with
  | none=>rfl
  | some o'=>have:=hfresh _ _ (hr.rel.fr _ _ hm);omega
 have hm1:∀ b o',m b=some o'→(fun b=>if b=w.heap.size then some (.cells (Lib.bytesCells w e ⟨⟨s⟩⟩) e ((Lib.bytesCells w e ⟨⟨s⟩⟩).size,(Lib.bytesCells w e ⟨⟨s⟩⟩).size+1)) else m b) b=some o':=fun b o' hb=>by
  have:b≠w.heap.size:=fun e=>by subst e;rw [hmn] at hb;cases hb
  simp only [if_neg this];exact hb
 have hx':Ext E m (vers h) E (fun b=>if b=w.heap.size then some (.cells (Lib.bytesCells w e ⟨⟨s⟩⟩) e ((Lib.bytesCells w e ⟨⟨s⟩⟩).size,(Lib.bytesCells w e ⟨⟨s⟩⟩).size+1)) else m b) (vers h):=⟨hm1,fun _ _ h=>h,fun _ _ _=>rfl⟩
 have hold:∀ b o',w.heap[b]?=some o'→(Lib.bytesWorld w e ⟨⟨s⟩⟩).heap[b]?=some o':=fun b o' hb=>by rw [Lib.bytesWorld_at_old _ _ _ _ (hfresh _ _ hb)];exact hb
 have hos:(Lib.bytesWorld w e ⟨⟨s⟩⟩).os=w.os∧(Lib.bytesWorld w e ⟨⟨s⟩⟩).tape=w.tape∧(Lib.bytesWorld w e ⟨⟨s⟩⟩).output=w.output∧w.drawn≤(Lib.bytesWorld w e ⟨⟨s⟩⟩).drawn:=by
  simp [Lib.bytesWorld,World.freeze,World.alloc,World.drew,-World.alloc_eq,-World.drew_eq]
 have hrel:Rel E C (fun b=>if b=w.heap.size then some (.cells (Lib.bytesCells w e ⟨⟨s⟩⟩) e ((Lib.bytesCells w e ⟨⟨s⟩⟩).size,(Lib.bytesCells w e ⟨⟨s⟩⟩).size+1)) else m b) h (Lib.bytesWorld w e ⟨⟨s⟩⟩):=by
  refine ⟨hos.1.trans hr.rel.os,hos.2.1.trans hr.rel.tape,⟨hos.2.2.1.trans hr.rel.output.1,hr.rel.output.2.trans hos.2.2.2⟩,fun b o' hb=>?_,fun b o' hb=>hold b o' (hr.rel.fr b o' hb),⟨fun b o' hb=>?_,hr.rel.mf.2.mono hm1⟩,fun k B hB=>?_,hr.rel.nn,fun k b hb=>?_,hr.rel.inj⟩
  ·by_cases hbs:b=w.heap.size
   ·subst hbs;simp only [if_true] at hb;cases hb;exact Lib.bytesWorld_at_new w e ⟨⟨s⟩⟩
   ·simp only [if_neg hbs] at hb;exact hold b o' (hr.rel.im b o' hb)
  ·have:b≠w.heap.size:=fun e=>by subst e;rw [hFn] at hb;cases hb
   simp only [if_neg this];exact hr.rel.mf.1 b o' hb
  ·refine (hr.rel.bl k B hB).mono hx' (fun _ _=>rfl) fun b hb=>?_
   obtain ⟨o',ho'⟩:=(hr.rel.bl k B hB).block hB b ⟨B,hB,hb⟩
   rw [hold b o' ho',ho']
  ·have:=hr.rel.sp k b hb
   obtain ⟨B,hB,hb'⟩:=id hb
   obtain ⟨o',ho'⟩:=(hr.rel.bl k B hB).block hB b hb
   have hne:b≠w.heap.size:=fun e=>by have:=hfresh _ _ ho';omega
   simp only [if_neg hne];exact this
 have hcap:s.length≤grownCap w (⟨⟨s⟩⟩:ByteArray).size 0 e:=by
  have:=grownCap_ge w (⟨⟨s⟩⟩:ByteArray).size 0 e
  exact this
 have hk:=hK ⟨w.heap.size,0,none⟩ (grownCap w (⟨⟨s⟩⟩:ByteArray).size 0 e)
 rw [Z13] at hk
 refine ⟨E,_,_,hk,hx',?_⟩
 refine (hr.up hx' hrel).putG (o:=o) (p:=[]) .nil (x:=.imm UInt8 0 1 byE s (some ⟨w.heap.size,0,none⟩) (grownCap w (⟨⟨s⟩⟩:ByteArray).size 0 e)) (v:=.slice (some ⟨w.heap.size,0,none⟩) s.length (grownCap w (⟨⟨s⟩⟩:ByteArray).size 0 e)) (fun _=>.inr ⟨⟨?_,rfl⟩,by simp [den,wrapV,cells]⟩) (fun h=>by cases h)
 simp only [Ok]
 refine ⟨hcap,fun hne=>⟨_,Lib.bytesCells w e ⟨⟨s⟩⟩,e,_,rfl,rfl,if_pos rfl,fun j hj u c hu=>?_⟩,fun _=>rfl,fun j hj=>by simp [byE,OkL,Ok,isUnit]⟩
 have hu0:u=0:=by
  cases u with
  | zero=>rfl
  | succ u=>simp [byE,cellsL,cells] at hu
 subst hu0
 have hc:c=.int .u8 ((s.getD j 0).toNat:Int):=by simpa [byE,cellsL,cells] using hu.symm
 subst hc
 simp only [Nat.zero_add,Nat.mul_one,Nat.add_zero]
 unfold Lib.bytesCells
 rw [Array.getElem?_append_left (by simpa using hj)]
 simp [List.getD_eq_getElem?_getD,List.getElem?_eq_getElem hj,hj]
end
end
theorem Z1E {t:List SV} {h:List SB} {i:Nat} {ty':TypeId} {pre post:List SV} (hi:h[i]?=some (.mem ty' (pre++.nils::post) 1 0)) (g:Nat) (ty:TypeId) (segs:List SV) (hs:∀ E,cellsL E segs=[]) (hok:∀ m V,OkL m V segs)
 {h':List SB} (hh:h'=(h++[SB.mem ty segs 0 (g+1)]).set i (SB.mem ty' (pre++SV.sl h.length 0 0 0 none 0::post) 1 0)):Shift ⟨t,h⟩ ⟨t,h'⟩:=by
 subst hh
 intro C E m a w hr
 obtain ⟨E',e1,e2,e3⟩:=hr.rel.row0 g ty segs hs hok
 have hil:i < h.length:=(List.getElem?_eq_some_iff.1 hi).1
 have hi2:(h++[SB.mem ty segs 0 (g+1)])[i]?=some (.mem ty' (pre++.nils::post) 1 0):=by rw [List.getElem?_append_left hil];exact hi
 obtain ⟨_,b,c,k1,k2,k3⟩:=e3.bl i _ hi2
 have hlim:(SB.mem ty' (pre++SV.sl h.length 0 0 0 none 0::post) 1 0).lim=(SB.mem ty' (pre++.nils::post) 1 0).lim:=rfl
 have hv:=ZP (B':=SB.mem ty' (pre++SV.sl h.length 0 0 0 none 0::post) 1 0) hi2 hlim
 have hce:cellsL E' (pre++SV.sl h.length 0 0 0 none 0::post)=cellsL E' (pre++.nils::post):=by
  simp only [Zr,cellsL]
  congr 2
  simp [cells,e1]
 have hok2:OkL m (vers (h++[SB.mem ty segs 0 (g+1)])) (pre++SV.sl h.length 0 0 0 none 0::post):=by
  rw [OkL_append] at k3 ⊢
  refine ⟨k3.1,?_⟩
  simp only [OkL] at k3 ⊢
  refine ⟨⟨rfl,?_⟩,k3.2.2⟩
  simp only [Ok]
  exact ⟨Vle_iff.2 ⟨SB.mem ty segs 0 (g+1),by simp,by simp [SB.lim]⟩,fun _=>trivial⟩
 have hrel:Rel E' C m ((h++[SB.mem ty segs 0 (g+1)]).set i (SB.mem ty' (pre++SV.sl h.length 0 0 0 none 0::post) 1 0)) w:=by
  refine e3.set hi2 hlim (b:=b) ⟨by decide,c,k1⟩ (fun c' hc'=>?_) ⟨rfl,rfl,rfl,Nat.le_refl _⟩ (fun _ _=>rfl) ⟨rfl,b,c,k1,?_,hok2⟩
  ·obtain ⟨_,c2,hc2⟩:=hc'
   rw [k1] at hc2;cases hc2;rfl
  ·rw [hce];exact k2
 have hx:Ext E m (vers h) E' m (vers ((h++[SB.mem ty segs 0 (g+1)]).set i (SB.mem ty' (pre++SV.sl h.length 0 0 0 none 0::post) 1 0))):=by rw [hv];exact e2
 refine ⟨E',m,hx,?_,?_,hr.df,hrel⟩
 ·exact hr.sz
 ·intro n x v hxn hvn
  exact (hr.sl n x v hxn hvn).mono hx
def letB (n:Int):Bool:=(decide (97≤n)&&decide (n≤122))||(decide (65≤n)&&decide (n≤90))
def digB (n:Int):Bool:=decide (48≤n)&&decide (n≤57)
def numB (n:Int):Bool:=letB n||digB n
def namB (n:Int):Bool:=((letB n||digB n)||decide (n=95))||decide (n=46)
def cd (s:List UInt8) (k:Nat):Int:=((s.getD k 0).toNat:Int)
def rowF (p:Int→Bool):List UInt8→Nat
 | []=>0
 | c::r=>if p (c.toNat:Int) then rowF p r+1 else 0
theorem Z9A (p:Int→Bool):∀ s:List UInt8,rowF p s≤s.length
 | []=>Nat.le_refl _
 | c::r=>by
   have:=Z9A p r
   simp only [rowF,List.length_cons]
   split <;> omega
theorem ZcY (p:Int→Bool):∀ (k:Nat) (s:List UInt8),k≤s.length→(∀ j,j < k→p (cd s j)=true)→(k=s.length∨p (cd s k)=false)→rowF p s=k
 | 0,[],_,_,_=>rfl
 | 0,c::r,_,_,h=>by
   rcases h with h | h
   ·simp at h
   ·have h:p (c.toNat:Int)=false:=h
    simp only [rowF,h];rfl
 | k+1,[],h,_,_=>by simp at h
 | k+1,c::r,h1,h2,h3=>by
   have h0:p (c.toNat:Int)=true:=h2 0 (by omega)
   simp only [rowF,h0,if_true]
   congr 1
   refine ZcY p k r (by simpa using h1) (fun j hj=>h2 (j+1) (by omega)) ?_
   rcases h3 with h3 | h3
   ·left;simpa using h3
   ·right;exact h3
theorem ZbW (p:Int→Bool):∀ (s:List UInt8),∀ c ∈ s.take (rowF p s),p (c.toNat:Int)=true
 | [],c,h=>by simp at h
 | x::r,c,h=>by
   simp only [rowF] at h
   split at h
   ·rename_i hx
    rw [List.take_succ_cons] at h
    rcases List.mem_cons.1 h with rfl | h
    ·exact hx
    ·exact ZbW p r c h
   ·simp at h
theorem ZbX {p:Int→Bool} {s:List UInt8} (h:s≠[]) (h0:p (cd s 0)=true):0 < rowF p s:=by
 match s,h with
 | c::r,_=>
   have h0:p (c.toNat:Int)=true:=h0
   simp only [rowF,h0,if_true];omega
def pre (s p:List UInt8):Bool:=decide ((p.length:Int)≤s.length)&&decide ((s.take p.length).drop 0=p)
structure Tk where
 k:Int
 s:List UInt8
 n:Int
 a:Int
 deriving DecidableEq
def tk0:Tk:=⟨0,[],0,0⟩
def Z53 (t:Tk):List SV:=[.i .i64 t.k,.s t.s,.i .i64 t.n,.i .i64 t.a]
def digV (c:Nat):Nat:=if 48≤c∧c≤57 then c - 48 else if 97≤c∧c≤122 then c - 87 else if 65≤c∧c≤90 then c - 55 else 99
def valB (b:Nat):List UInt8→Nat→Option Nat
 | [],n=>some n
 | c::r,n=>if digV c.toNat < b then valB b r (n * b+digV c.toNat) else none
def hexB (w:List UInt8):Bool:=pre w [48,120]
def Z1c (w:List UInt8):List UInt8:=if hexB w then w.drop 2 else w
def Z2M (w:List UInt8):Nat:=if hexB w then 16 else 10
def Z2j (w:List UInt8):Nat:=if hexB w then 16 else 19
def numF (w:List UInt8):Option Nat:=
 if Z2j w < (Z1c w).length then none else if Z1c w=[] then none else
  match valB (Z2M w) (Z1c w) 0 with
  | none=>none
  | some n=>if n≤9223372036854775808 then some n else none
def Z2X:List UInt8:=[123,125,40,41,91,93,59,124,44,58,61,43,45,35,36,126,42,47,92,38,63,94]
inductive Sp where
 | skip (n:Nat)
 | tok (t:Tk)
 | err (e:Int)
def Z1C (s:List UInt8) (at':Nat):Sp:=
 if decide (cd s 0=32)||decide (cd s 0=9)||decide (cd s 0=10) then .skip 1
 else if pre s [40,42] then (if Lib.index (s.drop 2) [42,41] < 0 then .err 24 else .skip ((Lib.index (s.drop 2) [42,41]).toNat+4))
 else if digB (cd s 0) then (match numF (s.take (rowF numB s)) with
  | none=>.err 23
  | some n=>.tok ⟨2,s.take (rowF numB s),IntKind.i64.wrap n,at'⟩)
 else if letB (cd s 0)||decide (cd s 0=95) then .tok ⟨1,s.take (rowF namB s),0,at'⟩
 else if pre s [47,92]||pre s [92,47] then .tok ⟨3,s.take 2,0,at'⟩
 else if s.getD 0 0 ∈ Z2X then .tok ⟨3,s.take 1,0,at'⟩
 else .err 20
def tokC (s:List UInt8):Nat→Nat→List Tk→List Tk×Int×Int
 | 0,_,out=>(out,0,0)
 | f+1,at',out=>if s.length≤at' then (out,0,0) else
   match Z1C (s.drop at') at' with
   | .skip n=>tokC s f (at'+n) out
   | .tok t=>tokC s f (at'+t.s.length) (out++[t])
   | .err e=>([],e,at')
def tokF (s:List UInt8):List Tk×Int×Int:=if 8192 < s.length then ([],2,0) else tokC s (s.length+1) 0 []
theorem ZgA {s:List UInt8} {f at':Nat} {out:List Tk} (h:s.length≤at'):tokC s f at' out=(out,0,0):=by
 cases f with
 | zero=>rfl
 | succ f=>simp only [tokC,if_pos h]
theorem Zfc {s:List UInt8} {f at':Nat} {out:List Tk} (h:at' < s.length) (hf:s.length < at'+f) :
 ∃ f',f=f'+1∧tokC s f at' out=(match Z1C (s.drop at') at' with
 | .skip n=>tokC s f' (at'+n) out
 | .tok t=>tokC s f' (at'+t.s.length) (out++[t])
 | .err e=>([],e,at')):=by
 cases f with
 | zero=>omega
 | succ f=>exact ⟨f,rfl,by simp only [tokC,if_neg (Nat.not_le.2 h)]⟩
theorem w64 {x:Int} (h1 : -9223372036854775808≤x) (h2:x≤9223372036854775807):IntKind.i64.wrap x=x:=IntWalk.i64_in x ⟨h1,h2⟩
theorem b_cg {x y:Bool} (h:x=y):SV.b x=SV.b y:=congrArg SV.b h
theorem i_cg {x y:Int} (h:x=y):SV.i .i64 x=SV.i .i64 y:=congrArg (SV.i .i64) h
theorem s_cg {x y:List UInt8} (h:x=y):SV.s x=SV.s y:=congrArg SV.s h
theorem Z7X (n:Int):CtrV Tryz.prog 121 [.i .u8 n] (.b (digB n)):=by
 refine Z8 Z5 (fn:=Tryz.f121) Z Z Z Z Z Z ?_
 exact rfl
theorem Z6P (n:Int):CtrV Tryz.prog 124 [.i .u8 n] (.b (letB n)):=by
 refine Z8 Z5 (fn:=Tryz.f124) Z Z Z Z Z Z ?_
 exact rfl
theorem ZgB (n:Int):CtrV Tryz.prog 123 [.i .u8 n] (.b (numB n)):=by
 refine Z8 Z5 (fn:=Tryz.f123) Z Z Z Z Z Z ?_
 refine Z4 Z Z Z Z Z Z Z (fun _=>Z6P n) ?_
 refine Z4 Z Z Z Z Z Z Z (fun _=>Z7X n) ?_
 exact rfl
theorem ZgC (n:Int):CtrV Tryz.prog 126 [.i .u8 n] (.b (namB n)):=by
 refine Z8 Z5 (fn:=Tryz.f126) Z Z Z Z Z Z ?_
 refine Z4 Z Z Z Z Z Z Z (fun _=>Z6P n) ?_
 refine Z4 Z Z Z Z Z Z Z (fun _=>Z7X n) ?_
 exact rfl
theorem Zfd (f:Nat) (p:Int→Bool) (hf:∀ n,CtrV Tryz.prog f [.i .u8 n] (.b (p n))) (s:List UInt8) (hs:s.length≤100000):CtrV Tryz.prog 122 [.s s,.fn f []] (.i .i64 (rowF p s)):=by
 refine Z8 Z5 (fn:=Tryz.f122) Z Z Z Z Z Z ?_
 refine WpC.loop Z5 (β:=Nat) (fun k=>k≤s.length∧∀ j,j < k→p (cd s j)=true) (fun k=>[(5,.i .i64 k)]) (fun _=>[]) (fun k=>s.length - k) 0 524256 ⟨Nat.zero_le _,fun j hj=>by omega⟩ ?_ ?_
 ·exact ⟨rfl,⟨⟨rfl,rfl,rfl⟩,trivial⟩,⟨[],rfl⟩,trivial,rfl⟩
 ·rintro k ⟨hk,ho⟩
  refine ⟨fun hg=>?_,?_⟩
  ·have hg:(decide ((k:Int) < s.length) == true)=true:=hg
   have hg:k < s.length:=by simpa using hg
   exact ⟨by omega,by omega⟩
  refine Z4 Z Z Z Z Z Z Z (fun _=>hf (cd s k)) ?_
  refine ⟨fun h2=>?_,fun h2=>?_⟩
  ·have h2:(decide ((k:Int) < s.length)&&p (cd s k))=true:=h2
   simp only [Bool.and_eq_true,decide_eq_true_eq] at h2
   refine ⟨k+1,⟨by omega,fun j hj=>?_⟩,by omega,rfl,⟨⟨?_,rfl,rfl⟩,trivial⟩,⟨[],rfl⟩,trivial,rfl⟩
   ·rcases Nat.lt_succ_iff_lt_or_eq.1 hj with hj | rfl
    ·exact ho j hj
    ·exact h2.2
   ·show SV.i .i64 (IntKind.i64.wrap ((k:Int)+1))=SV.i .i64 ((k+1:Nat):Int)
    rw [w64 (by omega) (by omega)];rfl
  ·have h2:(decide ((k:Int) < s.length)&&p (cd s k))=false:=h2
   refine i_cg ?_
   rw [ZcY p k s hk ho]
   by_cases h3:k=s.length
   ·exact .inl h3
   ·have h4:decide ((k:Int) < s.length)=true:=by simp;omega
    rw [h4] at h2
    exact .inr h2
theorem Zfe (s p:List UInt8):CtrV Tryz.prog 141 [.s s,.s p] (.b (pre s p)):=by
 refine Z8 Z5 (fn:=Tryz.f141) Z Z Z Z Z Z ?_
 refine ⟨fun hg=>?_,rfl⟩
 have hg:(decide ((p.length:Int)≤s.length) == true)=true:=hg
 have hg:p.length≤s.length:=by simpa using hg
 exact ⟨by omega,by omega⟩
theorem Z4N (s p:List UInt8):CtrV Tryz.prog 119 [.s s,.s p] (.b (pre s p)):=by
 refine Z8 Z5 (fn:=Tryz.f119) Z Z Z Z Z Z ?_
 refine Z4 Z Z Z Z Z Z Z (fun _=>Zfe s p) ?_
 exact rfl
theorem Z9B {s p:List UInt8} (h:pre s p=true):p.length≤s.length:=by
 unfold pre at h;simp only [Bool.and_eq_true,decide_eq_true_eq] at h;omega
def cutP (s p:List UInt8):List UInt8:=if pre s p then (s.take s.length).drop p.length else s
theorem Zff (s p:List UInt8):CtrV Tryz.prog 168 [.s s,.s p] (.tup [.s (cutP s p),.b (pre s p)]):=by
 refine Z8 Z5 (fn:=Tryz.f168) Z Z Z Z Z Z ?_
 refine Z4 Z Z Z Z Z Z Z (fun _=>Zfe s p) ?_
 refine ⟨fun h=>?_,fun h=>?_⟩
 ·have h:(!pre s p)=true:=h
  have h:pre s p=false:=by simpa using h
  show _=SV.tup [.s (cutP s p),.b (pre s p)]
  unfold cutP
  rw [h];rfl
 ·have h:(!pre s p)=false:=h
  have h:pre s p=true:=by simpa using h
  refine ⟨fun _=>?_,?_⟩
  ·have:=Z9B h
   exact ⟨by omega,by omega⟩
  ·show _=SV.tup [.s (cutP s p),.b (pre s p)]
   unfold cutP
   rw [h];rfl
theorem ZbY (s p:List UInt8):CtrV Tryz.prog 143 [.s s,.s p] (.tup [.s (cutP s p),.b (pre s p)]):=by
 refine Z8 Z5 (fn:=Tryz.f143) Z Z Z Z Z Z ?_
 refine Z4 Z Z Z Z Z Z Z (fun _=>Zff s p) ?_
 exact rfl
structure In where
 op:Int
 dst:Int
 a:Int
 b:Int
 imm:Int
 loc:Int
 off:Int
 ix:Int
 sz:Int
 fn:Int
 acq:Bool
 wk:Bool
 rel:Bool
 pr:Int
 su:Int
 to:Int
 ze:Bool
 deriving DecidableEq
def ienc (i:In):List SV:=[.i .i64 i.op,.i .i64 i.dst,.i .i64 i.a,.i .i64 i.b,.i .i64 i.imm,.i .i64 i.loc,.i .i64 i.off,.i .i64 i.ix,.i .i64 i.sz,.i .i64 i.fn,.b i.acq,.b i.wk,.b i.rel,.i .i64 i.pr,.i .i64 i.su,.i .i64 i.to,.b i.ze]
def rgB (r:Int):Bool:=decide (0≤r)&&decide (r < 8)
def szB (n:Int):Bool:=((decide (n=1)||decide (n=2))||decide (n=4))||decide (n=8)
def mskX (off n:Int):Bool:=((!szB n||decide (off < 0))||decide (IntKind.i64.wrap (8 - n) < off))||!decide (off.tmod n=0)
def mskV (off n:Int):Int:=(2 ^ n.toNat - 1) * 2 ^ off.toNat
def mskF (off n:Int):Int:=if mskX off n then 0 else mskV off n
theorem ZQ (n:Int):CtrV Tryz.prog 147 [.i .i64 n] (.b (rgB n)):=by
 refine Z8 Z5 (fn:=Tryz.f147) Z Z Z Z Z Z ?_
 exact rfl
theorem ZbZ (n:Int):CtrV Tryz.prog 111 [.i .i64 n] (.b (szB n)):=by
 refine Z8 Z5 (fn:=Tryz.f111) Z Z Z Z Z Z ?_
 exact rfl
theorem Zc0 (n:Int):CtrV Tryz.prog 137 [.i .i64 n] (.b (szB n)):=by
 refine Z8 Z5 (fn:=Tryz.f137) Z Z Z Z Z Z ?_
 exact rfl
def fnB (n:Int):Bool:=decide (1≤n)&&decide (n≤3)
theorem Z3b {off n:Int} (h:mskX off n=false):(n=1∧(off=0∨off=1∨off=2∨off=3∨off=4∨off=5∨off=6∨off=7))∨(n=2∧(off=0∨off=2∨off=4∨off=6))∨(n=4∧(off=0∨off=4))∨(n=8∧off=0):=by
 unfold mskX szB at h
 simp only [Bool.or_eq_false_iff,Bool.not_eq_false',Bool.or_eq_true,decide_eq_true_eq,decide_eq_false_iff_not,Int.not_lt] at h
 obtain ⟨⟨⟨h1,h2⟩,h3⟩,h4⟩:=h
 rcases h1 with ((rfl | rfl) | rfl) | rfl
 ·have h3:off≤7:=h3
  left;exact ⟨rfl,by omega⟩
 ·have h3:off≤6:=h3
  right;left
  refine ⟨rfl,?_⟩
  rcases (by omega:off=0∨off=1∨off=2∨off=3∨off=4∨off=5∨off=6) with rfl | rfl | rfl | rfl | rfl | rfl | rfl <;> first | (simp;done) | exact absurd h4 (by decide)
 ·have h3:off≤4:=h3
  right;right;left
  refine ⟨rfl,?_⟩
  rcases (by omega:off=0∨off=1∨off=2∨off=3∨off=4) with rfl | rfl | rfl | rfl | rfl <;> first | (simp;done) | exact absurd h4 (by decide)
 ·have h3:off≤0:=h3
  right;right;right
  exact ⟨rfl,by omega⟩
theorem ZcZ {f:Nat} {args:List SV} {r:SV} (h:(Memo.mk f args [] r []).runs (runM treeF ftree [] 40)=true):CtrV Tryz.prog f args r:=
 Z3a (tr:=treeF) (ft:=ftree) (ms:=[]) (n:=40) (m:=Memo.mk f args [] r []) Z5 ftOk mixed (by intro m hm;cases hm) h
theorem Zfg {off n:Int} (h:mskX off n=true) {x y z:Bool} (hx:((!szB n||decide (off < 0))||decide (IntKind.i64.wrap (8 - n) < off))=false):n≠0:=by
 intro e
 subst e
 simp [szB] at hx
theorem Zd0 {off n:Int} (h:mskX off n=true):CtrV Tryz.prog 61 [.i .i64 off,.i .i64 n] (.i .i64 0):=by
 refine Z8 Z5 (fn:=Tryz.f61) Z Z Z Z Z Z ?_
 refine Z4 Z Z Z Z Z Z Z (fun _=>ZbZ n) ?_
 refine ⟨fun hg=>?_,⟨fun _=>rfl,fun h2=>?_⟩⟩
 ·have hg:((((!szB n||decide (off < 0))||decide (IntKind.i64.wrap (8 - n) < off)) == false))=true:=hg
  exact Zfg (x:=true) (y:=true) (z:=true) h (by simpa using hg)
 ·have h2:mskX off n=false:=h2
  rw [h] at h2;cases h2
theorem Zc1 {off n:Int} (h:mskX off n=true):CtrV Tryz.prog 108 [.i .i64 off,.i .i64 n] (.i .i64 0):=by
 refine Z8 Z5 (fn:=Tryz.f108) Z Z Z Z Z Z ?_
 refine Z4 Z Z Z Z Z Z Z (fun _=>Zc0 n) ?_
 refine ⟨fun hg=>?_,⟨fun _=>rfl,fun h2=>?_⟩⟩
 ·have hg:((((!szB n||decide (off < 0))||decide (IntKind.i64.wrap (8 - n) < off)) == false))=true:=hg
  exact Zfg (x:=true) (y:=true) (z:=true) h (by simpa using hg)
 ·have h2:mskX off n=false:=h2
  rw [h] at h2;cases h2
theorem Z1d (off n:Int):CtrV Tryz.prog 61 [.i .i64 off,.i .i64 n] (.i .i64 (mskF off n)):=by
 unfold mskF
 cases h:mskX off n with
 | true=>exact Zd0 h
 | false=>
   rcases Z3b h with ⟨rfl,rfl | rfl | rfl | rfl | rfl | rfl | rfl | rfl⟩ | ⟨rfl,rfl | rfl | rfl | rfl⟩ | ⟨rfl,rfl | rfl⟩ | ⟨rfl,rfl⟩
   all_goals exact ZcZ (by decide +kernel)
theorem Zc2 (off n:Int):CtrV Tryz.prog 108 [.i .i64 off,.i .i64 n] (.i .i64 (mskF off n)):=by
 unfold mskF
 cases h:mskX off n with
 | true=>exact Zc1 h
 | false=>
   rcases Z3b h with ⟨rfl,rfl | rfl | rfl | rfl | rfl | rfl | rfl | rfl⟩ | ⟨rfl,rfl | rfl | rfl | rfl⟩ | ⟨rfl,rfl | rfl⟩ | ⟨rfl,rfl⟩
   all_goals exact ZcZ (by decide +kernel)
theorem Zfh (off n:Int):(!decide (mskF off n=0))=!mskX off n:=by
 unfold mskF
 cases h:mskX off n with
 | true=>rfl
 | false=>
   rcases Z3b h with ⟨rfl,rfl | rfl | rfl | rfl | rfl | rfl | rfl | rfl⟩ | ⟨rfl,rfl | rfl | rfl | rfl⟩ | ⟨rfl,rfl | rfl⟩ | ⟨rfl,rfl⟩ <;> rfl
def ixB (x:Int):Bool:=decide (x = -1)||rgB x
def accB (i:In):Bool:=((decide (0≤i.loc)&&decide (i.loc < 3))&&!mskX i.off i.sz)&&ixB i.ix
theorem Z54 (i:In):CtrV Tryz.prog 148 [.agg (ienc i)] (.b (accB i)):=by
 refine Z8 Z5 (fn:=Tryz.f148) Z Z Z Z Z Z ?_
 refine Z4 Z Z Z Z Z Z Z (fun _=>Z1d i.off i.sz) ?_
 refine Z4 Z Z Z Z Z Z Z (fun _=>ZQ i.ix) ?_
 refine b_cg ?_
 show (((decide (0≤i.loc)&&decide (i.loc < 3))&&!decide (mskF i.off i.sz=0))&&(decide (i.ix = -1)||rgB i.ix))=accB i
 rw [Zfh];rfl
theorem ZT (i:In):CtrV Tryz.prog 19 [.agg (ienc i)] (.b (decide (i.op=4)||decide (i.op=6))):=by
 refine Z8 Z5 (fn:=Tryz.f19) Z Z Z Z Z Z ?_
 exact rfl
theorem ZN (i:In):CtrV Tryz.prog 60 [.agg (ienc i)] (.b (decide (i.op=5)||decide (i.op=6))):=by
 refine Z8 Z5 (fn:=Tryz.f60) Z Z Z Z Z Z ?_
 exact rfl
def in64 (x:Int):Prop:=-9223372036854775808≤x∧x≤9223372036854775807
theorem Z7Y {n:Int} (h:in64 n):(Lib.itoa n).length≤21:=Lib.itoa_length_le n h.1 h.2
end SX
end Go.Proofs.YtdddpbmcoimgdaaGreatDoor
set_option maxRecDepth 100000
namespace Go.Proofs.YtdddpbmcoimgdaaGreatDoor
open Go Go.ChangeShapes Go.WideShapes Go.ChangeAt Go.RowKit
theorem own:ownKnob Tryz.prog.godebug=none:=by kernel_rfl
theorem ZhB:∀ t,t < Tryz.prog.types.size→SX.CompsOk Tryz.prog (· < Tryz.prog.types.size) t:=SX.compsOk_of (by kernel_rfl)
namespace SX
theorem wf64 {n:Int} (h:(Lit.int .i64 n).wf=true):in64 n:=by
 have h:(decide (IntKind.i64.min≤n)&&decide (n≤IntKind.i64.max))=true:=h
 simp only [Bool.and_eq_true,decide_eq_true_eq] at h
 exact h
theorem Z2N {ls:List LK} {row:List Value} (h:LKs (.i .i64::ls) row):∃ n r,row=.int .i64 n::r∧in64 n∧LKs ls r:=by
 cases row with
 | nil=>exact h.elim
 | cons v r=>obtain ⟨⟨n,rfl,w⟩,h2⟩:=h;exact ⟨n,r,rfl,wf64 w,h2⟩
theorem ZaS {ls:List LK} {row:List Value} (h:LKs (.b::ls) row):∃ n r,row=.bool n::r∧LKs ls r:=by
 cases row with
 | nil=>exact h.elim
 | cons v r=>obtain ⟨⟨n,rfl⟩,h2⟩:=h;exact ⟨n,r,rfl,h2⟩
theorem ZhC {row:List Value} (h:LKs [] row):row=[]:=by
 cases row with
 | nil=>rfl
 | cons v r=>exact h.elim
structure InW (i:In):Prop where
 op:in64 i.op
 dst:in64 i.dst
 a:in64 i.a
 b:in64 i.b
 imm:in64 i.imm
 loc:in64 i.loc
 off:in64 i.off
 ix:in64 i.ix
 sz:in64 i.sz
 fn:in64 i.fn
 pr:in64 i.pr
 su:in64 i.su
 to:in64 i.to
def insLs:List LK:=[.i .i64,.i .i64,.i .i64,.i .i64,.i .i64,.i .i64,.i .i64,.i .i64,.i .i64,.i .i64,.b,.b,.b,.i .i64,.i .i64,.i .i64,.b]
theorem in_dec (row:List Value) (h:LKs insLs row):∃ i:In,row=cellsL E0 (ienc i)∧InW i:=by
 unfold insLs at h
 obtain ⟨x0,row0,rfl,w0,h0⟩:=Z2N h
 obtain ⟨x1,row1,rfl,w1,h1⟩:=Z2N h0
 obtain ⟨x2,row2,rfl,w2,h2⟩:=Z2N h1
 obtain ⟨x3,row3,rfl,w3,h3⟩:=Z2N h2
 obtain ⟨x4,row4,rfl,w4,h4⟩:=Z2N h3
 obtain ⟨x5,row5,rfl,w5,h5⟩:=Z2N h4
 obtain ⟨x6,row6,rfl,w6,h6⟩:=Z2N h5
 obtain ⟨x7,row7,rfl,w7,h7⟩:=Z2N h6
 obtain ⟨x8,row8,rfl,w8,h8⟩:=Z2N h7
 obtain ⟨x9,row9,rfl,w9,h9⟩:=Z2N h8
 obtain ⟨x10,row10,rfl,h10⟩:=ZaS h9
 obtain ⟨x11,row11,rfl,h11⟩:=ZaS h10
 obtain ⟨x12,row12,rfl,h12⟩:=ZaS h11
 obtain ⟨x13,row13,rfl,w13,h13⟩:=Z2N h12
 obtain ⟨x14,row14,rfl,w14,h14⟩:=Z2N h13
 obtain ⟨x15,row15,rfl,w15,h15⟩:=Z2N h14
 obtain ⟨x16,row16,rfl,h16⟩:=ZaS h15
 obtain rfl:=ZhC h16
 exact ⟨⟨x0,x1,x2,x3,x4,x5,x6,x7,x8,x9,x10,x11,x12,x13,x14,x15,x16⟩,rfl,⟨w0,w1,w2,w3,w4,w5,w6,w7,w8,w9,w13,w14,w15⟩⟩
end SX
theorem ZK {a b:Bool} (h1:a=true) (h2:b=true):(a&&b)=true:=by rw [h1,h2];rfl
theorem ZgD {P:Program} {f:FuncId} {fn:Func} {s:ChangeSpec} {c:OpenClaim} (h0:(c.wf (OpenSpec.ofChange s))=true) (h1:(laidOutB P)=true) (h2:(mapsRowed P)=true) (h3:(fn.params.all (P.readableRec ·))=true) (h4:(namedTie P c.named s.vars)=true) (h5:((c.stops == []))=true) (h6:((P.stops == []))=true) (h7:((c.knobs == []))=true) (h8:((P.stopKnobs == []))=true) (h9:((c.inPlace == P.inPlace f))=true) (h10:((c.unfollowed == P.unfollowed f))=true) (h11:((c.recurses == P.recurses f))=true) (h12:((c.named == P.varsNamed f))=true) (h13:((c.maps == (fn.params.toList++s.plain.varTypes P).any (P.mapsRec ·)))=true) (h14:((c.ifaces == (fn.params.toList++s.plain.varTypes P).any (P.ifacesRec ·)))=true) (h15:((c.mapsOut == P.mapsAmong fn.resultTypes.toList))=true) (h16:((c.loops == (fn.params.toList++s.plain.varTypes P).any (P.loopsFrom ·)))=true) (h17:((c.wideKeys == (fn.params.toList++s.plain.varTypes P++fn.resultTypes.toList).any (P.wideKeysFrom ·)))=true) (h18:(s.vars.all (P.varReadable ·))=true) (h19:(fn.resultTypes.all (fun t=>P.readableRec t&&decide (t < P.types.size)))=true) (h20:((c.ifacesOut == fn.resultTypes.toList.any (P.ifacesRec ·)))=true) (h21:((c.loopsOut == fn.resultTypes.toList.any (P.loopsFrom ·)))=true) (h22:((c.plainKeys == P.plainKeys))=true) (h23:(c.shortTexts.isNone)=true) (h24:(P.stopsHeard)=true) (h25:(P.mayEnter)=true) (h26:((c.lifted == P.liftsFinal))=true) (h27:((P.make == some c.make))=true) (h28:((c.kinds == (if c.domain.isEmpty then [] else fn.params.toList.map fun t=>match P.underlying t with | some (.int k)=>some k | _=>none)))=true) (h29:((c.pinned == c.pinnedBy))=true) (h30:((c.veiled == (fn.params.toList++s.plain.varTypes P++fn.resultTypes.toList).any (P.veiledRec ·)))=true) (h31:(c.veiledFits P fn.params.toList (fn.params.toList++s.plain.varTypes P++fn.resultTypes.toList))=true):joinedFacts P f fn s c=true:=by
 unfold joinedFacts
 exact (ZK (ZK (ZK (ZK (ZK (ZK (ZK (ZK (ZK (ZK (ZK (ZK (ZK (ZK (ZK (ZK (ZK (ZK (ZK (ZK (ZK (ZK (ZK (ZK (ZK (ZK (ZK (ZK (ZK (ZK (ZK h0 h1) h2) h3) h4) h5) h6) h7) h8) h9) h10) h11) h12) h13) h14) h15) h16) h17) h18) h19) h20) h21) h22) h23) h24) h25) h26) h27) h28) h29) h30) h31)
section
variable {H:Type} {enc:TypeId×Value→H} {W:World} {b0:Nat} {v:Value} {d:DataW H} {p:List MemPlace} {base:Nat} {spare:Nat→Bool} {held:Bool}
end
end Go.Proofs.YtdddpbmcoimgdaaGreatDoor
set_option maxRecDepth 100000
namespace Go.Proofs.YtdddpbmcoimgdaaGreatDoor
open Go Go.ChangeShapes Go.WideShapes Go.ChangeAt Go.RowKit
namespace SX
def inZ:In:=⟨0,0,0,0,0,0,0,0,0,0,false,false,false,0,0,0,false⟩
theorem ien_w (i:In):wdL (ienc i)=17:=by simp only [ienc,wdL,wd]
theorem ien_ok (i:In) (m:Mem):OkL m [] (ienc i):=by simp [ienc,OkL,Ok,isUnit]
structure IRow where
 xs:List In
 a:Option Addr
 cap:Nat
def ir0:IRow:=⟨[],none,0⟩
def irenc (r:IRow):List SV:=[.imm In inZ 17 ienc r.xs r.a r.cap]
theorem ir_w (r:IRow):wdL (irenc r)=1:=rfl
theorem Z4O:ZaO irenc:=ZeI _ _ _
structure Tst where
 arch:Int
 name:List UInt8
 init:List Int
 regs:List (List Int)
 code:List IRow
 ca:Option Addr
 cc:Nat
 qu:Int
 cond:List Cn
 da:Option Addr
 dc:Nat
def tz8:List Int:=[0,0,0,0,0,0,0,0]
def te8 (x:List Int):List SV:=[.ints .i64 8 x]
def tsenc (t:Tst):List SV:=[.i .i64 t.arch,.s t.name,.ints .i64 3 t.init,.arr 3 (List Int) tz8 8 te8 t.regs,.imm IRow ir0 1 irenc t.code t.ca t.cc,.i .i64 t.qu,.imm Cn cn0 5 cenc t.cond t.da t.dc]
def cdLs:List LK:=List.replicate 5 (.i .i64)
theorem cd_dec (row:List Value) (h:LKs cdLs row):∃ c:Cn,row=cellsL E0 (cenc c)∧in64 c.v:=by
 match row,h with
 | [a,b,c,d,e],h=>
   obtain ⟨⟨x1,rfl,_⟩,⟨x2,rfl,_⟩,⟨x3,rfl,_⟩,⟨x4,rfl,_⟩,⟨x5,rfl,w⟩,_⟩:=h
   exact ⟨⟨x1,x2,x3,x4,x5⟩,rfl,wf64 w⟩
 | [],h=>exact h.elim
 | [_],h=>exact h.2.elim
 | [_,_],h=>exact h.2.2.elim
 | [_,_,_],h=>exact h.2.2.2.elim
 | [_,_,_,_],h=>exact h.2.2.2.2.elim
 | _::_::_::_::_::_::_,h=>exact h.2.2.2.2.2.elim
theorem ints_of:∀ (n:Nat) (row:List Value),LKs (List.replicate n (.i .i64)) row→∃ xs:List Int,xs.length=n∧row=xs.map (.int .i64)∧∀ x ∈ xs,in64 x
 | 0,[],_=>⟨[],rfl,rfl,fun x hx=>by cases hx⟩
 | 0,_::_,h=>h.elim
 | n+1,[],h=>h.elim
 | n+1,v::cs,h=>by
   obtain ⟨⟨x,rfl,w⟩,h2⟩:=h
   obtain ⟨xs,e1,rfl,e2⟩:=ints_of n cs h2
   exact ⟨x::xs,by simp [e1],rfl,fun y hy=>by
    rcases List.mem_cons.1 hy with rfl | hy
    ·exact wf64 w
    ·exact e2 y hy⟩
structure TsW (t:Tst):Prop where
 arch:in64 t.arch
 nm:t.name.length≤maxLen
 init:t.init.length=3∧∀ x ∈ t.init,in64 x
 regs:t.regs.length=3∧∀ r ∈ t.regs,r.length=8∧∀ x ∈ r,in64 x
 code:t.code.length≤t.cc∧t.cc≤maxLen
 rows:∀ r ∈ t.code,r.xs.length≤r.cap∧r.cap≤maxLen∧∀ i ∈ r.xs,InW i
 qu:in64 t.qu
 cond:t.cond.length≤t.dc∧t.dc≤maxLen∧∀ c ∈ t.cond,in64 c.v
end SX
section
variable {H:Type} {enc:TypeId×Value→H} {W:World} {b0:Nat} {v:Value} {d:DataW H} {p:List MemPlace} {base:Nat} {spare:Nat→Bool} {held:Bool}
theorem Zfi {fuel:Nat} {c:List Value} {x:DataW H×List MemPlace} (h:DataW.trod enc Tryz.prog W base spare held fuel 38 c=some x) :
 ∃ r:SX.IRow,c=SX.cellsL SX.E0 (SX.irenc r)∧SX.OkL (SX.memQ W) [] (SX.irenc r)∧r.xs.length≤r.cap∧r.cap≤maxLen∧∀ i ∈ r.xs,SX.InW i:=by
 obtain ⟨xs,a,cap,rfl,h1,h2,h3⟩:=SX.open_immQ (t:=38) (e:=56) Tryz.underlying38 SX.inZ SX.ienc (n:=17) (by kernel_rfl) (by decide) SX.ien_w SX.InW (fun m row y hy hl=>by
  obtain ⟨i,e,w⟩:=SX.in_dec row (SX.trod_flat 40 56 SX.insLs (by kernel_rfl) (by kernel_rfl) m row y hy)
  exact ⟨i,e,SX.ien_ok i _,w⟩) h
 exact ⟨⟨xs,a,cap⟩,rfl,⟨⟨rfl,h1⟩,trivial⟩,(by have h1:=h1;simp only [SX.Ok] at h1;exact h1.1),h2,h3⟩
theorem ZdR {fuel:Nat} {c:List Value} {x:DataW H×List MemPlace} (h:DataW.trod enc Tryz.prog W base spare held fuel 25 c=some x) :
 ∃ (rs:List SX.IRow) (a:Option Addr) (cap:Nat),c=[.slice a rs.length cap]∧SX.Ok (SX.memQ W) [] (.imm SX.IRow SX.ir0 1 SX.irenc rs a cap)∧cap≤maxLen∧∀ r ∈ rs,r.xs.length≤r.cap∧r.cap≤maxLen∧∀ i ∈ r.xs,SX.InW i:=
 SX.open_immQ (t:=25) (e:=38) Tryz.underlying25 SX.ir0 SX.irenc (n:=1) (by kernel_rfl) (by decide) SX.ir_w _ (fun m row y hy _=>Zfi hy) h
theorem ZdS {fuel:Nat} {c:List Value} {x:DataW H×List MemPlace} (h:DataW.trod enc Tryz.prog W base spare held fuel 26 c=some x) :
 ∃ (xs:List SX.Cn) (a:Option Addr) (cap:Nat),c=[.slice a xs.length cap]∧SX.Ok (SX.memQ W) [] (.imm SX.Cn SX.cn0 5 SX.cenc xs a cap)∧cap≤maxLen∧∀ c ∈ xs,SX.in64 c.v:=
 SX.open_immQ (t:=26) (e:=79) Tryz.underlying26 SX.cn0 SX.cenc (n:=5) (by kernel_rfl) (by decide) (fun _=>rfl) _ (fun m row y hy _=>by
  obtain ⟨i,e,w⟩:=SX.cd_dec row (SX.trod_flat 40 79 SX.cdLs (by kernel_rfl) (by kernel_rfl) m row y hy)
  exact ⟨i,e,by simp [SX.cenc,SX.OkL,SX.Ok,SX.isUnit],w⟩) h
end
end Go.Proofs.YtdddpbmcoimgdaaGreatDoor
set_option maxRecDepth 100000
namespace Go.Proofs.YtdddpbmcoimgdaaGreatDoor
open Go Go.ChangeShapes Go.WideShapes Go.ChangeAt Go.RowKit
theorem Z2Y {α:Type} (L:List α) (a n b:Nat) (h:b=a+n):L.drop a=(L.drop a).take n++L.drop b:=by
 subst h
 rw [← List.drop_drop,List.take_append_drop]
theorem rows3 (xs:List Int) (h:xs.length=24):[xs.take 8,(xs.drop 8).take 8,(xs.drop 16).take 8].flatten=xs:=by
 have h1:=Z2Y xs 0 8 8 rfl
 have h2:=Z2Y xs 8 8 16 rfl
 have h3:=Z2Y xs 16 8 24 rfl
 rw [show xs.drop 24=[] from List.drop_of_length_le (by omega),List.append_nil] at h3
 rw [List.drop_zero] at h1
 simp only [List.flatten_cons,List.flatten_nil,List.append_nil]
 rw [← h3,← h2,← h1]
section
variable {H:Type} {enc:TypeId×Value→H} {W:World} {b0:Nat} {v:Value} {d:DataW H} {p:List MemPlace} {base:Nat} {spare:Nat→Bool} {held:Bool}
theorem Zfj (hv:Value.okWide Tryz.prog W .any b0 28 v) (h:DataW.Trod enc Tryz.prog W base spare held 28 v d p) :
 ∃ t:SX.Tst,v=SX.den (fun _ _=>none) (.agg (SX.tsenc t))∧SX.Ok (SX.memQ W) [] (.agg (SX.tsenc t))∧SX.TsW t:=by
 obtain ⟨cs,rfl,hsz⟩:=okWide_struct Tryz.underlying28 hv
 obtain ⟨fuel,hf⟩:=h
 obtain ⟨xs,n,_,_,hl,hlen,hg⟩:=DataW.trod_struct Tryz.underlying28 hf
 generalize hL:cs.toList=L at *
 have hcs:cs=L.toArray:=by rw [← hL]
 subst hcs
 have hl:L.length=32:=hl.trans (by kernel_rfl)
 have hx:∀ i,i < 7→∃ y,xs[i]?=some y:=fun i hi=>⟨_,List.getElem?_eq_getElem (by rw [hlen];exact hi)⟩
 obtain ⟨y0,q0⟩:=hx 0 (by decide)
 obtain ⟨y1,q1⟩:=hx 1 (by decide)
 obtain ⟨y2,q2⟩:=hx 2 (by decide)
 obtain ⟨y3,q3⟩:=hx 3 (by decide)
 obtain ⟨y4,q4⟩:=hx 4 (by decide)
 obtain ⟨y5,q5⟩:=hx 5 (by decide)
 obtain ⟨y6,q6⟩:=hx 6 (by decide)
 have g0:DataW.trod enc Tryz.prog W base spare held n 3 ((L.drop 0).take 1)=some y0:=(hg 0 _ rfl).trans q0
 have g1:DataW.trod enc Tryz.prog W base spare held n 9 ((L.drop 1).take 1)=some y1:=(hg 1 _ rfl).trans q1
 have g2:DataW.trod enc Tryz.prog W base spare held n 22 ((L.drop 2).take 3)=some y2:=(hg 2 _ rfl).trans q2
 have g3:DataW.trod enc Tryz.prog W base spare held n 24 ((L.drop 5).take 24)=some y3:=(hg 3 _ rfl).trans q3
 have g4:DataW.trod enc Tryz.prog W base spare held n 25 ((L.drop 29).take 1)=some y4:=(hg 4 _ rfl).trans q4
 have g5:DataW.trod enc Tryz.prog W base spare held n 3 ((L.drop 30).take 1)=some y5:=(hg 5 _ rfl).trans q5
 have g6:DataW.trod enc Tryz.prog W base spare held n 26 ((L.drop 31).take 1)=some y6:=(hg 6 _ rfl).trans q6
 obtain ⟨ar,e0,_,w0⟩:=DataW.trod_int Tryz.underlying3 g0
 obtain ⟨s,e1,_,w1⟩:=DataW.trod_string Tryz.underlying9 g1
 obtain ⟨ini,l2,e2,w2⟩:=SX.ints_of 3 _ (SX.trod_flat 40 22 (List.replicate 3 (.i .i64)) (by kernel_rfl) (by kernel_rfl) n _ y2 g2)
 obtain ⟨rg,l3,e3,w3⟩:=SX.ints_of 24 _ (SX.trod_flat 40 24 (List.replicate 24 (.i .i64)) (by kernel_rfl) (by kernel_rfl) n _ y3 g3)
 obtain ⟨code,ca,cc,e4,k4,b4,w4⟩:=ZdR g4
 obtain ⟨qu,e5,_,w5⟩:=DataW.trod_int Tryz.underlying3 g5
 obtain ⟨cond,da,dc,e6,k6,b6,w6⟩:=ZdS g6
 have f4:=k4
 have f6:=k6
 simp only [SX.Ok] at f4 f6
 have hcut:L=(L.drop 0).take 1++((L.drop 1).take 1++((L.drop 2).take 3++((L.drop 5).take 24++((L.drop 29).take 1++((L.drop 30).take 1++(L.drop 31).take 1))))):=by
  have c0:=Z2Y L 0 1 1 rfl
  have c1:=Z2Y L 1 1 2 rfl
  have c2:=Z2Y L 2 3 5 rfl
  have c3:=Z2Y L 5 24 29 rfl
  have c4:=Z2Y L 29 1 30 rfl
  have c5:=Z2Y L 30 1 31 rfl
  have c6:=Z2Y L 31 1 32 rfl
  rw [List.drop_of_length_le (show L.length≤32 by omega),List.append_nil] at c6
  rw [← c6,← c5,← c4,← c3,← c2,← c1,← c0,List.drop_zero]
 rw [e0,e1,e2,e3,e4,e5,e6] at hcut
 have r3:=rows3 rg l3
 have l8:∀ a,a≤16→((rg.drop a).take 8).length=8:=fun a ha=>by simp;omega
 have m8:∀ a,∀ x ∈ (rg.drop a).take 8,SX.in64 x:=fun a x hx=>w3 x (List.mem_of_mem_drop (List.mem_of_mem_take hx))
 refine ⟨⟨ar,s.data.toList,ini,[rg.take 8,(rg.drop 8).take 8,(rg.drop 16).take 8],code,ca,cc,qu,cond,da,dc⟩,?_,?_,?_⟩
 ·rw [SX.den_agg,hcut]
  simp only [SX.tsenc,SX.cellsL,SX.cells,SX.te8,List.append_nil]
  rw [show List.range 3=[0,1,2] from rfl]
  simp only [List.flatMap_cons,List.flatMap_nil,List.getD_cons_zero,List.getD_cons_succ,List.append_nil]
  rw [← List.map_append,← List.map_append]
  have r3:rg.take 8++((rg.drop 8).take 8++(rg.drop 16).take 8)=rg:=by simpa using r3
  rw [r3]
 ·simp only [SX.Ok,SX.tsenc,SX.OkL,SX.isUnit,true_and,and_true]
  refine ⟨l2,⟨⟨rfl,fun x=>rfl,fun j hj=>?_⟩,⟨f4,f6⟩⟩⟩
  have hj:j=0∨j=1∨j=2:=by omega
  rcases hj with rfl | rfl | rfl
  ·exact ⟨⟨rfl,l8 0 (by decide)⟩,trivial⟩
  ·exact ⟨⟨rfl,l8 8 (by decide)⟩,trivial⟩
  ·exact ⟨⟨rfl,l8 16 (by decide)⟩,trivial⟩
 ·refine ⟨SX.wf64 w0,by simpa using w1,⟨l2,w2⟩,⟨rfl,fun r hr=>?_⟩,⟨f4.1,b4⟩,w4,SX.wf64 w5,⟨f6.1,b6,w6⟩⟩
  simp only [List.mem_cons,List.not_mem_nil,or_false] at hr
  rcases hr with rfl | rfl | rfl
  ·exact ⟨l8 0 (by decide),m8 0⟩
  ·exact ⟨l8 8 (by decide),m8 8⟩
  ·exact ⟨l8 16 (by decide),m8 16⟩
end
end Go.Proofs.YtdddpbmcoimgdaaGreatDoor
namespace Go.Proofs.YtdddpbmcoimgdaaGreatDoor
namespace SX
open Go Go.Proofs
def u64 (v:Int):Nat:=(v % 18446744073709551616).toNat
theorem Zfk (v:Int):u64 v < 18446744073709551616:=by unfold u64;omega
theorem Zc3 (x:Int):IntKind.i64.wrap x=if x % 18446744073709551616 ≥ 9223372036854775808 then x % 18446744073709551616 - 18446744073709551616 else x % 18446744073709551616:=by
 have e:IntKind.i64.wrap x=if (true&&decide (x % 18446744073709551616 ≥ 9223372036854775808))=true then x % 18446744073709551616 - 18446744073709551616 else x % 18446744073709551616:=rfl
 rw [e];simp
theorem Zfl (x:Int):IntKind.i64.wrap x % 18446744073709551616=x % 18446744073709551616:=by
 rw [Zc3];split <;> omega
theorem Z7Z (x:Int):u64 (IntKind.i64.wrap x)=u64 x:=by unfold u64;rw [Zfl]
theorem Z7m {n:Nat} (h:n < 18446744073709551616):u64 (n:Int)=n:=by unfold u64;omega
theorem Z80 {n:Nat} (h:n < 9223372036854775808):IntKind.i64.wrap (n:Int)=n:=by rw [Zc3];split <;> omega
theorem Z3X (x:Int):(BitVec.ofInt 64 x).toNat=u64 x:=by
 rw [BitVec.toNat_ofInt];rfl
theorem Z81 (x y:Int):bits .and .i64 x y=IntKind.i64.wrap ((u64 x &&& u64 y:Nat):Int):=by
 show IntKind.i64.wrap ((BitVec.ofInt 64 x &&& BitVec.ofInt 64 y).toNat:Int)=_
 rw [BitVec.toNat_and,Z3X,Z3X]
theorem ZhD (x y:Int):bits .or .i64 x y=IntKind.i64.wrap ((u64 x ||| u64 y:Nat):Int):=by
 show IntKind.i64.wrap ((BitVec.ofInt 64 x ||| BitVec.ofInt 64 y).toNat:Int)=_
 rw [BitVec.toNat_or,Z3X,Z3X]
def gN (u off k:Nat):Nat:=u / 2 ^ (8 * off) % 2 ^ (8 * k)
theorem gN_lt (u off k:Nat):gN u off k < 2 ^ (8 * k):=Nat.mod_lt _ (Nat.two_pow_pos _)
theorem ZhE (u off k:Nat):gN u off (k+1)=gN u off k+gN u (off+k) 1 * 2 ^ (8 * k):=by
 unfold gN
 rw [show 8 * (off+k)=8 * off+8 * k by omega,Nat.pow_add 2 (8 * off),← Nat.div_div_eq_div_mul,show 8 * (k+1)=8 * k+8 by omega,Nat.pow_add,Nat.mod_mul,Nat.mul_comm (2 ^ (8 * k))]
theorem Z82 {k:Nat} (h:k < 8):2 ^ (8 * k)≤72057594037927936:=Nat.le_trans (Nat.pow_le_pow_right (n:=2) (by decide) (show 8 * k≤56 by omega)) (by decide)
theorem ZgE (v:Int) (k:Nat) (hk:k < 8):bits .and .i64 (v.fdiv (2 ^ (8 * k))) 255=(gN (u64 v) k 1:Int):=by
 rw [Z81,show u64 255=2 ^ 8 - 1 by decide,Nat.and_two_pow_sub_one_eq_mod,show gN (u64 v) k 1=u64 v / 2 ^ (8 * k) % 2 ^ 8 from rfl]
 have e:u64 (v.fdiv (2 ^ (8 * k))) % 2 ^ 8=u64 v / 2 ^ (8 * k) % 2 ^ 8:=by
  have hz:((2:Int) ^ (8 * k))=((2 ^ (8 * k):Nat):Int):=by simp
  rw [hz]
  have hk':k=0∨k=1∨k=2∨k=3∨k=4∨k=5∨k=6∨k=7:=by omega
  rw [Int.fdiv_eq_ediv_of_nonneg _ (Int.natCast_nonneg _)]
  unfold u64
  rcases hk' with rfl | rfl | rfl | rfl | rfl | rfl | rfl | rfl <;> simp <;> omega
 rw [e,Z80 (Nat.lt_of_lt_of_le (Nat.mod_lt _ (by decide)) (by decide))]
theorem ZhF (o b k:Nat) (ho:o < 2 ^ (8 * k)) (hb:b < 256) (hk:k < 8):bits .or .i64 (o:Int) (IntKind.i64.wrap ((b:Int) * 2 ^ (8 * k)))=IntKind.i64.wrap ((o+b * 2 ^ (8 * k):Nat):Int):=by
 have h56:=Z82 hk
 have hbk:b * 2 ^ (8 * k)≤255 * 72057594037927936:=Nat.mul_le_mul (by omega) h56
 rw [ZhD,Z7Z,Z7m (by omega)]
 have e:u64 ((b:Int) * 2 ^ (8 * k))=b * 2 ^ (8 * k):=by
  have:((b:Int) * 2 ^ (8 * k))=((b * 2 ^ (8 * k):Nat):Int):=by simp
  rw [this,Z7m (by omega)]
 rw [e]
 congr 2
 rw [Nat.or_comm,← Nat.shiftLeft_eq,← Nat.shiftLeft_add_eq_or_of_lt ho,Nat.add_comm]
def ZfA:List SV:=[.s [],.raw .nilFunc,.raw .nilFunc,.raw .nilFunc,.raw .nilFunc,
 .s [88,56,54],.fn 92 [],.fn 93 [],.fn 94 [],.fn 95 [],
 .s [82,73,83,67,86],.fn 96 [],.fn 97 [],.fn 98 [],.fn 99 [],
 .s [65,82,77],.fn 100 [],.fn 101 [],.fn 102 [],.fn 103 []]
theorem Zce:Ctr Tryz.prog 45 [] [] (fun r H=>r=.sl 0 1 0 4 (some 4) 0∧H=[.mem 99 ZfA 1 0]):=by
 refine Ctr.enter Z5 (fn:=Tryz.f45) Z Z Z Z Z ?_
 exact ⟨rfl,rfl⟩
end SX
end Go.Proofs.YtdddpbmcoimgdaaGreatDoor
set_option maxRecDepth 100000
namespace Go.Proofs.YtdddpbmcoimgdaaGreatDoor
open Go.Shelf in
theorem Ze1:Builder.Extra Tryz.prog Z5D:=⟨⟨by kernel_rfl,by kernel_rfl⟩,Tryz.underlying5,Tryz.isAgg5,Tryz.sizeOf5,Tryz.zeroValue5,by kernel_rfl,by kernel_rfl,by kernel_rfl,by decide⟩
namespace SX
open Go Go.Proofs
theorem drNo:Z6r=false:=rfl
def nmF (ns:List (List UInt8)) (n:Int):List UInt8:=if 0≤n∧n < 8 then ns.getD n.toNat [] else []
def strB (xs:List (List UInt8)):SB:=.mem 9 (xs.map .s) 1 0
theorem Zdg (E:Env):∀ xs:List (List UInt8),cellsL E (xs.map .s)=xs.map fun x=>Value.string ⟨⟨x⟩⟩
 | []=>rfl
 | x::r=>by simp [cellsL,cells,Zdg E r]
theorem Z48 {M:Nat}:∀ xs:List (List UInt8),BndL M (xs.map .s)
 | []=>trivial
 | x::r=>⟨rfl,Z48 r⟩
theorem Zik (xs:List (List UInt8)) (n:Nat) (hn:xs.length=n) (hn2:n≤1000) (sep:List UInt8) (hl:(Lib.join xs sep).length≤140737488355328) :
 Ctr Tryz.prog 218 [.sl 0 1 0 n (some n) 0,.s sep] [strB xs] (fun r h=>r=.s (Lib.join xs sep)∧h=[strB xs]):=
 ZbV drNo (fn:=Tryz.f218) Tryz.func218 Z Z (fun m=>trivial) rfl fun C E m w hr ha=>by
  obtain ⟨_,b,c,e1,e2,_⟩:=hr.bl 0 _ rfl
  have hbs:b < w.heap.size:=ZE e2
  have hargs:(denL E [.sl 0 1 0 n (some n) 0,.s sep]).toArray = #[.slice (some ⟨b,0,none⟩) (xs.map fun x=>(⟨⟨x⟩⟩:ByteArray)).length n,.string ⟨⟨sep⟩⟩]:=by
   simp [denL,wrapV,cells,e1,hn]
  have hmm:(xs.map fun x=>(⟨⟨x⟩⟩:ByteArray)).map (·.data.toList)=xs:=by simp [Function.comp_def]
  rw [hargs]
  have:=Any.strings_Join ZdQ Ze1 b 0 n (xs.map fun x=>(⟨⟨x⟩⟩:ByteArray)) ⟨⟨sep⟩⟩ w (fun j x hx=>by
   rw [Z1J e2,Nat.zero_add,Zdg]
   simp only [List.getElem?_map,Option.map_eq_some_iff] at hx ⊢
   obtain ⟨y,hy,rfl⟩:=hx
   exact ⟨y,hy,rfl⟩) hbs (by simp;omega) (by simp;omega) (by rw [hmm];exact hl)
  rw [hmm] at this
  exact this
def Z9 (name:List UInt8) (xs:List (List UInt8)):List UInt8:=(name++[32])++Lib.join xs [44]
theorem Zd (name:List UInt8) (xs:List (List UInt8)) (n:Nat) (hn:xs.length=n) (h0:0 < n) (hn2:n≤1000) (hl:(Lib.join xs [44]).length≤100000) (hnm:name.length≤100000) :
 Ctr Tryz.prog 183 [.s name,.sl 0 1 0 n (some n) 0] [strB xs] (fun r h=>r=.s (Z9 name xs)∧h=[strB xs]):=by
 refine Za Z5 (fn:=Tryz.f183) Z Z Z Z Z Z ⟨Z48 xs,trivial⟩ ?_
 refine ⟨fun h=>?_,fun _=>?_⟩
 ·have h:decide ((n:Int)=0)=true:=h
  have:=of_decide_eq_true h
  omega
 refine ⟨fun _=>?_,?_⟩
 ·show name.length+1≤9223372036854775807
  omega
 refine Z6 Z Z Z Z Z Z (fun _=>Zik xs n hn hn2 [44] (by omega)) ?_
 refine ⟨fun _=>?_,⟨rfl,_,rfl⟩⟩
 show (name++[32]).length+(Lib.join xs [44]).length≤9223372036854775807
 simp;omega
def endF (z:Int) (e0 e1 e2 e3:List UInt8):List UInt8:=if z=1 then e0 else if z=2 then e1 else if z=4 then e2 else if z=8 then e3 else []
theorem ZJ (z:Int) (e0 e1 e2 e3:List UInt8):Ctr Tryz.prog 182 [.i .i64 z,.sl 0 1 0 4 (some 4) 0] [strB [e0,e1,e2,e3]] (fun r h=>r=.s (endF z e0 e1 e2 e3)∧h=[strB [e0,e1,e2,e3]]):=by
 refine Za Z5 (fn:=Tryz.f182) Z Z Z Z Z Z ⟨Z48 _,trivial⟩ ?_
 refine WpC.loop Z5 (β:=Nat) (fun k=>k≤4∧(0 < k→z≠1)∧(1 < k→z≠2)∧(2 < k→z≠4)∧(3 < k→z≠8)) (fun k=>[(9,.i .i64 k)]) (fun _=>[strB [e0,e1,e2,e3]]) (fun k=>4 - k) 0 1048176 ⟨by decide,fun h=>absurd h (by decide),fun h=>absurd h (by decide),fun h=>absurd h (by decide),fun h=>absurd h (by decide)⟩ ?_ ?_
 ·exact ⟨rfl,⟨⟨rfl,rfl,rfl⟩,trivial⟩,⟨[],rfl⟩,⟨Z48 _,trivial⟩,rfl⟩
 ·rintro k ⟨hk,h1,h2,h3,h4⟩
  rcases (by omega:k=0∨k=1∨k=2∨k=3∨k=4) with rfl | rfl | rfl | rfl | rfl
  ·refine ⟨fun _=>?_,fun h=>absurd h (by decide)⟩
   refine ⟨fun _=>by decide,⟨fun _=>by decide,?_⟩⟩
   refine ⟨fun h=>?_,fun h=>?_⟩
   ·have e:z=1:=of_decide_eq_true h
    refine ⟨s_cg ?_,_,rfl⟩
    unfold endF
    rw [if_pos e]
   ·have e:¬ z=1:=of_decide_eq_false h
    exact ⟨1,⟨by decide,fun _=>e,fun h=>absurd h (by decide),fun h=>absurd h (by decide),fun h=>absurd h (by decide)⟩,by decide,rfl,⟨⟨rfl,rfl,rfl⟩,trivial⟩,⟨[],rfl⟩,⟨Z48 _,trivial⟩,rfl⟩
  ·refine ⟨fun _=>?_,fun h=>absurd h (by decide)⟩
   refine ⟨fun _=>by decide,⟨fun _=>by decide,?_⟩⟩
   refine ⟨fun h=>?_,fun h=>?_⟩
   ·have e:z=2:=of_decide_eq_true h
    refine ⟨s_cg ?_,_,rfl⟩
    unfold endF
    rw [if_neg (h1 (by decide))]
    rw [if_pos e]
   ·have e:¬ z=2:=of_decide_eq_false h
    exact ⟨2,⟨by decide,fun _=>h1 (by decide),fun _=>e,fun h=>absurd h (by decide),fun h=>absurd h (by decide)⟩,by decide,rfl,⟨⟨rfl,rfl,rfl⟩,trivial⟩,⟨[],rfl⟩,⟨Z48 _,trivial⟩,rfl⟩
  ·refine ⟨fun _=>?_,fun h=>absurd h (by decide)⟩
   refine ⟨fun _=>by decide,⟨fun _=>by decide,?_⟩⟩
   refine ⟨fun h=>?_,fun h=>?_⟩
   ·have e:z=4:=of_decide_eq_true h
    refine ⟨s_cg ?_,_,rfl⟩
    unfold endF
    rw [if_neg (h1 (by decide))]
    rw [if_neg (h2 (by decide))]
    rw [if_pos e]
   ·have e:¬ z=4:=of_decide_eq_false h
    exact ⟨3,⟨by decide,fun _=>h1 (by decide),fun _=>h2 (by decide),fun _=>e,fun h=>absurd h (by decide)⟩,by decide,rfl,⟨⟨rfl,rfl,rfl⟩,trivial⟩,⟨[],rfl⟩,⟨Z48 _,trivial⟩,rfl⟩
  ·refine ⟨fun _=>?_,fun h=>absurd h (by decide)⟩
   refine ⟨fun _=>by decide,⟨fun _=>by decide,?_⟩⟩
   refine ⟨fun h=>?_,fun h=>?_⟩
   ·have e:z=8:=of_decide_eq_true h
    refine ⟨s_cg ?_,_,rfl⟩
    unfold endF
    rw [if_neg (h1 (by decide))]
    rw [if_neg (h2 (by decide))]
    rw [if_neg (h3 (by decide))]
    rw [if_pos e]
   ·have e:¬ z=8:=of_decide_eq_false h
    exact ⟨4,⟨by decide,fun _=>h1 (by decide),fun _=>h2 (by decide),fun _=>h3 (by decide),fun _=>e⟩,by decide,rfl,⟨⟨rfl,rfl,rfl⟩,trivial⟩,⟨[],rfl⟩,⟨Z48 _,trivial⟩,rfl⟩
  ·refine ⟨fun h=>absurd h (by decide),fun _=>⟨s_cg ?_,_,rfl⟩⟩
   unfold endF
   rw [if_neg (h1 (by decide)),if_neg (h2 (by decide)),if_neg (h3 (by decide)),if_neg (h4 (by decide))]
def orF (ns:List (List UInt8)) (h:List UInt8) (r n:Int):List UInt8:=if 0≤r then nmF ns r else h++Lib.itoa n
theorem Z3x (s0 s1 s2 s3 s4 s5 s6 s7 h:List UInt8) (rd pr:Nat) (r n:Int) (hn:in64 n) (hh:h.length≤10):Ctr Tryz.prog 184 [.ptr 1 1 0 [],.i .i64 r,.i .i64 n] [rowS s0 s1 s2 s3 s4 s5 s6 s7,Zi h rd pr]
 (fun x h'=>x=.s (orF [s0,s1,s2,s3,s4,s5,s6,s7] h r n)∧h'=[rowS s0 s1 s2 s3 s4 s5 s6 s7,Zi h rd pr]):=by
 have hi:=Z7Y hn
 refine Za Z5 (fn:=Tryz.f184) Z Z Z Z Z Z Zv ?_
 refine ⟨fun h1=>?_,fun h1=>?_⟩
 ·have h1:(0:Int)≤r:=of_decide_eq_true h1
  refine Z6 Z Z Z Z Z Z (fun _=>Z1s s0 s1 s2 s3 s4 s5 s6 s7 h rd pr r) ?_
  refine ⟨s_cg ?_,_,rfl⟩
  unfold orF nmF
  rw [if_pos h1]
 ·have h1:¬ (0:Int)≤r:=of_decide_eq_false h1
  refine WpC.dr Z5 mixed 0 ?_
  refine Zg Z Z Z Z Z Z Z (fun _=>Z7l n hn.1 hn.2) ?_
  refine ⟨fun _=>?_,?_⟩
  ·show h.length+(Lib.itoa n).length≤9223372036854775807
   omega
  refine ⟨by kernel_rfl,?_⟩
  refine ⟨s_cg ?_,_,rfl⟩
  unfold orF
  rw [if_neg h1]
end SX
end Go.Proofs.YtdddpbmcoimgdaaGreatDoor
namespace Go.Proofs.YtdddpbmcoimgdaaGreatDoor
namespace SX
open Go Go.Proofs
end SX
end Go.Proofs.YtdddpbmcoimgdaaGreatDoor
