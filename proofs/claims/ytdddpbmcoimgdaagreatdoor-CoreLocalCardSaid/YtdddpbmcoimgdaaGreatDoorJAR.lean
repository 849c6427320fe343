/- A part of SX: symbolic and concrete runs of the program, with contracts of functions; lemmas without further conditions. Shortened by a tool (mini.py). -/
import Derived.Test.YtdddpbmcoimgdaaGreatDoorJAP
import Derived.Test.YtdddpbmcoimgdaaGreatDoorJAA
set_option linter.unusedVariables false
set_option linter.unusedSimpArgs false
set_option linter.unusedSectionVars false
set_option maxRecDepth 100000
namespace Go.Proofs.YtdddpbmcoimgdaaGreatDoor
namespace SX
open Go Go.Proofs
theorem tkw (x:Tk):wdL (Z4I x)=4:=rfl
theorem tkok (x:Tk) (m:Mem):OkL m [] (Z4I x):=by simp [Z4I,OkL,isUnit,Ok]
theorem Rel.gone {E:Env} {C:Fr} {m:Mem} {h:List SB} {w:World} (hr:Rel E C m h w) {k ver:Nat} {B:SB} (hk:h[k]?=some B) (hl:(SB.gone ver).lim=B.lim):Rel E C m (h.set k (.gone ver)) w:=by
 have hvs:vers (h.set k (.gone ver))=vers h:=ZJ (B':=.gone ver) hk hl
 have hkl:k < h.length:=(List.getElem?_eq_some_iff.1 hk).1
 have hgk:(h.set k (.gone ver))[k]?=some (.gone ver):=by simp [List.getElem?_set,hkl]
 have hge:∀ j,j≠k→(h.set k (.gone ver))[j]?=h[j]?:=fun j hj=>List.getElem?_set_ne (Ne.symm hj)
 have hblk:∀ j b,Zk E (h.set k (.gone ver)) j b→j≠k∧Zk E h j b:=by
  rintro j b ⟨B',hB',hb⟩
  by_cases hj:j=k
  ·subst hj;rw [hgk] at hB';cases hB';exact hb.elim
  ·rw [hge j hj] at hB';exact ⟨hj,B',hB',hb⟩
 refine ⟨hr.os,hr.tape,hr.output,hr.im,hr.fr,hr.mf,?_,?_,?_,?_⟩
 ·intro j B' hB'
  by_cases hj:j=k
  ·subst hj;rw [hgk] at hB';cases hB';trivial
  ·rw [hge j hj] at hB';rw [hvs];exact hr.bl j B' hB'
 ·rw [hvs];exact hr.nn
 ·intro j b hb;exact hr.sp j b (hblk j b hb).2
 ·intro i j b h1 h2;exact hr.inj i j b (hblk i b h1).2 (hblk j b h2).2
theorem Cp.row3 {α:Type} {d:α} {n:Nat} {enc:α→List SV} {X:List Value→World→(Value→World→Prop)→Prop} (hX:Z2A X) {args:List SV} {H:List SB} {ty:TypeId} {g:Nat} (hn:n=g+1) (hw:∀ x,wdL (enc x)=n) (hok:∀ x m,OkL m [] (enc x)) {K:SV→List SB→Prop}
 (h:Cp X args H (fun r h=>(∃ (xs:List α) (ver:Nat) (y z:SV),r=.tup [.sl 0 ver 0 xs.length none 0,y,z]∧h=[.mem ty [.arr xs.length α d n enc xs] ver n]∧∀ ad cap,K (.tup [.imm α d n enc xs ad cap,y,z]) [.gone ver])∨K r h)):Cp X args H K:=by
 subst hn
 refine ⟨fun C E m w hr ha=>hX _ _ _ _ (h.out C E m w hr ha) fun v w' ⟨r,H',E',m',h1,h2,h3,h4,h5⟩=>?_⟩
 rcases h2 with ⟨xs,ver,y,z,rfl,rfl,hk⟩ | h2
 ·have h3:=h3
  simp only [Ok,OkA] at h3
  obtain ⟨⟨⟨_,o1⟩,⟨ly,o2⟩,⟨lz,o3⟩,_⟩,_⟩:=h3
  have ht:∀ vs,den E' (.tup vs)=.tuple (denL E' vs).toArray:=fun vs=>by simp [den,wrapV,cells]
  by_cases hv:ver=0
  ·subst hv
   simp only [Ok] at o1
   have hl0:xs=[]:=List.eq_nil_of_length_eq_zero (by simpa using o1.2)
   subst hl0
   have e7:∃ ad cap,den E' (.sl 0 0 0 ([]:List α).length none 0)=den E' (.imm α d (g+1) enc ([]:List α) ad cap):=by
    cases he:E' 0 0 with
    | none=>exact ⟨none,0,by simp [den,wrapV,cells,he]⟩
    | some bc=>obtain ⟨b,c⟩:=bc;exact ⟨some ⟨b,0,none⟩,c,by simp [den,wrapV,cells,he]⟩
   obtain ⟨ad,cap,e7⟩:=e7
   refine ⟨_,_,E',m',?_,hk ad cap,?_,h4,Rel.gone (k:=0) (ver:=0) h5 Z Z⟩
   ·rw [h1,ht,ht]
    show Value.tuple (den E' (.sl 0 0 0 ([]:List α).length none 0)::denL E' [y,z]).toArray=Value.tuple (den E' (.imm α d (g+1) enc ([]:List α) ad cap)::denL E' [y,z]).toArray
    rw [e7]
   ·refine ⟨?_,rfl⟩
    simp only [Ok,OkA]
    exact ⟨⟨rfl,Nat.zero_le _,fun h=>absurd rfl h,hw,fun j hj=>absurd hj (Nat.not_lt_zero _)⟩,⟨ly,o2⟩,⟨lz,o3⟩,trivial⟩
  ·have hrep:Rep E' C m' ⟨[.sl 0 ver 0 xs.length none 0],[.mem ty [.arr xs.length α d (g+1) enc xs] ver (g+1)]⟩ ⟨#[den E' (.sl 0 ver 0 xs.length none 0)],[]⟩ w':=
    ⟨rfl,fun q x u hx hu=>by
     rcases q with _ | q
     ·simp at hx hu;subst hx;subst hu
      exact ⟨by simpa only [Ok] using o1,rfl⟩
     ·simp at hx,rfl,h5⟩
   obtain ⟨m2,b,c,e1,e2,e3⟩:=Z5G (k:=0) hrep rfl rfl hv hw hok
   obtain ⟨ad,cap,e4⟩:=ZcP (j:=0) (i:=0) (len:=xs.length) e2 e3 rfl hw hok (by simp) (by omega)
   have e5:=e4.sl 0 _ _ Z Z
   simp only [List.drop_zero,List.take_length] at e5
   have e6:Ok m2 (vers [SB.gone ver]) (.imm α d (g+1) enc xs (some ad) cap)∧den E' (.sl 0 ver 0 xs.length none 0)=den E' (.imm α d (g+1) enc xs (some ad) cap):=e5
   refine ⟨_,_,E',m2,?_,hk (some ad) cap,?_,h4.trans e1,e4.rel⟩
   ·rw [h1,ht,ht]
    show Value.tuple (den E' (.sl 0 ver 0 xs.length none 0)::denL E' [y,z]).toArray=Value.tuple (den E' (.imm α d (g+1) enc xs (some ad) cap)::denL E' [y,z]).toArray
    rw [e6.2]
   ·refine ⟨?_,rfl⟩
    simp only [Ok,OkA]
    have k1:=e6.1
    simp only [Ok] at k1
    exact ⟨⟨rfl,k1⟩,⟨ly,Ok.mono e1.mm y _ _ e1.vv o2⟩,⟨lz,Ok.mono e1.mm z _ _ e1.vv o3⟩,trivial⟩
 ·exact ⟨r,H',E',m',h1,h2,h3,h4,h5⟩
def TokI (s:List UInt8) (r:SV) (h:List SB):Prop:=
 (∃ ts ad cap ver,tokF s=(ts,0,0)∧r=.tup [.imm Tk tk0 4 Z4I ts ad cap,.i .i64 0,.i .i64 0]∧h=[.gone ver]) ∨
 (∃ e p,tokF s=([],e,p)∧e≠0∧r=.tup [.nils,.i .i64 e,.i .i64 p]∧h=[])
theorem Zdm (s:List UInt8):Ctr Tryz.prog 89 [.s s] [] (TokI s):=by
 refine Cp.row3 (α:=Tk) (d:=tk0) (enc:=Z4I) (n:=4) (g:=3) (ty:=146) ZK rfl tkw tkok ((Zf5 s).mono ZK ?_)
 rintro r h (⟨ts,ver,h1,rfl,rfl⟩ | ⟨e,p,h1,he,rfl,rfl⟩)
 ·exact .inl ⟨ts,ver,_,_,rfl,rfl,fun ad cap=>.inl ⟨ts,ad,cap,ver,h1,rfl,rfl⟩⟩
 ·exact .inr (.inr ⟨e,p,h1,he,rfl,rfl⟩)
end SX
end Go.Proofs.YtdddpbmcoimgdaaGreatDoor
