/- A part of SX: symbolic and concrete runs of the program, with contracts of functions; lemmas without further conditions. Shortened by a tool (mini.py). -/
import Derived.Test.YtdddpbmcoimgdaaGreatDoorJAH
import Derived.Test.YtdddpbmcoimgdaaGreatDoorJAI
import Derived.Test.YtdddpbmcoimgdaaGreatDoorJAA
set_option linter.unusedVariables false
set_option linter.unusedSimpArgs false
set_option linter.unusedSectionVars false
set_option maxRecDepth 100000
namespace Go.Proofs.YtdddpbmcoimgdaaGreatDoor
namespace SX
open Go Go.Proofs
theorem Z5m (t:Tk):wdL (Z4I t)=4:=rfl
def rowK (N:Nat) (ts:List Tk) (ver:Nat):SB:=.mem 146 [.arr N Tk tk0 4 Z4I ts] ver 4
theorem Z4Q {M N ver:Nat} {ts:List Tk}:BndB M (rowK N ts ver):=⟨fun _=>rfl,trivial⟩
theorem Zgw:∀ n:Fin 256,decide ((0:Int)≤Lib.indexByte Z2Q (UInt8.ofNat n.val))=decide (UInt8.ofNat n.val ∈ Z2Q):=by decide +kernel
theorem ZhJ (c:UInt8):decide ((0:Int)≤Lib.indexByte Z2Q ((c.toNat:Int).toNat.toUInt8))=decide (c ∈ Z2Q):=by
 have h:=Zgw ⟨c.toNat,c.toNat_lt⟩
 have e:UInt8.ofNat c.toNat=c:=by simp
 simp only [e] at h
 have e2:((c.toNat:Int).toNat.toUInt8)=c:=by simp
 rw [e2];exact h
def TokK (s:List UInt8) (r:SV) (h:List SB):Prop:=
 (∃ ts ver,tokF s=(ts,0,0)∧r=.tup [.sl 0 ver 0 ts.length none 0,.i .i64 0,.i .i64 0]∧h=[rowK ts.length ts ver]) ∨
 (∃ e p,tokF s=([],e,p)∧e≠0∧r=.tup [.nils,.i .i64 e,.i .i64 p]∧h=[])
set_option maxHeartbeats 4000000 in
theorem Zf5 (s:List UInt8):Ctr Tryz.prog 89 [.s s] [] (TokK s):=by
 have key:Ctr Tryz.prog 89 [.s s] [] (fun r h=>(∃ ts ver Y,tokF s=(ts,0,0)∧r=.tup [.sl 0 ver 0 ts.length none 0,.i .i64 0,.i .i64 0]∧h=rowK ts.length ts ver::Y) ∨
  (∃ (e:Int) (p:Nat),tokF s=([],e,(p:Int))∧e≠0∧r=.tup [.nils,.i .i64 e,.i .i64 p])):=by
  refine Ctr.enter Z5 (fn:=Tryz.f89) Z Z Z Z Z ?_
  refine ⟨fun h1=>?_,fun h1=>?_⟩
  ·have h1:8192 < s.length:=by
    have h1:decide ((8192:Int) < s.length)=true:=h1
    simp at h1;omega
   exact .inr ⟨2,0,by unfold tokF;rw [if_pos h1];rfl,by decide,rfl⟩
  have h1:s.length≤8192:=by
   have h1:decide ((8192:Int) < s.length)=false:=h1
   simp at h1;omega
  refine WpC.shift (Shift.row (d:=5) rfl 3 146 [.arr 0 Tk tk0 4 Z4I []] (fun E=>rfl) (fun m V=>⟨⟨rfl,rfl,Z5m,fun j hj=>by omega⟩,trivial⟩)) ?_
  refine WpC.loop Z5 (β:=Nat×Nat×List Tk×Nat×Nat) (fun x=>x.1≤s.length∧s.length < x.1+x.2.2.2.2∧tokC s x.2.2.2.2 x.1 x.2.2.1=tokF s∧x.2.1≤x.1∧x.2.2.1.length=x.2.1) (fun x=>[(6,.i .i64 x.1),(5,.sl 0 x.2.2.2.1 0 x.2.1 none 0)]) (fun x=>[rowK x.2.1 x.2.2.1 x.2.2.2.1]) (fun x=>s.length - x.1) (0,0,[],0,s.length+1) 41538374868278621028243970633703420 ⟨Nat.zero_le _,by show s.length < 0+(s.length+1);omega,by unfold tokF;rw [if_neg (by omega)],Nat.le_refl _,rfl⟩ ?_ ?_
  ·exact ⟨rfl,⟨⟨rfl,rfl,rfl⟩,⟨rfl,rfl,rfl⟩,trivial⟩,⟨[],rfl⟩,⟨Z4Q,trivial⟩,rfl⟩
  ·rintro ⟨p,N,ts,ver,f⟩ ⟨hi,hf,hc,hlt,hNt⟩
   simp only at hi hf hc hlt hNt
   refine ⟨fun h2=>?_,fun h2=>?_⟩
   ·have h2:p < s.length:=by
     have h2:decide ((p:Int) < s.length)=true:=h2
     simpa using h2
    obtain ⟨f',rfl,hstep⟩:=ZeB (out:=ts) h2 hf
    rw [hc] at hstep
    have hX:((s.take s.length).drop (p:Int).toNat)=s.drop p:=by rw [List.take_length];rfl
    have hXl:((s.take s.length).drop (p:Int).toNat).length=s.length - p:=by rw [hX,List.length_drop]
    have hXne:((s.take s.length).drop (p:Int).toNat)≠[]:=fun e=>by rw [e] at hXl;simp at hXl;omega
    have hob1:(0:Int)≤p∧(p:Int)≤s.length:=by omega
    refine ⟨fun _=>hob1,?_⟩
    have hob2:(0:Int)≤0∧(0:Int) < ((s.take s.length).drop (p:Int).toNat).length:=by omega
    refine ⟨fun _=>hob2,?_⟩
    refine ⟨fun h3=>?_,fun h3=>?_⟩
    ·have h3:(decide (cd ((s.take s.length).drop (p:Int).toNat) 0=32)||decide (cd ((s.take s.length).drop (p:Int).toNat) 0=9)||decide (cd ((s.take s.length).drop (p:Int).toNat) 0=10))=true:=h3
     have hst:Z1t (s.drop p) p=.skip 1:=by
      unfold Z1t
      rw [if_pos (by rw [← hX];exact h3)]
     rw [hst] at hstep
     have k1:p+1≤s.length:=by omega
     have k2:s.length < p+1+f':=by omega
     have k3:N≤p+1:=by omega
     have k4:s.length - (p+1) < s.length - p:=by omega
     refine ⟨(p+1,N,ts,ver,f'),⟨k1,k2,hstep.symm,k3,hNt⟩,k4,rfl,⟨⟨?_,rfl,rfl⟩,⟨rfl,rfl,rfl⟩,trivial⟩,⟨_,rfl⟩,⟨Z4Q,trivial⟩,rfl⟩
     show SV.i .i64 (IntKind.i64.wrap ((p:Int)+1))=SV.i .i64 ((p+1:Nat):Int)
     rw [w64 (by omega) (by omega)];rfl
    have h3:(decide (cd ((s.take s.length).drop (p:Int).toNat) 0=32)||decide (cd ((s.take s.length).drop (p:Int).toNat) 0=9)||decide (cd ((s.take s.length).drop (p:Int).toNat) 0=10))=false:=h3
    refine Z4 Z Z Z Z Z Z Z (fun _=>Z4u ((s.take s.length).drop (p:Int).toNat) [40,42]) ?_
    refine ⟨fun h4=>?_,fun h4=>?_⟩
    ·have h4:pre ((s.take s.length).drop (p:Int).toNat) [40,42]=true:=h4
     have hl2:2≤((s.take s.length).drop (p:Int).toNat).length:=Z8V h4
     have hob:(0:Int)≤2∧(2:Int)≤((s.take s.length).drop (p:Int).toNat).length:=by omega
     refine ⟨fun _=>hob,?_⟩
     have hY:(((s.take s.length).drop (p:Int).toNat).take ((s.take s.length).drop (p:Int).toNat).length).drop (2:Int).toNat=(s.drop p).drop 2:=by rw [List.take_length,hX];rfl
     refine Z4 Z Z Z Z Z Z Z (fun _=>Zf0 ((((s.take s.length).drop (p:Int).toNat).take ((s.take s.length).drop (p:Int).toNat).length).drop (2:Int).toNat) [42,41] (by rw [hY];simp;omega)) ?_
     refine ⟨fun h5=>?_,fun h5=>?_⟩
     ·have h5:decide (Lib.index ((((s.take s.length).drop (p:Int).toNat).take ((s.take s.length).drop (p:Int).toNat).length).drop (2:Int).toNat) [42,41] < 0)=true:=h5
      have h5:=of_decide_eq_true h5
      rw [hY] at h5
      have hst:Z1t (s.drop p) p=.err 24:=by
       unfold Z1t
       rw [if_neg (by rw [← hX,h3];decide)]
       rw [if_pos (by rw [← hX];exact h4)]
       rw [if_pos h5]
      rw [hst] at hstep
      exact .inr ⟨24,p,hstep,by decide,rfl⟩
     ·have h5:decide (Lib.index ((((s.take s.length).drop (p:Int).toNat).take ((s.take s.length).drop (p:Int).toNat).length).drop (2:Int).toNat) [42,41] < 0)=false:=h5
      have h5:=of_decide_eq_false h5
      have hle:=Lib.index_le ((((s.take s.length).drop (p:Int).toNat).take ((s.take s.length).drop (p:Int).toNat).length).drop (2:Int).toNat) [42,41]
      have hroom:=Lib.index_room ((((s.take s.length).drop (p:Int).toNat).take ((s.take s.length).drop (p:Int).toNat).length).drop (2:Int).toNat) [42,41] (by omega)
      rw [hY] at h5 hle hroom
      simp only [List.length_drop,List.length_cons,List.length_nil] at hle hroom
      have hst:Z1t (s.drop p) p=.skip ((Lib.index ((s.drop p).drop 2) [42,41]).toNat+4):=by
       unfold Z1t
       rw [if_neg (by rw [← hX,h3];decide),if_pos (by rw [← hX];exact h4),if_neg h5]
      rw [hst] at hstep
      have k1:p+((Lib.index ((s.drop p).drop 2) [42,41]).toNat+4)≤s.length:=by omega
      have k2:s.length < p+((Lib.index ((s.drop p).drop 2) [42,41]).toNat+4)+f':=by omega
      have k3:N≤p+((Lib.index ((s.drop p).drop 2) [42,41]).toNat+4):=by omega
      have k4:s.length - (p+((Lib.index ((s.drop p).drop 2) [42,41]).toNat+4)) < s.length - p:=by omega
      refine ⟨(p+((Lib.index ((s.drop p).drop 2) [42,41]).toNat+4),N,ts,ver,f'),⟨k1,k2,hstep.symm,k3,hNt⟩,k4,rfl,⟨⟨?_,rfl,rfl⟩,⟨rfl,rfl,rfl⟩,trivial⟩,⟨_,rfl⟩,⟨Z4Q,trivial⟩,rfl⟩
      show SV.i .i64 (IntKind.i64.wrap ((p:Int)+IntKind.i64.wrap (Lib.index ((((s.take s.length).drop (p:Int).toNat).take ((s.take s.length).drop (p:Int).toNat).length).drop (2:Int).toNat) [42,41]+4)))=SV.i .i64 ((p+((Lib.index ((s.drop p).drop 2) [42,41]).toNat+4):Nat):Int)
      rw [hY,w64 (x:=Lib.index ((s.drop p).drop 2) [42,41]+4) (by omega) (by omega),w64 (by omega) (by omega)]
      exact i_cg (by omega)
    have h4:pre ((s.take s.length).drop (p:Int).toNat) [40,42]=false:=h4
    refine Z4 Z Z Z Z Z Z Z (fun _=>Z7o (cd ((s.take s.length).drop (p:Int).toNat) 0)) ?_
    refine ⟨fun h6=>?_,fun h6=>?_⟩
    ·have h6:digB (cd ((s.take s.length).drop (p:Int).toNat) 0)=true:=h6
     have hr1:=Z8U numB ((s.take s.length).drop (p:Int).toNat)
     have hr0:0 < rowF numB ((s.take s.length).drop (p:Int).toNat):=Zbk hXne (by unfold numB;rw [h6];simp)
     refine Z4 Z Z Z Z Z Z Z (fun _=>ZeC 123 numB Zg3 ((s.take s.length).drop (p:Int).toNat) (by omega)) ?_
     have hob:(0:Int)≤(rowF numB ((s.take s.length).drop (p:Int).toNat):Nat)∧((rowF numB ((s.take s.length).drop (p:Int).toNat):Nat):Int)≤((s.take s.length).drop (p:Int).toNat).length:=by omega
     refine ⟨fun _=>hob,?_⟩
     refine Z1k Z Z Z Z [] 0 Z Z Z (Zf4 (((s.take s.length).drop (p:Int).toNat).take (rowF numB ((s.take s.length).drop (p:Int).toNat))) (Zbj numB ((s.take s.length).drop (p:Int).toNat)) (by rw [List.length_take];omega)) Z Z Z Z trivial rfl (fun r H' hk=>?_) ?_
     ·rw [hk.2];exact ⟨Nat.le_refl _,Nat.le_refl _⟩
     rintro r H' ⟨hr,rfl⟩
     cases hx:numF (((s.take s.length).drop (p:Int).toNat).take (rowF numB ((s.take s.length).drop (p:Int).toNat))) with
     | none=>
       rw [hx] at hr
       obtain ⟨v,rfl⟩:=hr
       refine ⟨fun _=>?_,fun h=>by cases h⟩
       have hst:Z1t (s.drop p) p=.err 23:=by
        unfold Z1t
        rw [if_neg (by rw [← hX,h3];decide)]
        rw [if_neg (by rw [← hX,h4];decide)]
        rw [if_pos (by rw [← hX];exact h6)]
        rw [← hX,hx]
       rw [hst] at hstep
       exact .inr ⟨23,p,hstep,by decide,rfl⟩
     | some n=>
       rw [hx] at hr
       have hr:r=.tup [.i .i64 (IntKind.i64.wrap n),.b true]:=hr
       subst hr
       refine ⟨fun h=>(by cases h),fun _=>?_⟩
       refine OpC.yld 0 rfl (ZA Z5 Z Z Z Z Z Z Z Z Z (SrcA.sl Z Z Z Z (by decide) rfl) (Z18 (y:=⟨2,((s.take s.length).drop (p:Int).toNat).take (rowF numB ((s.take s.length).drop (p:Int).toNat)),IntKind.i64.wrap n,p⟩) hNt rfl Z5m) (by decide) ?_ ?_) (fun d hd=>by cases hd;rfl) ?_
       ·exact Nat.le_trans (show N+1≤10000 by omega) (by decide)
       ·show (N+1) * 40≤140737488355328
        omega
       have hlen:(⟨2,((s.take s.length).drop (p:Int).toNat).take (rowF numB ((s.take s.length).drop (p:Int).toNat)),IntKind.i64.wrap n,p⟩:Tk).s.length≤s.length - p:=by
        show (List.take _ _).length≤_
        rw [List.length_take,hXl];omega
       have hpos:0 < (⟨2,((s.take s.length).drop (p:Int).toNat).take (rowF numB ((s.take s.length).drop (p:Int).toNat)),IntKind.i64.wrap n,p⟩:Tk).s.length:=by
        show 0 < (List.take _ _).length
        rw [List.length_take,hXl]
        omega
       have hst:Z1t (s.drop p) p=.tok ⟨2,((s.take s.length).drop (p:Int).toNat).take (rowF numB ((s.take s.length).drop (p:Int).toNat)),IntKind.i64.wrap n,p⟩:=by
        unfold Z1t
        rw [if_neg (by rw [← hX,h3];decide)]
        rw [if_neg (by rw [← hX,h4];decide)]
        rw [if_pos (by rw [← hX];exact h6)]
        rw [← hX,hx]
       rw [hst] at hstep
       have k1:p+(⟨2,((s.take s.length).drop (p:Int).toNat).take (rowF numB ((s.take s.length).drop (p:Int).toNat)),IntKind.i64.wrap n,p⟩:Tk).s.length≤s.length:=by omega
       have k2:s.length < p+(⟨2,((s.take s.length).drop (p:Int).toNat).take (rowF numB ((s.take s.length).drop (p:Int).toNat)),IntKind.i64.wrap n,p⟩:Tk).s.length+f':=by omega
       have k3:N+1≤p+(⟨2,((s.take s.length).drop (p:Int).toNat).take (rowF numB ((s.take s.length).drop (p:Int).toNat)),IntKind.i64.wrap n,p⟩:Tk).s.length:=by omega
       have k5:(ts++[(⟨2,((s.take s.length).drop (p:Int).toNat).take (rowF numB ((s.take s.length).drop (p:Int).toNat)),IntKind.i64.wrap n,p⟩:Tk)]).length=N+1:=by rw [List.length_append,List.length_singleton];omega
       have k4:s.length - (p+(⟨2,((s.take s.length).drop (p:Int).toNat).take (rowF numB ((s.take s.length).drop (p:Int).toNat)),IntKind.i64.wrap n,p⟩:Tk).s.length) < s.length - p:=by omega
       refine ⟨(p+(⟨2,((s.take s.length).drop (p:Int).toNat).take (rowF numB ((s.take s.length).drop (p:Int).toNat)),IntKind.i64.wrap n,p⟩:Tk).s.length,N+1,ts++[⟨2,((s.take s.length).drop (p:Int).toNat).take (rowF numB ((s.take s.length).drop (p:Int).toNat)),IntKind.i64.wrap n,p⟩],ver+1,f'),⟨k1,k2,hstep.symm,k3,k5⟩,k4,rfl,⟨⟨?_,rfl,rfl⟩,⟨rfl,rfl,rfl⟩,trivial⟩,⟨_,rfl⟩,⟨Z4Q,trivial⟩,rfl⟩
       ·show SV.i .i64 (IntKind.i64.wrap ((p:Int)+((⟨2,((s.take s.length).drop (p:Int).toNat).take (rowF numB ((s.take s.length).drop (p:Int).toNat)),IntKind.i64.wrap n,p⟩:Tk).s.length:Int)))=SV.i .i64 ((p+(⟨2,((s.take s.length).drop (p:Int).toNat).take (rowF numB ((s.take s.length).drop (p:Int).toNat)),IntKind.i64.wrap n,p⟩:Tk).s.length:Nat):Int)
        rw [w64 (by omega) (by omega)];rfl
    have h6:digB (cd ((s.take s.length).drop (p:Int).toNat) 0)=false:=h6
    refine Z4 Z Z Z Z Z Z Z (fun _=>Z6l (cd ((s.take s.length).drop (p:Int).toNat) 0)) ?_
    refine ⟨fun h8=>?_,fun h8=>?_⟩
    ·have h8:(letB (cd ((s.take s.length).drop (p:Int).toNat) 0)||decide (cd ((s.take s.length).drop (p:Int).toNat) 0=95))=true:=h8
     have hr1:=Z8U namB ((s.take s.length).drop (p:Int).toNat)
     have hr0:0 < rowF namB ((s.take s.length).drop (p:Int).toNat):=Zbk hXne (by
      simp only [Bool.or_eq_true] at h8
      unfold namB
      rcases h8 with h8 | h8 <;> rw [h8] <;> simp)
     refine Z4 Z Z Z Z Z Z Z (fun _=>ZeC 126 namB Zg4 ((s.take s.length).drop (p:Int).toNat) (by omega)) ?_
     have hob:(0:Int)≤(rowF namB ((s.take s.length).drop (p:Int).toNat):Nat)∧((rowF namB ((s.take s.length).drop (p:Int).toNat):Nat):Int)≤((s.take s.length).drop (p:Int).toNat).length:=by omega
     refine ⟨fun _=>hob,?_⟩
     refine OpC.yld 0 rfl (ZA Z5 Z Z Z Z Z Z Z Z Z (SrcA.sl Z Z Z Z (by decide) rfl) (Z18 (y:=⟨1,((s.take s.length).drop (p:Int).toNat).take (rowF namB ((s.take s.length).drop (p:Int).toNat)),0,p⟩) hNt rfl Z5m) (by decide) ?_ ?_) (fun d hd=>by cases hd;rfl) ?_
     ·exact Nat.le_trans (show N+1≤10000 by omega) (by decide)
     ·show (N+1) * 40≤140737488355328
      omega
     have hlen:(⟨1,((s.take s.length).drop (p:Int).toNat).take (rowF namB ((s.take s.length).drop (p:Int).toNat)),0,p⟩:Tk).s.length≤s.length - p:=by
      show (List.take _ _).length≤_
      rw [List.length_take,hXl];omega
     have hpos:0 < (⟨1,((s.take s.length).drop (p:Int).toNat).take (rowF namB ((s.take s.length).drop (p:Int).toNat)),0,p⟩:Tk).s.length:=by
      show 0 < (List.take _ _).length
      rw [List.length_take,hXl]
      omega
     have hst:Z1t (s.drop p) p=.tok ⟨1,((s.take s.length).drop (p:Int).toNat).take (rowF namB ((s.take s.length).drop (p:Int).toNat)),0,p⟩:=by
      unfold Z1t
      rw [if_neg (by rw [← hX,h3];decide)]
      rw [if_neg (by rw [← hX,h4];decide)]
      rw [if_neg (by rw [← hX,h6];decide)]
      rw [if_pos (by rw [← hX];exact h8)]
      rw [← hX]
     rw [hst] at hstep
     have k1:p+(⟨1,((s.take s.length).drop (p:Int).toNat).take (rowF namB ((s.take s.length).drop (p:Int).toNat)),0,p⟩:Tk).s.length≤s.length:=by omega
     have k2:s.length < p+(⟨1,((s.take s.length).drop (p:Int).toNat).take (rowF namB ((s.take s.length).drop (p:Int).toNat)),0,p⟩:Tk).s.length+f':=by omega
     have k3:N+1≤p+(⟨1,((s.take s.length).drop (p:Int).toNat).take (rowF namB ((s.take s.length).drop (p:Int).toNat)),0,p⟩:Tk).s.length:=by omega
     have k5:(ts++[(⟨1,((s.take s.length).drop (p:Int).toNat).take (rowF namB ((s.take s.length).drop (p:Int).toNat)),0,p⟩:Tk)]).length=N+1:=by rw [List.length_append,List.length_singleton];omega
     have k4:s.length - (p+(⟨1,((s.take s.length).drop (p:Int).toNat).take (rowF namB ((s.take s.length).drop (p:Int).toNat)),0,p⟩:Tk).s.length) < s.length - p:=by omega
     refine ⟨(p+(⟨1,((s.take s.length).drop (p:Int).toNat).take (rowF namB ((s.take s.length).drop (p:Int).toNat)),0,p⟩:Tk).s.length,N+1,ts++[⟨1,((s.take s.length).drop (p:Int).toNat).take (rowF namB ((s.take s.length).drop (p:Int).toNat)),0,p⟩],ver+1,f'),⟨k1,k2,hstep.symm,k3,k5⟩,k4,rfl,⟨⟨?_,rfl,rfl⟩,⟨rfl,rfl,rfl⟩,trivial⟩,⟨_,rfl⟩,⟨Z4Q,trivial⟩,rfl⟩
     ·show SV.i .i64 (IntKind.i64.wrap ((p:Int)+((⟨1,((s.take s.length).drop (p:Int).toNat).take (rowF namB ((s.take s.length).drop (p:Int).toNat)),0,p⟩:Tk).s.length:Int)))=SV.i .i64 ((p+(⟨1,((s.take s.length).drop (p:Int).toNat).take (rowF namB ((s.take s.length).drop (p:Int).toNat)),0,p⟩:Tk).s.length:Nat):Int)
      rw [w64 (by omega) (by omega)];rfl
    have h8:(letB (cd ((s.take s.length).drop (p:Int).toNat) 0)||decide (cd ((s.take s.length).drop (p:Int).toNat) 0=95))=false:=h8
    refine Z4 Z Z Z Z Z Z Z (fun _=>Z4u ((s.take s.length).drop (p:Int).toNat) [47,92]) ?_
    refine Z4 Z Z Z Z Z Z Z (fun _=>Z4u ((s.take s.length).drop (p:Int).toNat) [92,47]) ?_
    refine ⟨fun h9=>?_,fun h9=>?_⟩
    ·have h9:(pre ((s.take s.length).drop (p:Int).toNat) [47,92]||pre ((s.take s.length).drop (p:Int).toNat) [92,47])=true:=h9
     have hl2:2≤((s.take s.length).drop (p:Int).toNat).length:=by
      simp only [Bool.or_eq_true] at h9
      rcases h9 with h9 | h9 <;> exact Z8V h9
     have hob:(0:Int)≤2∧(2:Int)≤((s.take s.length).drop (p:Int).toNat).length:=by omega
     refine WpC.dr Z5 mixed 0 ?_
     refine ⟨fun _=>hob,?_⟩
     refine ⟨by kernel_rfl,?_⟩
     refine OpC.yld 0 rfl (ZA Z5 Z Z Z Z Z Z Z Z Z (SrcA.sl Z Z Z Z (by decide) rfl) (Z18 (y:=⟨3,((s.take s.length).drop (p:Int).toNat).take 2,0,p⟩) hNt rfl Z5m) (by decide) ?_ ?_) (fun d hd=>by cases hd;rfl) ?_
     ·exact Nat.le_trans (show N+1≤10000 by omega) (by decide)
     ·show (N+1) * 40≤140737488355328
      omega
     have hlen:(⟨3,((s.take s.length).drop (p:Int).toNat).take 2,0,p⟩:Tk).s.length≤s.length - p:=by
      show (List.take _ _).length≤_
      rw [List.length_take,hXl];omega
     have hpos:0 < (⟨3,((s.take s.length).drop (p:Int).toNat).take 2,0,p⟩:Tk).s.length:=by
      show 0 < (List.take _ _).length
      rw [List.length_take,hXl]
      omega
     have hst:Z1t (s.drop p) p=.tok ⟨3,((s.take s.length).drop (p:Int).toNat).take 2,0,p⟩:=by
      unfold Z1t
      rw [if_neg (by rw [← hX,h3];decide)]
      rw [if_neg (by rw [← hX,h4];decide)]
      rw [if_neg (by rw [← hX,h6];decide)]
      rw [if_neg (by rw [← hX,h8];decide)]
      rw [if_pos (by rw [← hX];exact h9)]
      rw [← hX]
     rw [hst] at hstep
     have k1:p+(⟨3,((s.take s.length).drop (p:Int).toNat).take 2,0,p⟩:Tk).s.length≤s.length:=by omega
     have k2:s.length < p+(⟨3,((s.take s.length).drop (p:Int).toNat).take 2,0,p⟩:Tk).s.length+f':=by omega
     have k3:N+1≤p+(⟨3,((s.take s.length).drop (p:Int).toNat).take 2,0,p⟩:Tk).s.length:=by omega
     have k5:(ts++[(⟨3,((s.take s.length).drop (p:Int).toNat).take 2,0,p⟩:Tk)]).length=N+1:=by rw [List.length_append,List.length_singleton];omega
     have k4:s.length - (p+(⟨3,((s.take s.length).drop (p:Int).toNat).take 2,0,p⟩:Tk).s.length) < s.length - p:=by omega
     refine ⟨(p+(⟨3,((s.take s.length).drop (p:Int).toNat).take 2,0,p⟩:Tk).s.length,N+1,ts++[⟨3,((s.take s.length).drop (p:Int).toNat).take 2,0,p⟩],ver+1,f'),⟨k1,k2,hstep.symm,k3,k5⟩,k4,rfl,⟨⟨?_,rfl,rfl⟩,⟨rfl,rfl,rfl⟩,trivial⟩,⟨_,rfl⟩,⟨Z4Q,trivial⟩,rfl⟩
     ·show SV.i .i64 (IntKind.i64.wrap ((p:Int)+((⟨3,((s.take s.length).drop (p:Int).toNat).take 2,0,p⟩:Tk).s.length:Int)))=SV.i .i64 ((p+(⟨3,((s.take s.length).drop (p:Int).toNat).take 2,0,p⟩:Tk).s.length:Nat):Int)
      rw [w64 (by omega) (by omega)];rfl
    have h9:(pre ((s.take s.length).drop (p:Int).toNat) [47,92]||pre ((s.take s.length).drop (p:Int).toNat) [92,47])=false:=h9
    refine Z4 Z Z Z Z Z Z Z (fun _=>Z9R Z2Q (cd ((s.take s.length).drop (p:Int).toNat) 0)) ?_
    have hmk:=ZhJ (((s.take s.length).drop (p:Int).toNat).getD 0 0)
    refine ⟨fun h10=>?_,fun h10=>?_⟩
    ·have h10:decide ((0:Int)≤Lib.indexByte Z2Q (cd ((s.take s.length).drop (p:Int).toNat) 0).toNat.toUInt8)=true:=h10
     have hk:(s.drop p).getD 0 0 ∈ Z2Q:=by rw [← hX];exact of_decide_eq_true (hmk.symm.trans h10)
     have hob:(0:Int)≤1∧(1:Int)≤((s.take s.length).drop (p:Int).toNat).length:=by omega
     refine WpC.dr Z5 mixed 0 ?_
     refine ⟨fun _=>hob,?_⟩
     refine ⟨by kernel_rfl,?_⟩
     refine OpC.yld 0 rfl (ZA Z5 Z Z Z Z Z Z Z Z Z (SrcA.sl Z Z Z Z (by decide) rfl) (Z18 (y:=⟨3,((s.take s.length).drop (p:Int).toNat).take 1,0,p⟩) hNt rfl Z5m) (by decide) ?_ ?_) (fun d hd=>by cases hd;rfl) ?_
     ·exact Nat.le_trans (show N+1≤10000 by omega) (by decide)
     ·show (N+1) * 40≤140737488355328
      omega
     have hlen:(⟨3,((s.take s.length).drop (p:Int).toNat).take 1,0,p⟩:Tk).s.length≤s.length - p:=by
      show (List.take _ _).length≤_
      rw [List.length_take,hXl];omega
     have hpos:0 < (⟨3,((s.take s.length).drop (p:Int).toNat).take 1,0,p⟩:Tk).s.length:=by
      show 0 < (List.take _ _).length
      rw [List.length_take,hXl]
      omega
     have hst:Z1t (s.drop p) p=.tok ⟨3,((s.take s.length).drop (p:Int).toNat).take 1,0,p⟩:=by
      unfold Z1t
      rw [if_neg (by rw [← hX,h3];decide)]
      rw [if_neg (by rw [← hX,h4];decide)]
      rw [if_neg (by rw [← hX,h6];decide)]
      rw [if_neg (by rw [← hX,h8];decide)]
      rw [if_neg (by rw [← hX,h9];decide)]
      rw [if_pos hk]
      rw [← hX]
     rw [hst] at hstep
     have k1:p+(⟨3,((s.take s.length).drop (p:Int).toNat).take 1,0,p⟩:Tk).s.length≤s.length:=by omega
     have k2:s.length < p+(⟨3,((s.take s.length).drop (p:Int).toNat).take 1,0,p⟩:Tk).s.length+f':=by omega
     have k3:N+1≤p+(⟨3,((s.take s.length).drop (p:Int).toNat).take 1,0,p⟩:Tk).s.length:=by omega
     have k5:(ts++[(⟨3,((s.take s.length).drop (p:Int).toNat).take 1,0,p⟩:Tk)]).length=N+1:=by rw [List.length_append,List.length_singleton];omega
     have k4:s.length - (p+(⟨3,((s.take s.length).drop (p:Int).toNat).take 1,0,p⟩:Tk).s.length) < s.length - p:=by omega
     refine ⟨(p+(⟨3,((s.take s.length).drop (p:Int).toNat).take 1,0,p⟩:Tk).s.length,N+1,ts++[⟨3,((s.take s.length).drop (p:Int).toNat).take 1,0,p⟩],ver+1,f'),⟨k1,k2,hstep.symm,k3,k5⟩,k4,rfl,⟨⟨?_,rfl,rfl⟩,⟨rfl,rfl,rfl⟩,trivial⟩,⟨_,rfl⟩,⟨Z4Q,trivial⟩,rfl⟩
     ·show SV.i .i64 (IntKind.i64.wrap ((p:Int)+((⟨3,((s.take s.length).drop (p:Int).toNat).take 1,0,p⟩:Tk).s.length:Int)))=SV.i .i64 ((p+(⟨3,((s.take s.length).drop (p:Int).toNat).take 1,0,p⟩:Tk).s.length:Nat):Int)
      rw [w64 (by omega) (by omega)];rfl
    ·have h10:decide ((0:Int)≤Lib.indexByte Z2Q (cd ((s.take s.length).drop (p:Int).toNat) 0).toNat.toUInt8)=false:=h10
     have hk:¬ (s.drop p).getD 0 0 ∈ Z2Q:=by rw [← hX];exact of_decide_eq_false (hmk.symm.trans h10)
     have hst:Z1t (s.drop p) p=.err 20:=by
      unfold Z1t
      rw [if_neg (by rw [← hX,h3];decide)]
      rw [if_neg (by rw [← hX,h4];decide)]
      rw [if_neg (by rw [← hX,h6];decide)]
      rw [if_neg (by rw [← hX,h8];decide)]
      rw [if_neg (by rw [← hX,h9];decide)]
      rw [if_neg hk]
     rw [hst] at hstep
     exact .inr ⟨20,p,hstep,by decide,rfl⟩
   ·have h2:p=s.length:=by
     have h2:decide ((p:Int) < s.length)=false:=h2
     simp at h2;omega
    rw [Zg2 (by omega)] at hc
    subst hNt
    exact .inl ⟨ts,ver,_,hc.symm,rfl,rfl⟩
 exact key.trim ZK fun r H1 hk=>by
  rcases hk with ⟨ts,ver,Y,h1,h2,h3⟩ | ⟨e,p,h1,h2,h3⟩
  ·exact ⟨[rowK ts.length ts ver],Y,h3,Nat.zero_le _,⟨Z4Q,trivial⟩,by rw [h2];rfl,.inl ⟨ts,ver,h1,h2,rfl⟩⟩
  ·exact ⟨[],H1,rfl,Nat.zero_le _,trivial,by rw [h3];rfl,.inr ⟨e,p,h1,h2,h3,rfl⟩⟩
end SX
end Go.Proofs.YtdddpbmcoimgdaaGreatDoor
