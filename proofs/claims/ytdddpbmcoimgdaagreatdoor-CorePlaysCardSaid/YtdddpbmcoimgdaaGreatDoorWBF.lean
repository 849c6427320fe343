/- A part of SX: symbolic and concrete runs of the program, with contracts of functions; lemmas without further conditions. Shortened by a tool (mini.py). -/
import Derived.Test.YtdddpbmcoimgdaaGreatDoorWAC
import Derived.Test.YtdddpbmcoimgdaaGreatDoorWAQ
import Derived.Test.YtdddpbmcoimgdaaGreatDoorWBE
import Derived.Test.YtdddpbmcoimgdaaGreatDoorWAA
set_option linter.unusedVariables false
set_option linter.unusedSimpArgs false
set_option linter.unusedSectionVars false
set_option maxRecDepth 100000
namespace Go.Proofs.YtdddpbmcoimgdaaGreatDoor
namespace SX
open Go Go.Proofs
def memT (t:Thr):Bool:=stdB t&&memB (t.r.xs.getD t.k inZ)
def Zn (t:Thr):Int:=if memT t=true then (t.r.xs.getD t.k inZ).loc else 0
def Zo (t:Thr):Int:=if memT t=true then mskI t.g (t.r.xs.getD t.k inZ) else 0
def ZV (t:Thr):Int:=if memT t=true then dtmI t.g (t.r.xs.getD t.k inZ) else 0
def sptU (t:Thr):SV:=.tup [.agg [.i .i64 (Zn t),.i .i64 (Zo t)],.i .i64 (ZV t),.b (memT t)]
theorem Zig (t:Thr):sptV t=sptU t:=by
 unfold sptV sptU Zn Zo ZV
 by_cases h:memT t=true
 ·have h2:(stdB t&&memB (t.r.xs.getD t.k inZ))=true:=h
  rw [if_pos h2,if_pos h,if_pos h,if_pos h,h];rfl
 ·have h2:¬ (stdB t&&memB (t.r.xs.getD t.k inZ))=true:=h
  rw [if_neg h2,if_neg h,if_neg h,if_neg h,show memT t=false by simpa using h];rfl
theorem Z3H (v n:Nat) (ts:List Thr) (k:Nat) (hk:k < n) (hv:v≠0):Ctr Tryz.prog 41 [.ptr 0 1 0 [],.i .i64 k] (ZC v n ts) (fun r H=>r=sptU (ts.getD k thr0)∧H=ZC v n ts):=by
 have:=Zi9 v n ts k hk hv
 rw [Zig] at this;exact this
def rfB (q:Nat) (t:Thr) (a:Option Addr) (c:Nat) (p:List Int):List SB:=[.mem 41 [.imm In inZ 17 ienc t.r.xs a c,.ints .i64 8 t.g,.i .i64 t.k,.sl q p.length 0 p.length none 0] 1 0,.mem 3 [.ints .i64 p.length p] p.length 1]
def ofT (t:Thr) (a:Option Addr) (c:Nat):Thr:=⟨⟨t.r.xs,a,c⟩,t.k,t.g⟩
theorem Z2O (t:Thr):decide ((t.k:Int) < (t.r.xs.length:Int))=stdB t:=by
 unfold stdB
 rw [Bool.eq_iff_iff];simp
theorem Zcb {g:List Int} {r:Int} (h:r < 8):regV g r=gtV g r:=by
 unfold regV gtV
 by_cases h0:r < 0
 ·rw [if_pos h0,if_pos (by simp [h0])]
 ·rw [if_neg h0,if_neg (by simp;omega)]
theorem ix_gt {g:List Int} {i:In} (h:i.ix < 8):ixV g i=gtV g i.ix:=by
 unfold ixV
 by_cases h0:0≤i.ix
 ·rw [if_pos (by simpa using h0),Zcb h]
 ·rw [if_neg (by simpa using h0)];unfold gtV;rw [if_pos (by omega)]
theorem Z4R {i:In} (hf:Zw i=true) (hm:memB i=true):i.ix < 8:=by
 unfold memB at hm
 simp only [Bool.or_eq_true,decide_eq_true_eq] at hm
 rcases (show i.op=4∨i.op=5∨i.op=6 by omega) with h | h | h
 ·exact ix8 (fm4 hf h).2.1
 ·exact ix8 (fm5 hf h).1
 ·exact ix8 (fm6 hf h).2.2.1
theorem wr_a {i:In} (hf:Zw i=true) (hm:i.op=5∨i.op=6):i.a < 8:=by
 rcases hm with h | h
 ·rcases (fm5 hf h).2.1 with h | h <;> omega
 ·exact (fm6 hf h).2.1.2
theorem dtm5 {g:List Int} {i:In} (h:i.op=5) (ha:i.a < 8):dtmI g i=getF (rdtm g i) 0 i.sz:=by
 unfold dtmI rdtm
 rw [if_neg (by simp [h])]
 by_cases h0:i.a < 0
 ·rw [if_pos (by simp [h,h0]),if_pos (by simp [h,h0])]
 ·rw [if_neg (by simp [h0]),if_pos (by simp [h]),if_neg (by simp [h0]),Zcb ha]
theorem dtm6 {g:List Int} {i:In} (h:i.op=6) (ha:i.a < 8):dtmI g i=rdtm g i:=by
 unfold dtmI rdtm
 rw [if_pos (by simp [h]),if_neg (by simp [h]),Zcb ha]
theorem g0 {a y:Bool} (h:(y&&(a == true))=true):a=true:=by cases a <;> simp at h ⊢
theorem g1 {a x:Bool} (h:((a&&x) == true)=true):a=true:=by cases a <;> simp at h ⊢
theorem g1x {a x:Bool} (h:((a&&x) == true)=true):x=true:=by cases a <;> cases x <;> simp at h ⊢
theorem g2 {a x y:Bool} (h:(((a&&x) == true)&&y)=true):a=true:=by cases a <;> simp at h ⊢
theorem g3 {a x y z:Bool} (h:((((a&&x) == true)&&y)&&z)=true):a=true:=by cases a <;> simp at h ⊢
theorem g3z {a x y z:Bool} (h:((((a&&x) == true)&&y)&&(z == true))=true):z=true:=by cases z <;> simp at h ⊢
def Zcc (x y:In):Bool:=decide (x.op=y.op)&&(decide (x.dst=y.dst)&&(decide (x.a=y.a)&&(decide (x.b=y.b)&&(decide (x.imm=y.imm)&&(decide (x.loc=y.loc)&&(decide (x.off=y.off)&&(decide (x.ix=y.ix)&&(decide (x.sz=y.sz)&&(decide (x.fn=y.fn)&&((x.acq == y.acq)&&((x.wk == y.wk)&&((x.rel == y.rel)&&(decide (x.pr=y.pr)&&(decide (x.su=y.su)&&(decide (x.to=y.to)&&(x.ze == y.ze))))))))))))))))
theorem ZdW (x:In):Zcc x x=true:=by simp [Zcc]
theorem Z7t (t:Thr) (I:In) (h:(((stdB t != decide ((t.k:Int) < (t.r.xs.length:Int)))||!decide ((t.k:Int)=(t.k:Int)))||(decide ((t.k:Int) < (t.r.xs.length:Int))&&!(Zcc (if stdB t=true then I else inZ) I)))=true):False:=by
 rw [Z2O] at h
 cases hs:stdB t with
 | true=>rw [hs] at h;simp [ZdW] at h
 | false=>rw [hs] at h;simp at h
theorem Z7u {g:List Int} {r:Int} (h0:0≤r) (h8:r < 8):regV g r=g.getD r.toNat 0:=by
 unfold regV
 rw [if_neg (by simp;omega)];rfl
theorem Z7v (t:Thr) (h:(memT t != (decide ((t.k:Int) < (t.r.xs.length:Int))&&((decide ((t.r.xs.getD t.k inZ).op=4)||decide ((t.r.xs.getD t.k inZ).op=5))||decide ((t.r.xs.getD t.k inZ).op=6))))=true):False:=by
 rw [Z2O,Z2k] at h
 unfold memT at h
 simp at h
theorem Z7w (t:Thr) (hf:t.k < t.r.xs.length→Zw (t.r.xs.getD t.k inZ)=true) (h:((decide ((t.k:Int) < (t.r.xs.length:Int))&&((decide ((t.r.xs.getD t.k inZ).op=4)||decide ((t.r.xs.getD t.k inZ).op=5))||decide ((t.r.xs.getD t.k inZ).op=6)))&&((!(decide (Zn t=(t.r.xs.getD t.k inZ).loc)&&decide (Zo t=mskF (plcF (t.r.xs.getD t.k inZ).off (gtV t.g (t.r.xs.getD t.k inZ).ix) (t.r.xs.getD t.k inZ).sz) (t.r.xs.getD t.k inZ).sz))||(decide ((t.r.xs.getD t.k inZ).op=5)&&!decide (ZV t=getF (rdtm t.g (t.r.xs.getD t.k inZ)) 0 (t.r.xs.getD t.k inZ).sz)))||(decide ((t.r.xs.getD t.k inZ).op=6)&&!decide (ZV t=rdtm t.g (t.r.xs.getD t.k inZ)))))=true):False:=by
 rw [Z2O,Z2k] at h
 rw [Bool.and_eq_true] at h
 have hm:memT t=true:=h.1
 have hs:stdB t=true:=by unfold memT at hm;rw [Bool.and_eq_true] at hm;exact hm.1
 have hmb:memB (t.r.xs.getD t.k inZ)=true:=by unfold memT at hm;rw [Bool.and_eq_true] at hm;exact hm.2
 have hfm:=hf (by unfold stdB at hs;exact of_decide_eq_true hs)
 have e1:Zn t=(t.r.xs.getD t.k inZ).loc:=by unfold Zn;rw [if_pos hm]
 have e2:Zo t=mskF (plcF (t.r.xs.getD t.k inZ).off (gtV t.g (t.r.xs.getD t.k inZ).ix) (t.r.xs.getD t.k inZ).sz) (t.r.xs.getD t.k inZ).sz:=by unfold Zo mskI;rw [if_pos hm,ix_gt (Z4R hfm hmb)]
 have h2:=h.2
 rw [decide_eq_true e1,decide_eq_true e2] at h2
 simp only [Bool.and_self,Bool.not_true,Bool.false_or,Bool.or_eq_true,Bool.and_eq_true,decide_eq_true_eq,Bool.not_eq_true',decide_eq_false_iff_not] at h2
 rcases h2 with ⟨h5,hn⟩ | ⟨h6,hn⟩
 ·exact hn (by unfold ZV;rw [if_pos hm];exact dtm5 h5 (wr_a hfm (.inl h5)))
 ·exact hn (by unfold ZV;rw [if_pos hm];exact dtm6 h6 (wr_a hfm (.inr h6)))
theorem Z2f {r:Nat} (h:r≤10):SV.i .i64 (IntKind.i64.wrap (((r:Int) - 1)+1))=SV.i .i64 (((r+1:Nat):Int) - 1):=by rw [w64 (by omega) (by omega)];exact i_cg (by omega)
end SX
end Go.Proofs.YtdddpbmcoimgdaaGreatDoor
