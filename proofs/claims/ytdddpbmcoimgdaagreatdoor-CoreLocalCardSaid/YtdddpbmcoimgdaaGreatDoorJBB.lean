/- A part of SX: symbolic and concrete runs of the program, with contracts of functions; lemmas without further conditions. Shortened by a tool (mini.py). -/
import Derived.Test.YtdddpbmcoimgdaaGreatDoorJAC
import Derived.Test.YtdddpbmcoimgdaaGreatDoorJAH
import Derived.Test.YtdddpbmcoimgdaaGreatDoorJAM
import Derived.Test.YtdddpbmcoimgdaaGreatDoorJAU
import Derived.Test.YtdddpbmcoimgdaaGreatDoorJAV
import Derived.Test.YtdddpbmcoimgdaaGreatDoorJAA
set_option linter.unusedVariables false
set_option linter.unusedSimpArgs false
set_option linter.unusedSectionVars false
set_option maxRecDepth 100000
namespace Go.Proofs.YtdddpbmcoimgdaaGreatDoor
namespace SX
open Go Go.Proofs
def badC (er:In→Int) (rs:List IRow):Prop:=∃ t,t < rs.length∧∃ k,k < (rs.getD t ir0).xs.length∧er ((rs.getD t ir0).xs.getD k inZ)≠0
def badG (regs:List (List Int)) (n:Nat):Prop:=∃ j,n≤j∧j < 3∧regs.getD j tz8≠tz8
open Classical in
noncomputable def lchk (er:In→Int) (name:List UInt8) (regs:List (List Int)) (rs:List IRow) (qu:Int) (cond:List Cn):Int:=
 if 16 < name.length∨Zy name=false then 40 else if (uchk rs).2.2≠0 then (uchk rs).2.2 else if badC er rs then 36 else
 if (qu < 1∨3 < qu)∨ZP cond=false then 22 else if badG regs rs.length then 1 else 0
theorem Z4R {er name regs rs qu cond} (h:16 < name.length∨Zy name=false):lchk er name regs rs qu cond=40:=by unfold lchk;rw [if_pos h]
theorem Z8v {er name regs rs qu cond} (h:¬ (16 < name.length∨Zy name=false)) (h2:(uchk rs).2.2≠0):lchk er name regs rs qu cond=(uchk rs).2.2:=by unfold lchk;rw [if_neg h,if_pos h2]
theorem Z7t {er name regs rs qu cond} (h:¬ (16 < name.length∨Zy name=false)) (h2:(uchk rs).2.2=0) (h3:badC er rs):lchk er name regs rs qu cond=36:=by unfold lchk;rw [if_neg h,if_neg (fun hn=>hn h2),if_pos h3]
theorem Z6s {er name regs rs qu cond} (h:¬ (16 < name.length∨Zy name=false)) (h2:(uchk rs).2.2=0) (h3:¬ badC er rs) (h4:(qu < 1∨3 < qu)∨ZP cond=false):lchk er name regs rs qu cond=22:=by unfold lchk;rw [if_neg h,if_neg (fun hn=>hn h2),if_neg h3,if_pos h4]
theorem Z7u {er name regs rs qu cond} (h:¬ (16 < name.length∨Zy name=false)) (h2:(uchk rs).2.2=0) (h3:¬ badC er rs) (h4:¬ ((qu < 1∨3 < qu)∨ZP cond=false)) (h5:badG regs rs.length):lchk er name regs rs qu cond=1:=by unfold lchk;rw [if_neg h,if_neg (fun hn=>hn h2),if_neg h3,if_neg h4,if_pos h5]
theorem Z8Z {er name regs rs qu cond} (h:¬ (16 < name.length∨Zy name=false)) (h2:(uchk rs).2.2=0) (h3:¬ badC er rs) (h4:¬ ((qu < 1∨3 < qu)∨ZP cond=false)) (h5:¬ badG regs rs.length):lchk er name regs rs qu cond=0:=by unfold lchk;rw [if_neg h,if_neg (fun hn=>hn h2),if_neg h3,if_neg h4,if_neg h5]
def Z26 (n:Nat) (t:Tst):List SV:=[.i .i64 t.arch,.s t.name,.ints .i64 3 t.init,.arr n (List Int) tz8 8 te8 (t.regs.take n),.arr (3 - n) (List Int) tz8 8 te8 (t.regs.drop n),.imm IRow ir0 1 irenc t.code t.ca t.cc,.i .i64 t.qu,.imm Cn cn0 5 cenc t.cond t.da t.dc]
def Z4S:Nat→List SV
 | 0=>[.s [],.raw .nilFunc,.raw .nilFunc,.raw .nilFunc,.raw .nilFunc]
 | 1=>[.s [88,56,54],.fn 92 [],.fn 93 [],.fn 94 [],.fn 95 []]
 | 2=>[.s [82,73,83,67,86],.fn 96 [],.fn 97 [],.fn 98 [],.fn 99 []]
 | _+3=>[.s [65,82,77],.fn 100 [],.fn 101 [],.fn 102 [],.fn 103 []]
theorem lg_w:∀ k,wdL (Z4S k)=5
 | 0=>rfl
 | 1=>rfl
 | 2=>rfl
 | _+3=>rfl
theorem lg_ok (m:Mem) (V:List Nat):∀ k,OkL m V (Z4S k)
 | 0=>by simp [Z4S,OkL,Ok,OkA,isUnit,Z1Z]
 | 1=>by simp [Z4S,OkL,Ok,OkA,isUnit]
 | 2=>by simp [Z4S,OkL,Ok,OkA,isUnit]
 | _+3=>by simp [Z4S,OkL,Ok,OkA,isUnit]
theorem Z3P:Ctr Tryz.prog 45 [] [] (fun r H=>r=.sl 0 1 0 4 (some 4) 0∧H=[.mem 99 [.arr 4 Nat 0 5 Z4S [0,1,2,3]] 1 0]):=by
 refine Cp.recell ZK ZbA (fun r H1 hk=>?_)
 obtain ⟨rfl,rfl⟩:=hk
 refine ⟨0,_,ZeZ,[.arr 4 Nat 0 5 Z4S [0,1,2,3]],1,0,rfl,fun E=>?_,fun m V h=>?_,rfl,rfl⟩
 ·simp only [cellsL,SX.cells,List.append_nil];rfl
 ·simp only [OkL,Ok]
  exact ⟨⟨rfl,rfl,lg_w,fun j hj=>lg_ok m V _⟩,trivial⟩
theorem len1 {rs:List IRow} (h:rs.length=1):∃ r0,rs=[r0]:=List.length_eq_one_iff.1 h
theorem len2 {rs:List IRow} (h:rs.length=2):∃ r0 r1,rs=[r0,r1]:=by
 match rs,h with
 | [a,b],_=>exact ⟨a,b,rfl⟩
theorem len3 {rs:List IRow} (h:rs.length=3):∃ r0 r1 r2,rs=[r0,r1,r2]:=by
 match rs,h with
 | [a,b,c],_=>exact ⟨a,b,c,rfl⟩
theorem list8 {xs:List Int} (h:xs.length=8):xs=[xs.getD 0 0,xs.getD 1 0,xs.getD 2 0,xs.getD 3 0,xs.getD 4 0,xs.getD 5 0,xs.getD 6 0,xs.getD 7 0]:=by
 match xs,h with
 | [a,b,c,d,e,f,g,i],_=>rfl
def Z8w (xs:List Int):SV:=.agg [.i .i64 (xs.getD 0 0),.i .i64 (xs.getD 1 0),.i .i64 (xs.getD 2 0),.i .i64 (xs.getD 3 0),.i .i64 (xs.getD 4 0),.i .i64 (xs.getD 5 0),.i .i64 (xs.getD 6 0),.i .i64 (xs.getD 7 0)]
theorem slot8 {xs:List Int} (h:xs.length=8):∀ E m V t v,SlotOk E m V t v (.agg [.ints .i64 8 xs])→SlotOk E m V t v (Z8w xs):=fun E m V t v hs=>by
 have hv:v=den E (.agg [.ints .i64 8 xs]):=hs.2
 refine ⟨by simp [Z8w,Ok,OkL,isUnit],?_⟩
 rw [hv]
 have e:=list8 h
 simp only [Z8w,den,wrapV,cells,cellsL,List.append_nil]
 conv=>lhs;rw [e]
 rfl
theorem eq8 {xs:List Int} (h:xs.length=8):(decide (xs.getD 0 0=0)&&(decide (xs.getD 1 0=0)&&(decide (xs.getD 2 0=0)&&(decide (xs.getD 3 0=0)&&(decide (xs.getD 4 0=0)&&(decide (xs.getD 5 0=0)&&(decide (xs.getD 6 0=0)&&decide (xs.getD 7 0=0))))))))=decide (xs=tz8):=by
 match xs,h with
 | [a,b,c,d,e,f,g,i],_=>
   rw [Bool.eq_iff_iff]
   simp [tz8]
theorem ZcA {N:Nat} (t:Tst):BndL N (tsenc t):=⟨rfl,rfl,rfl,fun _=>rfl,rfl,rfl,rfl,trivial⟩
theorem Z5n {N n:Nat} (t:Tst):BndL N (Z26 n t):=⟨rfl,rfl,rfl,fun _=>rfl,fun _=>rfl,rfl,rfl,rfl,trivial⟩
end SX
end Go.Proofs.YtdddpbmcoimgdaaGreatDoor
