/- A part of SX: symbolic and concrete runs of the program, with contracts of functions; lemmas without further conditions. Shortened by a tool (mini.py). -/
import Derived.Test.YtdddpbmcoimgdaaGreatDoorJAM
import Derived.Test.YtdddpbmcoimgdaaGreatDoorJBF
import Derived.Test.YtdddpbmcoimgdaaGreatDoorJBJ
import Derived.Test.YtdddpbmcoimgdaaGreatDoorJBK
import Derived.Test.YtdddpbmcoimgdaaGreatDoorJBM
import Derived.Test.YtdddpbmcoimgdaaGreatDoorJAA
set_option linter.unusedVariables false
set_option linter.unusedSimpArgs false
set_option linter.unusedSectionVars false
set_option maxRecDepth 100000
namespace Go.Proofs.YtdddpbmcoimgdaaGreatDoor
namespace SX
open Go Go.Proofs
def ansE (i:In) (lb t:List UInt8):Int:=if Zr i=false then 34 else if t=[] then 36 else if i.op=9∧Zy lb=false then 37 else 0
def ansT (i:In) (lb t:List UInt8):List UInt8:=if Zr i=false then [] else if t=[] then [] else if i.op=9∧Zy lb=false then [] else t
theorem Z91 (i:In) (lb t:List UInt8):ansF i lb t=.tup [.s (ansT i lb t),.i .i64 (ansE i lb t)]:=by
 unfold ansF ansT ansE
 split
 ·rfl
 ·split
  ·rfl
  ·split <;> rfl
def txA (a:Int) (i:In) (lb:List UInt8):List UInt8:=if a=1 then pxT i lb else if a=2 then pvT i lb else paT i lb
def erA (a:Int) (i:In):Int:=ansE i [76] (txA a i [76])
noncomputable def chkT (t:Tst):Int:=if t.arch < 1∨3 < t.arch then 36 else lchk (erA t.arch) t.name t.regs t.code t.qu t.cond
theorem Z7z {α:Type} {l:List α} {k:Nat} {d:α} (h:k < l.length):l.getD k d ∈ l:=by
 rw [List.getD_eq_getElem?_getD,List.getElem?_eq_getElem h];exact List.getElem_mem h
theorem TsW.in_ {t:Tst} (h:TsW t) {k q:Nat} (hk:k < t.code.length) (hq:q < (t.code.getD k ir0).xs.length):InW ((t.code.getD k ir0).xs.getD q inZ):=by
 have h1:=h.rows (t.code.getD k ir0) (Z7z hk)
 exact h1.2.2 _ (Z7z hq)
theorem TsW.r8 {t:Tst} (h:TsW t) {j:Nat} (hj:j < 3):(t.regs.getD j tz8).length=8:=by
 have hl:=h.regs.1
 exact (h.regs.2 _ (Z7z (show j < t.regs.length by omega))).1
theorem arrc (E:Env) (n:Nat) (xs:List (List Int)) (h:xs.length=n) (h8:∀ x ∈ xs,x.length=8):cellsL E [.arr n (List Int) tz8 8 te8 xs]=(xs.flatten).map (.int .i64):=by
 subst h
 simp only [cellsL,SX.cells,List.append_nil,te8]
 clear h8
 induction xs with
 | nil=>rfl
 | cons x xs ih=>
   rw [List.length_cons,List.range_succ_eq_map,List.flatMap_cons,List.flatMap_map,List.flatten_cons,List.map_append]
   rw [← ih]
   simp [List.getD_eq_getElem?_getD]
theorem Zfr (E:Env) (n:Nat) (t:Tst) (hn:n≤3) (hl:t.regs.length=3) (h8:∀ x ∈ t.regs,x.length=8):denL E [.agg (tsenc t)]=denL E [.agg (Z26 n t)]:=by
 have e0:=arrc E 3 t.regs hl h8
 have e1:=arrc E n (t.regs.take n) (by simp;omega) (fun x hx=>h8 x (List.mem_of_mem_take hx))
 have e2:=arrc E (3 - n) (t.regs.drop n) (by simp;omega) (fun x hx=>h8 x (List.mem_of_mem_drop hx))
 have e3:cellsL E [.arr 3 (List Int) tz8 8 te8 t.regs]=cellsL E [.arr n (List Int) tz8 8 te8 (t.regs.take n)]++cellsL E [.arr (3 - n) (List Int) tz8 8 te8 (t.regs.drop n)]:=by
  rw [e0,e1,e2,← List.map_append,← List.flatten_append,List.take_append_drop]
 have e4:cellsL E (tsenc t)=cellsL E (Z26 n t):=by
  show cellsL E ([.i .i64 t.arch,.s t.name,.ints .i64 3 t.init]++([.arr 3 (List Int) tz8 8 te8 t.regs]++[.imm IRow ir0 1 irenc t.code t.ca t.cc,.i .i64 t.qu,.imm Cn cn0 5 cenc t.cond t.da t.dc]))=cellsL E ([.i .i64 t.arch,.s t.name,.ints .i64 3 t.init]++([.arr n (List Int) tz8 8 te8 (t.regs.take n)]++([.arr (3 - n) (List Int) tz8 8 te8 (t.regs.drop n)]++[.imm IRow ir0 1 irenc t.code t.ca t.cc,.i .i64 t.qu,.imm Cn cn0 5 cenc t.cond t.da t.dc])))
  simp only [Zl,e3,List.append_assoc]
 simp only [denL,wrapV,SX.cells,e4]
theorem Z2J {f:FuncId} {r:SV} (n:Nat) (t:Tst) (hn:n≤3) (hl:t.regs.length=3) (h8:∀ x ∈ t.regs,x.length=8) (h:CtrV Tryz.prog f [.agg (Z26 n t)] r):CtrV Tryz.prog f [.agg (tsenc t)] r:=by
 refine ⟨fun C E m w hr ha=>?_⟩
 rw [Zfr E n t hn hl h8]
 refine h.out C E m w hr ?_
 simp only [OkA,Ok,tsenc,Z26,OkL] at ha ⊢
 obtain ⟨⟨_,a1,a2,a3,a4,a5,a6,a7,_⟩,_⟩:=ha
 have hel:∀ x ∈ t.regs,OkL m (vers []) (te8 x):=fun x hx=>by simp [te8,OkL,Ok,isUnit,h8 x hx]
 refine ⟨⟨rfl,a1,a2,a3,⟨rfl,by simp;omega,fun _=>rfl,fun j hj=>?_⟩,⟨rfl,by simp;omega,fun _=>rfl,fun j hj=>?_⟩,a5,a6,a7,trivial⟩,trivial⟩
 ·refine hel _ ?_
  have:j < (t.regs.take n).length:=by simp;omega
  rw [List.getD_eq_getElem?_getD,List.getElem?_eq_getElem this]
  exact List.mem_of_mem_take (List.getElem_mem this)
 ·refine hel _ ?_
  have:j < (t.regs.drop n).length:=by simp;omega
  rw [List.getD_eq_getElem?_getD,List.getElem?_eq_getElem this]
  exact List.mem_of_mem_drop (List.getElem_mem this)
theorem Zfs {rs:List IRow} (h:rs.length < 1∨3 < rs.length):(uchk rs).2.2=30:=by rw [Z3q (.inl ⟨h,rfl⟩)]
theorem Zdo (t:Tst) (h:t.arch < 1∨3 < t.arch):CtrV Tryz.prog 10 [.agg (tsenc t)] (.i .i64 36):=by
 refine Z8 Z1g (fn:=Tryz.f10) Z Z Z Z Z Z ?_
 refine ⟨fun _=>rfl,fun h1=>?_⟩
 have h1:(decide (t.arch < 1)||decide (3 < t.arch))=false:=h1
 simp only [Bool.or_eq_false_iff,decide_eq_false_iff_not] at h1
 omega
theorem Zdp (t:Tst) (h:¬ (t.arch < 1∨3 < t.arch)) (hn:t.code.length < 1∨3 < t.code.length) (er:In→Int):CtrV Tryz.prog 10 [.agg (tsenc t)] (.i .i64 (lchk er t.name t.regs t.code t.qu t.cond)):=by
 refine Z8 Z1g (fn:=Tryz.f10) Z Z Z Z Z Z ?_
 refine ⟨fun h1=>?_,fun _=>?_⟩
 ·have h1:(decide (t.arch < 1)||decide (3 < t.arch))=true:=h1
  simp only [Bool.or_eq_true,decide_eq_true_eq] at h1
  exact absurd h1 h
 refine Z4 Z Z Z Z Z Z Z (fun _=>Z2X t.name) ?_
 refine ⟨fun h1=>?_,fun h1=>?_⟩
 ·have h1:(decide ((16:Int) < t.name.length)||!Zy t.name)=true:=h1
  simp only [Bool.or_eq_true,decide_eq_true_eq,Bool.not_eq_true'] at h1
  refine i_cg (Z4R ?_).symm
  rcases h1 with h1 | h1
  ·exact .inl (by omega)
  ·exact .inr h1
 have h1:(decide ((16:Int) < t.name.length)||!Zy t.name)=false:=h1
 simp only [Bool.or_eq_false_iff,decide_eq_false_iff_not,Bool.not_eq_false'] at h1
 have hnm:¬ (16 < t.name.length∨Zy t.name=false):=by
  rintro (h | h)
  ·exact h1.1 (by omega)
  ·rw [h1.2] at h;cases h
 refine Z4 Z Z Z Z Z Z Z (fun _=>Z2o t.code t.ca t.cc) ?_
 have h30:=Zfs hn
 refine ⟨fun h2=>?_,fun h2=>?_⟩
 ·exact i_cg (Z8v hnm (by rw [h30];decide)).symm
 ·have h2:(!decide ((uchk t.code).2.2=0))=false:=h2
  rw [h30] at h2;exact absurd h2 (by decide)
theorem ZgB (t:Tst) (hw:TsW t):CtrV Tryz.prog 10 [.agg (tsenc t)] (.i .i64 (chkT t)):=by
 unfold chkT
 by_cases ha:t.arch < 1∨3 < t.arch
 ·rw [if_pos ha];exact Zdo t ha
 rw [if_neg ha]
 by_cases hn:t.code.length < 1∨3 < t.code.length
 ·exact Zdp t ha hn _
 have hl:=hw.regs.1
 have h8:∀ x ∈ t.regs,x.length=8:=fun x hx=>(hw.regs.2 x hx).1
 have h8':∀ j,j < 3→(t.regs.getD j tz8).length=8:=fun j hj=>hw.r8 hj
 have hp1:∀ k,k < t.code.length→∀ q,q < (t.code.getD k ir0).xs.length→CtrV Tryz.prog 93 [.agg (ienc ((t.code.getD k ir0).xs.getD q inZ)),.s [76]] (.tup [.s (ansT ((t.code.getD k ir0).xs.getD q inZ) [76] (txA 1 ((t.code.getD k ir0).xs.getD q inZ) [76])),.i .i64 (erA 1 ((t.code.getD k ir0).xs.getD q inZ))]):=fun k hk q hq=>by
  have:=Zf6 ((t.code.getD k ir0).xs.getD q inZ) [76] (hw.in_ hk hq).imm (by decide)
  rw [Z91] at this;exact this
 have hp2:∀ k,k < t.code.length→∀ q,q < (t.code.getD k ir0).xs.length→CtrV Tryz.prog 97 [.agg (ienc ((t.code.getD k ir0).xs.getD q inZ)),.s [76]] (.tup [.s (ansT ((t.code.getD k ir0).xs.getD q inZ) [76] (txA 2 ((t.code.getD k ir0).xs.getD q inZ) [76])),.i .i64 (erA 2 ((t.code.getD k ir0).xs.getD q inZ))]):=fun k hk q hq=>by
  have:=ZbS ((t.code.getD k ir0).xs.getD q inZ) [76] (hw.in_ hk hq).imm (by decide)
  rw [Z91] at this;exact this
 have hp3:∀ k,k < t.code.length→∀ q,q < (t.code.getD k ir0).xs.length→CtrV Tryz.prog 101 [.agg (ienc ((t.code.getD k ir0).xs.getD q inZ)),.s [76]] (.tup [.s (ansT ((t.code.getD k ir0).xs.getD q inZ) [76] (txA 3 ((t.code.getD k ir0).xs.getD q inZ) [76])),.i .i64 (erA 3 ((t.code.getD k ir0).xs.getD q inZ))]):=fun k hk q hq=>by
  have:=Zfq ((t.code.getD k ir0).xs.getD q inZ) [76] (hw.in_ hk hq).imm (by decide)
  rw [Z91] at this;exact this
 obtain ⟨ar,name,init,regs,code,ca,cc,qu,cond,da,dc⟩:=t
 simp only at ha hn hl h8 h8' hp1 hp2 hp3 ⊢
 rcases (show ar=1∨ar=2∨ar=3 by omega) with rfl | rfl | rfl <;> rcases (show code.length=1∨code.length=2∨code.length=3 by omega) with h | h | h
 ·exact Z2J 1 _ (by decide) hl h8 (Z7v 1 _ (.inl ⟨rfl,rfl⟩) (erA 1) (fun i=>ansT i [76] (txA 1 i [76])) name init regs code ca cc qu cond da dc h hl h8' hp1)
 ·exact Z2J 2 _ (by decide) hl h8 (Z7w 1 _ (.inl ⟨rfl,rfl⟩) (erA 1) (fun i=>ansT i [76] (txA 1 i [76])) name init regs code ca cc qu cond da dc h hl h8' hp1)
 ·exact Z7x 1 _ (.inl ⟨rfl,rfl⟩) (erA 1) (fun i=>ansT i [76] (txA 1 i [76])) name init regs code ca cc qu cond da dc h hl h8' hp1
 ·exact Z2J 1 _ (by decide) hl h8 (Z7v 2 _ (.inr (.inl ⟨rfl,rfl⟩)) (erA 2) (fun i=>ansT i [76] (txA 2 i [76])) name init regs code ca cc qu cond da dc h hl h8' hp2)
 ·exact Z2J 2 _ (by decide) hl h8 (Z7w 2 _ (.inr (.inl ⟨rfl,rfl⟩)) (erA 2) (fun i=>ansT i [76] (txA 2 i [76])) name init regs code ca cc qu cond da dc h hl h8' hp2)
 ·exact Z7x 2 _ (.inr (.inl ⟨rfl,rfl⟩)) (erA 2) (fun i=>ansT i [76] (txA 2 i [76])) name init regs code ca cc qu cond da dc h hl h8' hp2
 ·exact Z2J 1 _ (by decide) hl h8 (Z7v 3 _ (.inr (.inr ⟨rfl,rfl⟩)) (erA 3) (fun i=>ansT i [76] (txA 3 i [76])) name init regs code ca cc qu cond da dc h hl h8' hp3)
 ·exact Z2J 2 _ (by decide) hl h8 (Z7w 3 _ (.inr (.inr ⟨rfl,rfl⟩)) (erA 3) (fun i=>ansT i [76] (txA 3 i [76])) name init regs code ca cc qu cond da dc h hl h8' hp3)
 ·exact Z7x 3 _ (.inr (.inr ⟨rfl,rfl⟩)) (erA 3) (fun i=>ansT i [76] (txA 3 i [76])) name init regs code ca cc qu cond da dc h hl h8' hp3
structure Right (t:Tst):Prop where
 arch:1≤t.arch∧t.arch≤3
 nm:t.name.length≤16∧Zy t.name=true
 u:UOk t.code
 qu:1≤t.qu∧t.qu≤3
 cond:ZP t.cond=true
 rg:∀ j,t.code.length≤j→j < 3→t.regs.getD j tz8=tz8
theorem Zft {t:Tst} (h:chkT t=0):Right t:=by
 unfold chkT at h
 split at h
 ·cases h
 rename_i ha
 unfold lchk at h
 split at h
 ·cases h
 rename_i h1
 split at h
 ·rename_i h2;exact absurd h h2
 rename_i h2
 split at h
 ·cases h
 split at h
 ·cases h
 rename_i h4
 split at h
 ·cases h
 rename_i h5
 refine ⟨by omega,⟨by omega,?_⟩,(Z43 (by simpa using h2)).2,by omega,?_,fun j hj hj3=>?_⟩
 ·cases hn:Zy t.name with
  | true=>rfl
  | false=>exact absurd (.inr hn) h1
 ·cases hn:ZP t.cond with
  | true=>rfl
  | false=>exact absurd (.inr hn) h4
 ·exact Classical.byContradiction fun hne=>h5 ⟨j,hj,hj3,hne⟩
end SX
end Go.Proofs.YtdddpbmcoimgdaaGreatDoor
