/- A part of SX: symbolic and concrete runs of the program, with contracts of functions; lemmas without further conditions. Shortened by a tool (mini.py). -/
import Derived.Test.YtdddpbmcoimgdaaGreatDoorJAC
import Derived.Test.YtdddpbmcoimgdaaGreatDoorJAE
import Derived.Test.YtdddpbmcoimgdaaGreatDoorJAH
import Derived.Test.YtdddpbmcoimgdaaGreatDoorJAA
set_option linter.unusedVariables false
set_option linter.unusedSimpArgs false
set_option linter.unusedSectionVars false
set_option maxRecDepth 100000
namespace Go.Proofs.YtdddpbmcoimgdaaGreatDoor
namespace SX
open Go Go.Proofs
theorem Z40 {x y:Int} (h:x=y):SV.i .i64 x=SV.i .i64 y:=by rw [h]
theorem fd_w {k:Nat} (h:k≤100):IntKind.i64.wrap ((k:Int)+1)=((k+1:Nat):Int):=by
 have e:∀ k:Nat,k≤100→IntKind.i64.wrap ((k:Int)+1)=((k+1:Nat):Int):=by decide +kernel
 exact e k h
theorem fd_u {x y:Int} (h:x=y):SV.i .u8 x=SV.i .u8 y:=by rw [h]
def row8 (l:List (List UInt8)):SB:=.mem 9 [.s (l.getD 0 []),.s (l.getD 1 []),.s (l.getD 2 []),.s (l.getD 3 []),.s (l.getD 4 []),.s (l.getD 5 []),.s (l.getD 6 []),.s (l.getD 7 [])] 1 0
theorem Z1u {N:Nat} {l:List (List UInt8)}:BndH N [row8 l]:=⟨⟨rfl,rfl,rfl,rfl,rfl,rfl,rfl,rfl,trivial⟩,trivial⟩
def wds_x86:List (List UInt8):=[[82,65,88],[82,66,88],[82,67,88],[82,68,88],[82,83,73],[82,68,73],[82,56],[82,57]]
def Zh7 (j:Nat):List (List UInt8):=wds_x86.take j
set_option maxHeartbeats 16000000 in
theorem Zd9:Ctr Tryz.prog 150 [.s [82,65,88,32,82,66,88,32,82,67,88,32,82,68,88,32,82,83,73,32,82,68,73,32,82,56,32,82,57]] [] (fun r h=>r=.sl 0 1 0 8 (some 8) 0∧h=[row8 wds_x86]):=by
 refine ZE Z5 (fn:=Tryz.f150) Z Z Z Z Z Z Z1u (Nat.zero_le _) ?_
 refine WpC.loop Z5 (β:=Nat) (fun k=>k≤29) (fun k=>[(6,.i .i64 k),(3,.i .i64 (([0,1,1,1,1,2,2,2,2,3,3,3,3,4,4,4,4,5,5,5,5,6,6,6,6,7,7,7,8,8]:List Int).getD k 0)),(4,.i .i64 (([1,0,0,0,1,0,0,0,1,0,0,0,1,0,0,0,1,0,0,0,1,0,0,0,1,0,0,1,0,0]:List Int).getD k 0)),(5,.i .u8 (([0,82,83,91,123,123,123,123,123,123,123,123,123,123,127,127,127,127,127,127,127,127,127,127,127,127,127,127,127,127]:List Int).getD k 0))]) (fun _=>[]) (fun k=>29 - k) 0 68719469048 (Nat.zero_le _) ?_ ?_
 ·exact ⟨rfl,⟨⟨rfl,rfl,rfl⟩,⟨rfl,rfl,rfl⟩,⟨rfl,rfl,rfl⟩,⟨rfl,rfl,rfl⟩,trivial⟩,⟨[],rfl⟩,trivial,rfl⟩
 intro k hk
 by_cases hlt:k < 29
 ·refine ⟨fun _=>?_,fun h=>absurd (of_decide_eq_false h) (by show ¬ ¬ (k:Int) < ((29:Nat):Int);omega)⟩
  refine ⟨fun _=>(show (0:Int)≤(k:Int)∧(k:Int) < ((29:Nat):Int) by omega),?_⟩
  iterate 2 refine ⟨fun _=>(by clear hk;revert k;decide +kernel),?_⟩
  exact ⟨k+1,hlt,by omega,rfl,⟨⟨Z40 (by rw [fd_w (by omega)]),rfl,rfl⟩,⟨Z40 (by clear hk;revert k;decide +kernel),rfl,rfl⟩,⟨Z40 (by clear hk;revert k;decide +kernel),rfl,rfl⟩,⟨fd_u (by clear hk;revert k;decide +kernel),rfl,rfl⟩,trivial⟩,⟨_,rfl⟩,trivial,rfl⟩
 have hkL:k=29:=by omega
 subst hkL
 iterate 2 refine ⟨fun h=>absurd (of_decide_eq_true h) (by decide),fun _=>?_⟩
 refine OpC.yld 1 rfl (Z7m Z5 Z Z Z Z Z (n:=8) (p:=0) Z Z (by decide) (by decide) (by decide) rfl) (fun d hd=>by cases hd;rfl) ?_
 refine WpC.rounds Z5 1 ?_
 refine ⟨fun _=>(by decide),?_⟩
 iterate 2 refine ⟨fun _=>(by decide +kernel),?_⟩
 refine ⟨fun h=>absurd h (by decide +kernel),fun _=>?_⟩
 refine WpC.loop Z5 (β:=Nat) (fun k=>k≤29) (fun k=>[(12,.i .i64 k),(10,.i .i64 (([0,0,0,0,1,1,1,1,2,2,2,2,3,3,3,3,4,4,4,4,5,5,5,5,6,6,6,7,7,7]:List Int).getD k 0)),(11,.i .i64 (([0,0,0,0,4,4,4,4,8,8,8,8,12,12,12,12,16,16,16,16,20,20,20,20,24,24,24,27,27,27]:List Int).getD k 0))]) (fun k=>[row8 (Zh7 (([0,0,0,0,1,1,1,1,2,2,2,2,3,3,3,3,4,4,4,4,5,5,5,5,6,6,6,7,7,7]:List Nat).getD k 0))]) (fun k=>29 - k) 0 39614081256988053608696126464 (Nat.zero_le _) ?_ ?_
 ·exact ⟨rfl,⟨⟨rfl,rfl,rfl⟩,⟨rfl,rfl,rfl⟩,⟨rfl,rfl,rfl⟩,trivial⟩,⟨[],rfl⟩,Z1u,rfl⟩
 intro k hk
 by_cases hlt:k < 29
 ·rcases (show k=0∨k=1∨k=2∨k=3∨k=4∨k=5∨k=6∨k=7∨k=8∨k=9∨k=10∨k=11∨k=12∨k=13∨k=14∨k=15∨k=16∨k=17∨k=18∨k=19∨k=20∨k=21∨k=22∨k=23∨k=24∨k=25∨k=26∨k=27∨k=28 by omega) with rfl | rfl | rfl | rfl | rfl | rfl | rfl | rfl | rfl | rfl | rfl | rfl | rfl | rfl | rfl | rfl | rfl | rfl | rfl | rfl | rfl | rfl | rfl | rfl | rfl | rfl | rfl | rfl | rfl
  all_goals
   refine ⟨fun _=>?_,fun h=>absurd h (by decide)⟩
   refine ⟨fun _=>(by decide),?_⟩
   iterate 2 refine ⟨fun _=>(by decide +kernel),?_⟩
   first
   | refine ⟨fun _=>?_,fun h=>absurd h (by decide +kernel)⟩
     exact ⟨_,hlt,by decide,rfl,⟨⟨rfl,rfl,rfl⟩,⟨rfl,rfl,rfl⟩,⟨rfl,rfl,rfl⟩,trivial⟩,⟨_,rfl⟩,Z1u,rfl⟩
   | refine ⟨fun h=>absurd h (by decide +kernel),fun _=>?_⟩
     iterate 2 refine ⟨fun _=>(by decide),?_⟩
     refine WpC.rounds Z5 1 ?_
     refine ⟨fun _=>(by decide),?_⟩
     iterate 2 refine ⟨fun _=>(by decide +kernel),?_⟩
     refine ⟨fun h=>absurd h (by decide +kernel),fun _=>?_⟩
     exact ⟨_,hlt,by decide,rfl,⟨⟨rfl,rfl,rfl⟩,⟨rfl,rfl,rfl⟩,⟨rfl,rfl,rfl⟩,trivial⟩,⟨_,rfl⟩,Z1u,rfl⟩
 have hkL:k=29:=by omega
 subst hkL
 refine ⟨fun h=>absurd h (by decide),fun _=>?_⟩
 refine ⟨fun _=>?_,fun h=>absurd h (by decide)⟩
 iterate 2 refine ⟨fun _=>(by decide),?_⟩
 exact ⟨rfl,_,rfl⟩
def wds_riscv:List (List UInt8):=[[97,48],[97,49],[97,50],[97,51],[97,52],[97,53],[97,54],[97,55]]
def ZeF (j:Nat):List (List UInt8):=wds_riscv.take j
set_option maxHeartbeats 16000000 in
theorem Zbm:Ctr Tryz.prog 150 [.s [97,48,32,97,49,32,97,50,32,97,51,32,97,52,32,97,53,32,97,54,32,97,55]] [] (fun r h=>r=.sl 0 1 0 8 (some 8) 0∧h=[row8 wds_riscv]):=by
 refine ZE Z5 (fn:=Tryz.f150) Z Z Z Z Z Z Z1u (Nat.zero_le _) ?_
 refine WpC.loop Z5 (β:=Nat) (fun k=>k≤23) (fun k=>[(6,.i .i64 k),(3,.i .i64 (([0,1,1,1,2,2,2,3,3,3,4,4,4,5,5,5,6,6,6,7,7,7,8,8]:List Int).getD k 0)),(4,.i .i64 (([1,0,0,1,0,0,1,0,0,1,0,0,1,0,0,1,0,0,1,0,0,1,0,0]:List Int).getD k 0)),(5,.i .u8 (([0,97,113,113,113,113,113,113,115,115,115,115,115,115,119,119,119,119,119,119,119,119,119,119]:List Int).getD k 0))]) (fun _=>[]) (fun k=>23 - k) 0 68719469048 (Nat.zero_le _) ?_ ?_
 ·exact ⟨rfl,⟨⟨rfl,rfl,rfl⟩,⟨rfl,rfl,rfl⟩,⟨rfl,rfl,rfl⟩,⟨rfl,rfl,rfl⟩,trivial⟩,⟨[],rfl⟩,trivial,rfl⟩
 intro k hk
 by_cases hlt:k < 23
 ·refine ⟨fun _=>?_,fun h=>absurd (of_decide_eq_false h) (by show ¬ ¬ (k:Int) < ((23:Nat):Int);omega)⟩
  refine ⟨fun _=>(show (0:Int)≤(k:Int)∧(k:Int) < ((23:Nat):Int) by omega),?_⟩
  iterate 2 refine ⟨fun _=>(by clear hk;revert k;decide +kernel),?_⟩
  exact ⟨k+1,hlt,by omega,rfl,⟨⟨Z40 (by rw [fd_w (by omega)]),rfl,rfl⟩,⟨Z40 (by clear hk;revert k;decide +kernel),rfl,rfl⟩,⟨Z40 (by clear hk;revert k;decide +kernel),rfl,rfl⟩,⟨fd_u (by clear hk;revert k;decide +kernel),rfl,rfl⟩,trivial⟩,⟨_,rfl⟩,trivial,rfl⟩
 have hkL:k=23:=by omega
 subst hkL
 iterate 2 refine ⟨fun h=>absurd (of_decide_eq_true h) (by decide),fun _=>?_⟩
 refine OpC.yld 1 rfl (Z7m Z5 Z Z Z Z Z (n:=8) (p:=0) Z Z (by decide) (by decide) (by decide) rfl) (fun d hd=>by cases hd;rfl) ?_
 refine WpC.rounds Z5 1 ?_
 refine ⟨fun _=>(by decide),?_⟩
 iterate 2 refine ⟨fun _=>(by decide +kernel),?_⟩
 refine ⟨fun h=>absurd h (by decide +kernel),fun _=>?_⟩
 refine WpC.loop Z5 (β:=Nat) (fun k=>k≤23) (fun k=>[(12,.i .i64 k),(10,.i .i64 (([0,0,0,1,1,1,2,2,2,3,3,3,4,4,4,5,5,5,6,6,6,7,7,7]:List Int).getD k 0)),(11,.i .i64 (([0,0,0,3,3,3,6,6,6,9,9,9,12,12,12,15,15,15,18,18,18,21,21,21]:List Int).getD k 0))]) (fun k=>[row8 (ZeF (([0,0,0,1,1,1,2,2,2,3,3,3,4,4,4,5,5,5,6,6,6,7,7,7]:List Nat).getD k 0))]) (fun k=>23 - k) 0 39614081256988053608696126464 (Nat.zero_le _) ?_ ?_
 ·exact ⟨rfl,⟨⟨rfl,rfl,rfl⟩,⟨rfl,rfl,rfl⟩,⟨rfl,rfl,rfl⟩,trivial⟩,⟨[],rfl⟩,Z1u,rfl⟩
 intro k hk
 by_cases hlt:k < 23
 ·rcases (show k=0∨k=1∨k=2∨k=3∨k=4∨k=5∨k=6∨k=7∨k=8∨k=9∨k=10∨k=11∨k=12∨k=13∨k=14∨k=15∨k=16∨k=17∨k=18∨k=19∨k=20∨k=21∨k=22 by omega) with rfl | rfl | rfl | rfl | rfl | rfl | rfl | rfl | rfl | rfl | rfl | rfl | rfl | rfl | rfl | rfl | rfl | rfl | rfl | rfl | rfl | rfl | rfl
  all_goals
   refine ⟨fun _=>?_,fun h=>absurd h (by decide)⟩
   refine ⟨fun _=>(by decide),?_⟩
   iterate 2 refine ⟨fun _=>(by decide +kernel),?_⟩
   first
   | refine ⟨fun _=>?_,fun h=>absurd h (by decide +kernel)⟩
     exact ⟨_,hlt,by decide,rfl,⟨⟨rfl,rfl,rfl⟩,⟨rfl,rfl,rfl⟩,⟨rfl,rfl,rfl⟩,trivial⟩,⟨_,rfl⟩,Z1u,rfl⟩
   | refine ⟨fun h=>absurd h (by decide +kernel),fun _=>?_⟩
     iterate 2 refine ⟨fun _=>(by decide),?_⟩
     refine WpC.rounds Z5 1 ?_
     refine ⟨fun _=>(by decide),?_⟩
     iterate 2 refine ⟨fun _=>(by decide +kernel),?_⟩
     refine ⟨fun h=>absurd h (by decide +kernel),fun _=>?_⟩
     exact ⟨_,hlt,by decide,rfl,⟨⟨rfl,rfl,rfl⟩,⟨rfl,rfl,rfl⟩,⟨rfl,rfl,rfl⟩,trivial⟩,⟨_,rfl⟩,Z1u,rfl⟩
 have hkL:k=23:=by omega
 subst hkL
 refine ⟨fun h=>absurd h (by decide),fun _=>?_⟩
 refine ⟨fun _=>?_,fun h=>absurd h (by decide)⟩
 iterate 2 refine ⟨fun _=>(by decide),?_⟩
 exact ⟨rfl,_,rfl⟩
def wds_arm:List (List UInt8):=[[88,48],[88,49],[88,50],[88,51],[88,52],[88,53],[88,54],[88,55]]
def Zh8 (j:Nat):List (List UInt8):=wds_arm.take j
set_option maxHeartbeats 16000000 in
theorem Zda:Ctr Tryz.prog 150 [.s [88,48,32,88,49,32,88,50,32,88,51,32,88,52,32,88,53,32,88,54,32,88,55]] [] (fun r h=>r=.sl 0 1 0 8 (some 8) 0∧h=[row8 wds_arm]):=by
 refine ZE Z5 (fn:=Tryz.f150) Z Z Z Z Z Z Z1u (Nat.zero_le _) ?_
 refine WpC.loop Z5 (β:=Nat) (fun k=>k≤23) (fun k=>[(6,.i .i64 k),(3,.i .i64 (([0,1,1,1,2,2,2,3,3,3,4,4,4,5,5,5,6,6,6,7,7,7,8,8]:List Int).getD k 0)),(4,.i .i64 (([1,0,0,1,0,0,1,0,0,1,0,0,1,0,0,1,0,0,1,0,0,1,0,0]:List Int).getD k 0)),(5,.i .u8 (([0,88,120,120,120,121,121,121,123,123,123,123,123,123,127,127,127,127,127,127,127,127,127,127]:List Int).getD k 0))]) (fun _=>[]) (fun k=>23 - k) 0 68719469048 (Nat.zero_le _) ?_ ?_
 ·exact ⟨rfl,⟨⟨rfl,rfl,rfl⟩,⟨rfl,rfl,rfl⟩,⟨rfl,rfl,rfl⟩,⟨rfl,rfl,rfl⟩,trivial⟩,⟨[],rfl⟩,trivial,rfl⟩
 intro k hk
 by_cases hlt:k < 23
 ·refine ⟨fun _=>?_,fun h=>absurd (of_decide_eq_false h) (by show ¬ ¬ (k:Int) < ((23:Nat):Int);omega)⟩
  refine ⟨fun _=>(show (0:Int)≤(k:Int)∧(k:Int) < ((23:Nat):Int) by omega),?_⟩
  iterate 2 refine ⟨fun _=>(by clear hk;revert k;decide +kernel),?_⟩
  exact ⟨k+1,hlt,by omega,rfl,⟨⟨Z40 (by rw [fd_w (by omega)]),rfl,rfl⟩,⟨Z40 (by clear hk;revert k;decide +kernel),rfl,rfl⟩,⟨Z40 (by clear hk;revert k;decide +kernel),rfl,rfl⟩,⟨fd_u (by clear hk;revert k;decide +kernel),rfl,rfl⟩,trivial⟩,⟨_,rfl⟩,trivial,rfl⟩
 have hkL:k=23:=by omega
 subst hkL
 iterate 2 refine ⟨fun h=>absurd (of_decide_eq_true h) (by decide),fun _=>?_⟩
 refine OpC.yld 1 rfl (Z7m Z5 Z Z Z Z Z (n:=8) (p:=0) Z Z (by decide) (by decide) (by decide) rfl) (fun d hd=>by cases hd;rfl) ?_
 refine WpC.rounds Z5 1 ?_
 refine ⟨fun _=>(by decide),?_⟩
 iterate 2 refine ⟨fun _=>(by decide +kernel),?_⟩
 refine ⟨fun h=>absurd h (by decide +kernel),fun _=>?_⟩
 refine WpC.loop Z5 (β:=Nat) (fun k=>k≤23) (fun k=>[(12,.i .i64 k),(10,.i .i64 (([0,0,0,1,1,1,2,2,2,3,3,3,4,4,4,5,5,5,6,6,6,7,7,7]:List Int).getD k 0)),(11,.i .i64 (([0,0,0,3,3,3,6,6,6,9,9,9,12,12,12,15,15,15,18,18,18,21,21,21]:List Int).getD k 0))]) (fun k=>[row8 (Zh8 (([0,0,0,1,1,1,2,2,2,3,3,3,4,4,4,5,5,5,6,6,6,7,7,7]:List Nat).getD k 0))]) (fun k=>23 - k) 0 39614081256988053608696126464 (Nat.zero_le _) ?_ ?_
 ·exact ⟨rfl,⟨⟨rfl,rfl,rfl⟩,⟨rfl,rfl,rfl⟩,⟨rfl,rfl,rfl⟩,trivial⟩,⟨[],rfl⟩,Z1u,rfl⟩
 intro k hk
 by_cases hlt:k < 23
 ·rcases (show k=0∨k=1∨k=2∨k=3∨k=4∨k=5∨k=6∨k=7∨k=8∨k=9∨k=10∨k=11∨k=12∨k=13∨k=14∨k=15∨k=16∨k=17∨k=18∨k=19∨k=20∨k=21∨k=22 by omega) with rfl | rfl | rfl | rfl | rfl | rfl | rfl | rfl | rfl | rfl | rfl | rfl | rfl | rfl | rfl | rfl | rfl | rfl | rfl | rfl | rfl | rfl | rfl
  all_goals
   refine ⟨fun _=>?_,fun h=>absurd h (by decide)⟩
   refine ⟨fun _=>(by decide),?_⟩
   iterate 2 refine ⟨fun _=>(by decide +kernel),?_⟩
   first
   | refine ⟨fun _=>?_,fun h=>absurd h (by decide +kernel)⟩
     exact ⟨_,hlt,by decide,rfl,⟨⟨rfl,rfl,rfl⟩,⟨rfl,rfl,rfl⟩,⟨rfl,rfl,rfl⟩,trivial⟩,⟨_,rfl⟩,Z1u,rfl⟩
   | refine ⟨fun h=>absurd h (by decide +kernel),fun _=>?_⟩
     iterate 2 refine ⟨fun _=>(by decide),?_⟩
     refine WpC.rounds Z5 1 ?_
     refine ⟨fun _=>(by decide),?_⟩
     iterate 2 refine ⟨fun _=>(by decide +kernel),?_⟩
     refine ⟨fun h=>absurd h (by decide +kernel),fun _=>?_⟩
     exact ⟨_,hlt,by decide,rfl,⟨⟨rfl,rfl,rfl⟩,⟨rfl,rfl,rfl⟩,⟨rfl,rfl,rfl⟩,trivial⟩,⟨_,rfl⟩,Z1u,rfl⟩
 have hkL:k=23:=by omega
 subst hkL
 refine ⟨fun h=>absurd h (by decide),fun _=>?_⟩
 refine ⟨fun _=>?_,fun h=>absurd h (by decide)⟩
 iterate 2 refine ⟨fun _=>(by decide),?_⟩
 exact ⟨rfl,_,rfl⟩
end SX
end Go.Proofs.YtdddpbmcoimgdaaGreatDoor
