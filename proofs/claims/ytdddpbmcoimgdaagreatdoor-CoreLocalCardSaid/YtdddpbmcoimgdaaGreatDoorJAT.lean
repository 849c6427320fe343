/- A part of SX: symbolic and concrete runs of the program, with contracts of functions; lemmas without further conditions. Shortened by a tool (mini.py). -/
import Derived.Test.YtdddpbmcoimgdaaGreatDoorJAM
import Derived.Test.YtdddpbmcoimgdaaGreatDoorJAN
import Derived.Test.YtdddpbmcoimgdaaGreatDoorJAA
set_option linter.unusedVariables false
set_option linter.unusedSimpArgs false
set_option linter.unusedSectionVars false
set_option maxRecDepth 100000
namespace Go.Proofs.YtdddpbmcoimgdaaGreatDoor
namespace SX
open Go Go.Proofs
def offF (n:Int):List UInt8:=if n=0 then [] else [43]++Lib.itoa n
def ixF (ns:List (List UInt8)) (n:Int):List UInt8:=if 0≤n then [43]++nmF ns n else []
def atF (ns:List (List UInt8)) (i:In):List UInt8:=(((([91]++locF i.loc)++offF i.off)++ixF ns i.ix)++[93])
theorem Z6U {i:In} (h:accB i=true):(i.loc=0∨i.loc=1∨i.loc=2)∧(0≤i.off∧i.off≤7)∧(i.ix = -1∨(0≤i.ix∧i.ix < 8))∧(i.sz=1∨i.sz=2∨i.sz=4∨i.sz=8):=by
 unfold accB at h
 simp only [Bool.and_eq_true,decide_eq_true_eq,Bool.not_eq_true'] at h
 obtain ⟨⟨⟨h1,h2⟩,h3⟩,h4⟩:=h
 have h5:=Z4J h3
 unfold ixB rgB at h4
 simp only [Bool.or_eq_true,Bool.and_eq_true,decide_eq_true_eq] at h4
 refine ⟨by omega,by omega,h4,by omega⟩
theorem Z45 {n:Int} (h0:0≤n) (h7:n≤7):(Lib.itoa n).length=1:=by
 rcases (by omega:n=0∨n=1∨n=2∨n=3∨n=4∨n=5∨n=6∨n=7) with rfl | rfl | rfl | rfl | rfl | rfl | rfl | rfl <;> decide +kernel
set_option maxHeartbeats 400000 in
theorem Z5o (s0 s1 s2 s3 s4 s5 s6 s7 h:List UInt8) (rd pr:Nat) (hs:∀ n,(nmF [s0,s1,s2,s3,s4,s5,s6,s7] n).length≤3) (i:In) (ha:accB i=true):Ctr Tryz.prog 185 [.ptr 1 1 0 [],.agg (ienc i)] [rowS s0 s1 s2 s3 s4 s5 s6 s7,Zg h rd pr]
 (fun x h'=>x=.s (atF [s0,s1,s2,s3,s4,s5,s6,s7] i)∧h'=[rowS s0 s1 s2 s3 s4 s5 s6 s7,Zg h rd pr]):=by
 obtain ⟨h1,h2,h3,h4⟩:=Z6U ha
 have hi:=Z45 h2.1 h2.2
 have hn:=hs i.ix
 have hl:(locF i.loc).length=1:=rfl
 refine Ze Z5 (fn:=Tryz.f185) Z Z Z Z Z Z Zm ?_
 obtain ⟨op,dst,a,b,imm,loc,off,ix,sz,fn,acq,wk,rel,pr',su,to,ze⟩:=i
 simp only at h1 h2 h3 h4 hi hn hl
 have hat:∀ p q:List UInt8,offF off=p→ixF [s0,s1,s2,s3,s4,s5,s6,s7] ix=q→atF [s0,s1,s2,s3,s4,s5,s6,s7] ⟨op,dst,a,b,imm,loc,off,ix,sz,fn,acq,wk,rel,pr',su,to,ze⟩=(((([91]++locF loc)++p)++q)++[93]):=fun p q hp hq=>by subst hp;subst hq;rfl
 rcases h1 with rfl | rfl | rfl
 ·refine ⟨fun _=>by show (0:Int)≤0∧(0:Int)≤1∧(1:Int)≤3;decide,⟨fun _=>by show (1:Nat)+1≤9223372036854775807;decide,?_⟩⟩
  refine ⟨fun h5=>?_,fun h5=>?_⟩
  ·have h5:(!decide (off=0))=true:=h5
   have h5:¬ off=0:=by simpa using h5
   refine Z4 Z Z Z Z Z Z Z (fun _=>Z6Q off (by omega) (by omega)) ?_
   refine ⟨fun _=>?_,⟨fun _=>?_,?_⟩⟩
   ·show 1+(Lib.itoa off).length≤9223372036854775807
    omega
   ·show (([91]++locF 0):List UInt8).length+([43]++Lib.itoa off).length≤9223372036854775807
    simp;omega
   refine ⟨fun h6=>?_,fun h6=>?_⟩
   ·have h6:(0:Int)≤ix:=of_decide_eq_true h6
    refine Z9 Z Z Z Z Z Z (fun _=>Z2 (Z1h s0 s1 s2 s3 s4 s5 s6 s7 h rd pr ix) (fun ρ=>rfl) _ [0,1] Z Z ⟨rfl,rfl,trivial⟩ rfl) ?_
    refine ⟨fun _=>?_,⟨fun _=>?_,⟨fun _=>?_,⟨s_cg (hat _ _ (if_neg h5) (if_pos h6)).symm,_,rfl⟩⟩⟩⟩
    ·show 1+(nmF [s0,s1,s2,s3,s4,s5,s6,s7] ix).length≤9223372036854775807
     omega
    ·show ((([91]++locF 0):List UInt8)++([43]++Lib.itoa off)).length+([43]++nmF [s0,s1,s2,s3,s4,s5,s6,s7] ix).length≤9223372036854775807
     simp;omega
    ·show (((([91]++locF 0):List UInt8)++([43]++Lib.itoa off))++([43]++nmF [s0,s1,s2,s3,s4,s5,s6,s7] ix)).length+1≤9223372036854775807
     simp;omega
   ·have h6:¬ (0:Int)≤ix:=of_decide_eq_false h6
    refine ⟨fun _=>?_,⟨s_cg ?_,_,rfl⟩⟩
    ·show ((([91]++locF 0):List UInt8)++([43]++Lib.itoa off)).length+1≤9223372036854775807
     simp <;> omega
    ·rw [hat _ _ (if_neg h5) (if_neg h6),List.append_nil]
     rfl
  ·have h5:(!decide (off=0))=false:=h5
   have h5:off=0:=by simpa using h5
   refine ⟨fun h6=>?_,fun h6=>?_⟩
   ·have h6:(0:Int)≤ix:=of_decide_eq_true h6
    refine Z9 Z Z Z Z Z Z (fun _=>Z2 (Z1h s0 s1 s2 s3 s4 s5 s6 s7 h rd pr ix) (fun ρ=>rfl) _ [0,1] Z Z ⟨rfl,rfl,trivial⟩ rfl) ?_
    refine ⟨fun _=>?_,⟨fun _=>?_,⟨fun _=>?_,⟨s_cg (hat _ _ (if_pos h5) (if_pos h6)).symm,_,rfl⟩⟩⟩⟩
    ·show 1+(nmF [s0,s1,s2,s3,s4,s5,s6,s7] ix).length≤9223372036854775807
     omega
    ·show (([91]++locF 0):List UInt8).length+([43]++nmF [s0,s1,s2,s3,s4,s5,s6,s7] ix).length≤9223372036854775807
     simp;omega
    ·show ((([91]++locF 0):List UInt8)++([43]++nmF [s0,s1,s2,s3,s4,s5,s6,s7] ix)).length+1≤9223372036854775807
     simp;omega
   ·have h6:¬ (0:Int)≤ix:=of_decide_eq_false h6
    refine ⟨fun _=>?_,⟨s_cg ?_,_,rfl⟩⟩
    ·show (([91]++locF 0):List UInt8).length+1≤9223372036854775807
     simp <;> omega
    ·rw [hat _ _ (if_pos h5) (if_neg h6),List.append_nil,List.append_nil]
     rfl
 ·refine ⟨fun _=>by show (0:Int)≤1∧(1:Int)≤2∧(2:Int)≤3;decide,⟨fun _=>by show (1:Nat)+1≤9223372036854775807;decide,?_⟩⟩
  refine ⟨fun h5=>?_,fun h5=>?_⟩
  ·have h5:(!decide (off=0))=true:=h5
   have h5:¬ off=0:=by simpa using h5
   refine Z4 Z Z Z Z Z Z Z (fun _=>Z6Q off (by omega) (by omega)) ?_
   refine ⟨fun _=>?_,⟨fun _=>?_,?_⟩⟩
   ·show 1+(Lib.itoa off).length≤9223372036854775807
    omega
   ·show (([91]++locF 1):List UInt8).length+([43]++Lib.itoa off).length≤9223372036854775807
    simp;omega
   refine ⟨fun h6=>?_,fun h6=>?_⟩
   ·have h6:(0:Int)≤ix:=of_decide_eq_true h6
    refine Z9 Z Z Z Z Z Z (fun _=>Z2 (Z1h s0 s1 s2 s3 s4 s5 s6 s7 h rd pr ix) (fun ρ=>rfl) _ [0,1] Z Z ⟨rfl,rfl,trivial⟩ rfl) ?_
    refine ⟨fun _=>?_,⟨fun _=>?_,⟨fun _=>?_,⟨s_cg (hat _ _ (if_neg h5) (if_pos h6)).symm,_,rfl⟩⟩⟩⟩
    ·show 1+(nmF [s0,s1,s2,s3,s4,s5,s6,s7] ix).length≤9223372036854775807
     omega
    ·show ((([91]++locF 1):List UInt8)++([43]++Lib.itoa off)).length+([43]++nmF [s0,s1,s2,s3,s4,s5,s6,s7] ix).length≤9223372036854775807
     simp;omega
    ·show (((([91]++locF 1):List UInt8)++([43]++Lib.itoa off))++([43]++nmF [s0,s1,s2,s3,s4,s5,s6,s7] ix)).length+1≤9223372036854775807
     simp;omega
   ·have h6:¬ (0:Int)≤ix:=of_decide_eq_false h6
    refine ⟨fun _=>?_,⟨s_cg ?_,_,rfl⟩⟩
    ·show ((([91]++locF 1):List UInt8)++([43]++Lib.itoa off)).length+1≤9223372036854775807
     simp <;> omega
    ·rw [hat _ _ (if_neg h5) (if_neg h6),List.append_nil]
     rfl
  ·have h5:(!decide (off=0))=false:=h5
   have h5:off=0:=by simpa using h5
   refine ⟨fun h6=>?_,fun h6=>?_⟩
   ·have h6:(0:Int)≤ix:=of_decide_eq_true h6
    refine Z9 Z Z Z Z Z Z (fun _=>Z2 (Z1h s0 s1 s2 s3 s4 s5 s6 s7 h rd pr ix) (fun ρ=>rfl) _ [0,1] Z Z ⟨rfl,rfl,trivial⟩ rfl) ?_
    refine ⟨fun _=>?_,⟨fun _=>?_,⟨fun _=>?_,⟨s_cg (hat _ _ (if_pos h5) (if_pos h6)).symm,_,rfl⟩⟩⟩⟩
    ·show 1+(nmF [s0,s1,s2,s3,s4,s5,s6,s7] ix).length≤9223372036854775807
     omega
    ·show (([91]++locF 1):List UInt8).length+([43]++nmF [s0,s1,s2,s3,s4,s5,s6,s7] ix).length≤9223372036854775807
     simp;omega
    ·show ((([91]++locF 1):List UInt8)++([43]++nmF [s0,s1,s2,s3,s4,s5,s6,s7] ix)).length+1≤9223372036854775807
     simp;omega
   ·have h6:¬ (0:Int)≤ix:=of_decide_eq_false h6
    refine ⟨fun _=>?_,⟨s_cg ?_,_,rfl⟩⟩
    ·show (([91]++locF 1):List UInt8).length+1≤9223372036854775807
     simp <;> omega
    ·rw [hat _ _ (if_pos h5) (if_neg h6),List.append_nil,List.append_nil]
     rfl
 ·refine ⟨fun _=>by show (0:Int)≤2∧(2:Int)≤3∧(3:Int)≤3;decide,⟨fun _=>by show (1:Nat)+1≤9223372036854775807;decide,?_⟩⟩
  refine ⟨fun h5=>?_,fun h5=>?_⟩
  ·have h5:(!decide (off=0))=true:=h5
   have h5:¬ off=0:=by simpa using h5
   refine Z4 Z Z Z Z Z Z Z (fun _=>Z6Q off (by omega) (by omega)) ?_
   refine ⟨fun _=>?_,⟨fun _=>?_,?_⟩⟩
   ·show 1+(Lib.itoa off).length≤9223372036854775807
    omega
   ·show (([91]++locF 2):List UInt8).length+([43]++Lib.itoa off).length≤9223372036854775807
    simp;omega
   refine ⟨fun h6=>?_,fun h6=>?_⟩
   ·have h6:(0:Int)≤ix:=of_decide_eq_true h6
    refine Z9 Z Z Z Z Z Z (fun _=>Z2 (Z1h s0 s1 s2 s3 s4 s5 s6 s7 h rd pr ix) (fun ρ=>rfl) _ [0,1] Z Z ⟨rfl,rfl,trivial⟩ rfl) ?_
    refine ⟨fun _=>?_,⟨fun _=>?_,⟨fun _=>?_,⟨s_cg (hat _ _ (if_neg h5) (if_pos h6)).symm,_,rfl⟩⟩⟩⟩
    ·show 1+(nmF [s0,s1,s2,s3,s4,s5,s6,s7] ix).length≤9223372036854775807
     omega
    ·show ((([91]++locF 2):List UInt8)++([43]++Lib.itoa off)).length+([43]++nmF [s0,s1,s2,s3,s4,s5,s6,s7] ix).length≤9223372036854775807
     simp;omega
    ·show (((([91]++locF 2):List UInt8)++([43]++Lib.itoa off))++([43]++nmF [s0,s1,s2,s3,s4,s5,s6,s7] ix)).length+1≤9223372036854775807
     simp;omega
   ·have h6:¬ (0:Int)≤ix:=of_decide_eq_false h6
    refine ⟨fun _=>?_,⟨s_cg ?_,_,rfl⟩⟩
    ·show ((([91]++locF 2):List UInt8)++([43]++Lib.itoa off)).length+1≤9223372036854775807
     simp <;> omega
    ·rw [hat _ _ (if_neg h5) (if_neg h6),List.append_nil]
     rfl
  ·have h5:(!decide (off=0))=false:=h5
   have h5:off=0:=by simpa using h5
   refine ⟨fun h6=>?_,fun h6=>?_⟩
   ·have h6:(0:Int)≤ix:=of_decide_eq_true h6
    refine Z9 Z Z Z Z Z Z (fun _=>Z2 (Z1h s0 s1 s2 s3 s4 s5 s6 s7 h rd pr ix) (fun ρ=>rfl) _ [0,1] Z Z ⟨rfl,rfl,trivial⟩ rfl) ?_
    refine ⟨fun _=>?_,⟨fun _=>?_,⟨fun _=>?_,⟨s_cg (hat _ _ (if_pos h5) (if_pos h6)).symm,_,rfl⟩⟩⟩⟩
    ·show 1+(nmF [s0,s1,s2,s3,s4,s5,s6,s7] ix).length≤9223372036854775807
     omega
    ·show (([91]++locF 2):List UInt8).length+([43]++nmF [s0,s1,s2,s3,s4,s5,s6,s7] ix).length≤9223372036854775807
     simp;omega
    ·show ((([91]++locF 2):List UInt8)++([43]++nmF [s0,s1,s2,s3,s4,s5,s6,s7] ix)).length+1≤9223372036854775807
     simp;omega
   ·have h6:¬ (0:Int)≤ix:=of_decide_eq_false h6
    refine ⟨fun _=>?_,⟨s_cg ?_,_,rfl⟩⟩
    ·show (([91]++locF 2):List UInt8).length+1≤9223372036854775807
     simp <;> omega
    ·rw [hat _ _ (if_pos h5) (if_neg h6),List.append_nil,List.append_nil]
     rfl
end SX
end Go.Proofs.YtdddpbmcoimgdaaGreatDoor
