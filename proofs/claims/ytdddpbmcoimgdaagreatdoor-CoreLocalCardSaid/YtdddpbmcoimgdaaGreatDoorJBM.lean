/- A part of SX: symbolic and concrete runs of the program, with contracts of functions; lemmas without further conditions. Shortened by a tool (mini.py). -/
import Derived.Test.YtdddpbmcoimgdaaGreatDoorJAV
import Derived.Test.YtdddpbmcoimgdaaGreatDoorJAW
import Derived.Test.YtdddpbmcoimgdaaGreatDoorJBC
import Derived.Test.YtdddpbmcoimgdaaGreatDoorJAA
set_option linter.unusedVariables false
set_option linter.unusedSimpArgs false
set_option linter.unusedSectionVars false
set_option maxRecDepth 100000
namespace Go.Proofs.YtdddpbmcoimgdaaGreatDoor
namespace SX
open Go Go.Proofs
set_option maxHeartbeats 1000000 in
theorem Zgx (i:In) (lb t:List UInt8) (hb:Zr i=true→XOne i lb t):Ctr Tryz.prog 131 [.ptr 1 1 0 [],.agg (ienc i),.s lb] xH (fun r h'=>r=ansF i lb t∧h'=xH):=by
 refine Ze Z5 (fn:=Tryz.f131) Z Z Z Z Z (Z3s fun _ _=>rfl) Zm ?_
 refine Z4 Z Z Z Z Z Z Z (fun _=>Z4L i 0 1) ?_
 unfold ansF
 cases hf:Zr i with
 | false=>
   refine ⟨fun _=>⟨rfl,_,rfl⟩,fun h=>absurd (ZbB hf) (of_decide_eq_false h)⟩
 | true=>
   have hb:=hb hf
   refine ⟨fun h=>?_,fun _=>?_⟩
   ·have h:rgtF i 0 1=34:=of_decide_eq_true h
    rw [Z8Y hf] at h
    split at h <;> omega
   refine WpC.dr Z5 mixed 0 ?_
   refine Z0 [0,1] Z Z Z Z Z Z (r:=.tup [.s t,.b (!decide (t=[]))]) (fun _ H1 hH=>Z2 hb.1 (fun ρ=>rfl) H1 [0,1] Z Z ⟨hH 0 (by simp),hH 1 (by simp),trivial⟩ rfl) ?_
   refine ⟨by kernel_rfl,?_⟩
   rw [if_neg (by decide)]
   refine ⟨fun h=>?_,fun h=>?_⟩
   ·have h:(!(!decide (t=[])))=true:=h
    have h:t=[]:=by simpa using h
    rw [if_pos h]
    exact ⟨rfl,_,rfl⟩
   ·have h:(!(!decide (t=[])))=false:=h
    have h:¬ t=[]:=by simpa using h
    rw [if_neg h]
    refine Z4 Z Z Z Z Z Z Z (fun _=>Z2X lb) ?_
    refine ⟨fun h2=>?_,fun h2=>?_⟩
    ·have h2:(decide (i.op=9)&&!Zy lb)=true:=h2
     rw [if_pos (by simpa using h2)]
     exact ⟨rfl,_,rfl⟩
    ·have h2:(decide (i.op=9)&&!Zy lb)=false:=h2
     rw [if_neg (by intro hh;rw [hh.2,decide_eq_true hh.1] at h2;cases h2)]
     exact ⟨rfl,_,rfl⟩
theorem ZbR (i:In) (lb t:List UInt8) (hb:Zr i=true→XOne i lb t):CtrV Tryz.prog 93 [.agg (ienc i),.s lb] (ansF i lb t):=by
 have ht:=Zgx i lb t hb
 obtain ⟨x,n,hx⟩:∃ x n,ansF i lb t=.tup [.s x,.i .i64 n]:=Z3s (p:=fun r=>∃ x n,r=.tup [.s x,.i .i64 n]) fun x n=>⟨x,n,rfl⟩
 rw [hx] at ht ⊢
 refine Z8 Z5 (fn:=Tryz.f93) Z Z Z Z Z Z ?_
 refine WpC.dr Z5 mixed 2 ?_
 refine Zq Z Z Z Z [] 2 Z Z Zg5 Z Z Z Z trivial Z Z ?_
 refine Z0 [1,2] Z Z Z Z Z Z (r:=.tup [.s x,.i .i64 n]) (fun _ H1 hH=>Z2 ht (fun ρ=>rfl) H1 [1,2] Z Z ⟨hH 1 (by simp),hH 2 (by simp),trivial⟩ rfl) ?_
 refine ⟨by kernel_rfl,?_⟩
 exact rfl
theorem Zf6 (i:In) (lb:List UInt8) (hi:in64 i.imm) (hl:lb.length≤90000):CtrV Tryz.prog 93 [.agg (ienc i),.s lb] (ansF i lb (pxT i lb)):=ZbR i lb (pxT i lb) fun h=>ZhL i lb h hi hl
end SX
end Go.Proofs.YtdddpbmcoimgdaaGreatDoor
