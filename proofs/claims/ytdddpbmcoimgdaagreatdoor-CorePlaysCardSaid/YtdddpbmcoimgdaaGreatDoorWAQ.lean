/- A part of SX: symbolic and concrete runs of the program, with contracts of functions; lemmas without further conditions. Shortened by a tool (mini.py). -/
import Derived.Test.YtdddpbmcoimgdaaGreatDoorWAM
import Derived.Test.YtdddpbmcoimgdaaGreatDoorWAA
set_option linter.unusedVariables false
set_option linter.unusedSimpArgs false
set_option linter.unusedSectionVars false
set_option maxRecDepth 100000
namespace Go.Proofs.YtdddpbmcoimgdaaGreatDoor
namespace SX
open Go Go.Proofs
theorem Z6T {v n:Nat} {ts:List Thr} {k:Nat} (hk:k < n) (hv:v≠0) (h:stdB (ts.getD k thr0)=true):Ctr Tryz.prog 18 [.ptr 0 1 0 [],.i .i64 k] (ZC v n ts) (fun r H=>r=.tup [.agg (ienc ((ts.getD k thr0).r.xs.getD (ts.getD k thr0).k inZ)),.b true]∧H=ZC v n ts):=by
 have:=Z2w v n ts k hk hv
 unfold rdyV at this
 rw [if_pos h,h] at this;exact this
theorem Zac {v n:Nat} {ts:List Thr} {k:Nat} (hk:k < n) (hv:v≠0) (h:stdB (ts.getD k thr0)=false):Ctr Tryz.prog 18 [.ptr 0 1 0 [],.i .i64 k] (ZC v n ts) (fun r H=>r=.tup [.agg (ienc inZ),.b false]∧H=ZC v n ts):=by
 have:=Z2w v n ts k hk hv
 unfold rdyV at this
 rw [if_neg (by rw [h];decide),h] at this;exact this
def ixV (g:List Int) (i:In):Int:=if decide (0≤i.ix)=true then regV g i.ix else 0
def mskI (g:List Int) (i:In):Int:=mskF (plcF i.off (ixV g i) i.sz) i.sz
def dtmI (g:List Int) (i:In):Int:=if decide (i.op=6)=true then regV g i.a else if (decide (i.op=5)&&decide (i.a < 0))=true then getF i.imm 0 i.sz else if decide (i.op=5)=true then getF (regV g i.a) 0 i.sz else 0
def sptI (g:List Int) (i:In):SV:=.tup [.agg [.i .i64 i.loc,.i .i64 (mskI g i)],.i .i64 (dtmI g i),.b true]
def sptN:SV:=.tup [.agg [.i .i64 0,.i .i64 0],.i .i64 0,.b false]
def sptV (t:Thr):SV:=if (stdB t&&memB (t.r.xs.getD t.k inZ))=true then sptI t.g (t.r.xs.getD t.k inZ) else sptN
theorem ZgS (v n:Nat) (ts:List Thr) (k:Nat) (hk:k < n) (hv:v≠0) (h:stdB (ts.getD k thr0)=false):Ctr Tryz.prog 41 [.ptr 0 1 0 [],.i .i64 k] (ZC v n ts) (fun r H=>r=sptN∧H=ZC v n ts):=by
 refine Za Zc (fn:=Tryz.f41) Z Z Z Z Z Z (Z1a hv) ?_
 refine Zs Z Z Z Z [0,1] rfl (Zac hk hv h) Z Z Z Z ⟨rfl,rfl,trivial⟩ rfl ?_
 refine Z1z Z Z (.sl 3 1 0 1 (some 1) 0) ?_
 refine Z1z Z Z (.i .i64 0) ?_
 exact ⟨fun _=>⟨rfl,_,rfl⟩,fun h=>Zl h⟩
theorem Zfu (v n:Nat) (ts:List Thr) (k:Nat) (hk:k < n) (hv:v≠0) (h:stdB (ts.getD k thr0)=true) (hm:memB ((ts.getD k thr0).r.xs.getD (ts.getD k thr0).k inZ)=false):Ctr Tryz.prog 41 [.ptr 0 1 0 [],.i .i64 k] (ZC v n ts) (fun r H=>r=sptN∧H=ZC v n ts):=by
 refine Za Zc (fn:=Tryz.f41) Z Z Z Z Z Z (Z1a hv) ?_
 refine Zs Z Z Z Z [0,1] rfl (Z6T hk hv h) Z Z Z Z ⟨rfl,rfl,trivial⟩ rfl ?_
 generalize (ts.getD k thr0).r.xs.getD (ts.getD k thr0).k inZ=i at *
 refine OpC.open 19 Z Z Z ?_
 refine Z8C Zc Z Z ?_
 refine Z6 Z Z Z Z Z Z (r:=.i .i64 (opsK (memB i) 1)) (fun _=>Z0 (Z7q i) (fun _=>rfl) _ [4] Z Z ⟨rfl,trivial⟩ rfl) ?_
 rw [hm]
 exact ⟨fun _=>⟨rfl,_,rfl⟩,fun h=>Zl h⟩
set_option maxHeartbeats 1000000 in
theorem Zfv (v n:Nat) (ts:List Thr) (k:Nat) (hk:k < n) (hv:v≠0) (h:stdB (ts.getD k thr0)=true) (hm:memB ((ts.getD k thr0).r.xs.getD (ts.getD k thr0).k inZ)=true):Ctr Tryz.prog 41 [.ptr 0 1 0 [],.i .i64 k] (ZC v n ts) (fun r H=>r=sptI (ts.getD k thr0).g ((ts.getD k thr0).r.xs.getD (ts.getD k thr0).k inZ)∧H=ZC v n ts):=by
 refine Za Zc (fn:=Tryz.f41) Z Z Z Z Z Z (Z1a hv) ?_
 refine Zs Z Z Z Z [0,1] rfl (Z6T hk hv h) Z Z Z Z ⟨rfl,rfl,trivial⟩ rfl ?_
 have hreg:=fun r=>Z4Q v n ts k r hk hv
 generalize (ts.getD k thr0).r.xs.getD (ts.getD k thr0).k inZ=i at *
 generalize (ts.getD k thr0).g=g at *
 refine OpC.open 19 Z Z Z ?_
 refine Z8C Zc Z Z ?_
 refine Z6 Z Z Z Z Z Z (r:=.i .i64 (opsK (memB i) 1)) (fun _=>Z0 (Z7q i) (fun _=>rfl) _ [4] Z Z ⟨rfl,trivial⟩ rfl) ?_
 rw [hm]
 refine ⟨fun h=>Z3 h,fun _=>?_⟩
 have hK:True:=trivial
 refine ⟨fun hx=>?_,fun hx=>?_⟩
 ·refine Z6 Z Z Z Z Z Z (r:=.i .i64 (regV g i.ix)) (fun _=>Z0 (hreg i.ix) (fun _=>rfl) _ [0,1] Z Z ⟨rfl,rfl,trivial⟩ rfl) ?_
  have hx:decide (0≤i.ix)=true:=hx
  refine WpC.dr Zc mixed 0 ?_
  refine Zg Z Z Z Z Z Z Z (fun _=>Zc6 i.off (regV g i.ix) i.sz) ?_
  refine Zg Z Z Z Z Z Z Z (fun _=>Z1d (plcF i.off (regV g i.ix) i.sz) i.sz) ?_
  refine ⟨by kernel_rfl,?_⟩
  refine ⟨fun h6=>?_,fun h6=>?_⟩
  ·refine Z6 Z Z Z Z Z Z (r:=.i .i64 (regV g i.a)) (fun _=>Z0 (hreg i.a) (fun _=>rfl) _ [0,1] Z Z ⟨rfl,rfl,trivial⟩ rfl) ?_
   have h6:decide (i.op=6)=true:=h6
   refine ⟨?_,_,rfl⟩
   unfold sptI mskI dtmI ixV
   rw [if_pos hx,if_pos h6]
   rfl
  have h6:decide (i.op=6)=false:=h6
  refine ⟨fun h5=>?_,fun h5=>?_⟩
  ·have h5:(decide (i.op=5)&&decide (i.a < 0))=true:=h5
   refine Z4 Z Z Z Z Z Z Z (fun _=>Z6R i.imm 0 i.sz) ?_
   refine ⟨?_,_,rfl⟩
   unfold sptI mskI dtmI ixV
   rw [if_pos hx,if_neg (by rw [h6];decide),if_pos h5]
   rfl
  have h5:(decide (i.op=5)&&decide (i.a < 0))=false:=h5
  refine ⟨fun h7=>?_,fun h7=>?_⟩
  ·have h7:decide (i.op=5)=true:=h7
   refine WpC.dr Zc mixed 0 ?_
   refine Z1 [0,1] Z Z Z Z Z Z (r:=.i .i64 (regV g i.a)) (fun _ H1 hH=>Z0 (hreg i.a) (fun _=>rfl) _ [0,1] Z Z ⟨hH 0 (by simp),hH 1 (by simp),trivial⟩ rfl) ?_
   refine Zg Z Z Z Z Z Z Z (fun _=>Z6R (regV g i.a) 0 i.sz) ?_
   refine ⟨by kernel_rfl,?_⟩
   refine ⟨?_,_,rfl⟩
   unfold sptI mskI dtmI ixV
   rw [if_pos hx,if_neg (by rw [h6];decide),if_neg (by rw [h5];decide),if_pos h7]
   rfl
  ·have h7:decide (i.op=5)=false:=h7
   refine ⟨?_,_,rfl⟩
   unfold sptI mskI dtmI ixV
   rw [if_pos hx,if_neg (by rw [h6];decide),if_neg (by rw [h5];decide),if_neg (by rw [h7];decide)]
   rfl
 ·have hx:decide (0≤i.ix)=false:=hx
  refine WpC.dr Zc mixed 0 ?_
  refine Zg Z Z Z Z Z Z Z (fun _=>Zc6 i.off 0 i.sz) ?_
  refine Zg Z Z Z Z Z Z Z (fun _=>Z1d (plcF i.off 0 i.sz) i.sz) ?_
  refine ⟨by kernel_rfl,?_⟩
  refine ⟨fun h6=>?_,fun h6=>?_⟩
  ·refine Z6 Z Z Z Z Z Z (r:=.i .i64 (regV g i.a)) (fun _=>Z0 (hreg i.a) (fun _=>rfl) _ [0,1] Z Z ⟨rfl,rfl,trivial⟩ rfl) ?_
   have h6:decide (i.op=6)=true:=h6
   refine ⟨?_,_,rfl⟩
   unfold sptI mskI dtmI ixV
   rw [if_neg (by rw [hx];decide),if_pos h6]
   rfl
  have h6:decide (i.op=6)=false:=h6
  refine ⟨fun h5=>?_,fun h5=>?_⟩
  ·have h5:(decide (i.op=5)&&decide (i.a < 0))=true:=h5
   refine Z4 Z Z Z Z Z Z Z (fun _=>Z6R i.imm 0 i.sz) ?_
   refine ⟨?_,_,rfl⟩
   unfold sptI mskI dtmI ixV
   rw [if_neg (by rw [hx];decide),if_neg (by rw [h6];decide),if_pos h5]
   rfl
  have h5:(decide (i.op=5)&&decide (i.a < 0))=false:=h5
  refine ⟨fun h7=>?_,fun h7=>?_⟩
  ·have h7:decide (i.op=5)=true:=h7
   refine WpC.dr Zc mixed 0 ?_
   refine Z1 [0,1] Z Z Z Z Z Z (r:=.i .i64 (regV g i.a)) (fun _ H1 hH=>Z0 (hreg i.a) (fun _=>rfl) _ [0,1] Z Z ⟨hH 0 (by simp),hH 1 (by simp),trivial⟩ rfl) ?_
   refine Zg Z Z Z Z Z Z Z (fun _=>Z6R (regV g i.a) 0 i.sz) ?_
   refine ⟨by kernel_rfl,?_⟩
   refine ⟨?_,_,rfl⟩
   unfold sptI mskI dtmI ixV
   rw [if_neg (by rw [hx];decide),if_neg (by rw [h6];decide),if_neg (by rw [h5];decide),if_pos h7]
   rfl
  ·have h7:decide (i.op=5)=false:=h7
   refine ⟨?_,_,rfl⟩
   unfold sptI mskI dtmI ixV
   rw [if_neg (by rw [hx];decide),if_neg (by rw [h6];decide),if_neg (by rw [h5];decide),if_neg (by rw [h7];decide)]
   rfl
theorem Zi9 (v n:Nat) (ts:List Thr) (k:Nat) (hk:k < n) (hv:v≠0):Ctr Tryz.prog 41 [.ptr 0 1 0 [],.i .i64 k] (ZC v n ts) (fun r H=>r=sptV (ts.getD k thr0)∧H=ZC v n ts):=by
 unfold sptV
 cases h:stdB (ts.getD k thr0) with
 | false=>exact ZgS v n ts k hk hv h
 | true=>
   cases hm:memB ((ts.getD k thr0).r.xs.getD (ts.getD k thr0).k inZ) with
   | false=>exact Zfu v n ts k hk hv h hm
   | true=>exact Zfv v n ts k hk hv h hm
theorem Z3E (v n:Nat) (ts:List Thr) (k:Int) (hk:outR k n) (hv:v≠0):Ctr Tryz.prog 41 [.ptr 0 1 0 [],.i .i64 k] (ZC v n ts) (fun r H=>r=sptN∧H=ZC v n ts):=by
 refine Za Zc (fn:=Tryz.f41) Z Z Z Z Z Z (Z1a hv) ?_
 refine Zs Z Z Z Z [0,1] rfl (Z24 v n ts k hk hv) Z Z Z Z ⟨rfl,rfl,trivial⟩ rfl ?_
 refine Z1z Z Z (.sl 3 1 0 1 (some 1) 0) ?_
 refine Z1z Z Z (.i .i64 0) ?_
 exact ⟨fun _=>⟨rfl,_,rfl⟩,fun h=>Zl h⟩
end SX
end Go.Proofs.YtdddpbmcoimgdaaGreatDoor
