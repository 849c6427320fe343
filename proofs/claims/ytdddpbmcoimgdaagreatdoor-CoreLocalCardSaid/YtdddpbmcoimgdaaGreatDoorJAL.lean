/- A part of SX: symbolic and concrete runs of the program, with contracts of functions; lemmas without further conditions. Shortened by a tool (mini.py). -/
import Derived.Test.YtdddpbmcoimgdaaGreatDoorJAH
import Derived.Test.YtdddpbmcoimgdaaGreatDoorJAA
set_option linter.unusedVariables false
set_option linter.unusedSimpArgs false
set_option linter.unusedSectionVars false
set_option maxRecDepth 100000
namespace Go.Proofs.YtdddpbmcoimgdaaGreatDoor
namespace SX
open Go Go.Proofs
def eqI (x y:In):Bool:=(decide (x.op=y.op)&&(decide (x.dst=y.dst)&&(decide (x.a=y.a)&&(decide (x.b=y.b)&&(decide (x.imm=y.imm)&&(decide (x.loc=y.loc)&&(decide (x.off=y.off)&&(decide (x.ix=y.ix)&&(decide (x.sz=y.sz)&&(decide (x.fn=y.fn)&&((x.acq == y.acq)&&((x.wk == y.wk)&&((x.rel == y.rel)&&(decide (x.pr=y.pr)&&(decide (x.su=y.su)&&(decide (x.to=y.to)&&(x.ze == y.ze)))))))))))))))))
theorem Zv {P:Prop} (h:true=false):P:=nomatch h
theorem Z3 {P:Prop} (h:false=true):P:=nomatch h
theorem Z9x (n:Int):CtrV Tryz.prog 149 [.i .i64 n] (.b (fnB n)):=by
 refine Z8 Z5 (fn:=Tryz.f149) Z Z Z Z Z Z ?_
 exact rfl
theorem Zga (dst a b imm loc off ix sz fn pr su to:Int) (acq wk rel ze:Bool)  : CtrV Tryz.prog 128 [.agg (ienc ⟨1,dst,a,b,imm,loc,off,ix,sz,fn,acq,wk,rel,pr,su,to,ze⟩)] (.b (rgB dst&&eqI ⟨1,dst,(-1),(-1),imm,0,0,(-1),0,0,false,false,false,0,0,0,false⟩ ⟨1,dst,a,b,imm,loc,off,ix,sz,fn,acq,wk,rel,pr,su,to,ze⟩)):=by
 refine Z8 Z5 (fn:=Tryz.f128) Z Z Z Z Z Z ?_
 refine ⟨fun _=>?_,fun h=>Zv h⟩
 refine WpC.dr Z5 mixed 0 ⟨by kernel_rfl,?_⟩
 refine Z4 Z Z Z Z Z Z Z (fun _=>ZM dst) ?_
 refine Z4 Z Z Z Z Z Z Z (fun _=>ZH ⟨1,dst,a,b,imm,loc,off,ix,sz,fn,acq,wk,rel,pr,su,to,ze⟩) ?_
 refine Z4 Z Z Z Z Z Z Z (fun _=>ZG ⟨1,dst,a,b,imm,loc,off,ix,sz,fn,acq,wk,rel,pr,su,to,ze⟩) ?_
 refine ⟨fun h=>Z3 h,fun _=>?_⟩
 exact rfl
theorem Zgb (dst a b imm loc off ix sz fn pr su to:Int) (acq wk rel ze:Bool)  : CtrV Tryz.prog 128 [.agg (ienc ⟨2,dst,a,b,imm,loc,off,ix,sz,fn,acq,wk,rel,pr,su,to,ze⟩)] (.b ((rgB dst&&rgB a)&&eqI ⟨2,dst,a,(-1),0,0,0,(-1),0,0,false,false,false,0,0,0,false⟩ ⟨2,dst,a,b,imm,loc,off,ix,sz,fn,acq,wk,rel,pr,su,to,ze⟩)):=by
 refine Z8 Z5 (fn:=Tryz.f128) Z Z Z Z Z Z ?_
 refine ⟨fun h=>Z3 h,fun _=>?_⟩
 refine ⟨fun _=>?_,fun h=>Zv h⟩
 refine WpC.dr Z5 mixed 0 ⟨by kernel_rfl,?_⟩
 refine Z4 Z Z Z Z Z Z Z (fun _=>ZM dst) ?_
 refine Z4 Z Z Z Z Z Z Z (fun _=>ZM a) ?_
 refine Z4 Z Z Z Z Z Z Z (fun _=>ZH ⟨2,dst,a,b,imm,loc,off,ix,sz,fn,acq,wk,rel,pr,su,to,ze⟩) ?_
 refine Z4 Z Z Z Z Z Z Z (fun _=>ZG ⟨2,dst,a,b,imm,loc,off,ix,sz,fn,acq,wk,rel,pr,su,to,ze⟩) ?_
 refine ⟨fun h=>Z3 h,fun _=>?_⟩
 exact rfl
theorem ZeK (dst a b imm loc off ix sz fn pr su to:Int) (acq wk rel ze:Bool) (hb:b = -1):CtrV Tryz.prog 128 [.agg (ienc ⟨3,dst,a,b,imm,loc,off,ix,sz,fn,acq,wk,rel,pr,su,to,ze⟩)] (.b ((((rgB dst&&rgB a)&&decide (1≤fn))&&decide (fn≤5))&&eqI ⟨3,dst,a,b,imm,0,0,(-1),0,fn,false,false,false,0,0,0,false⟩ ⟨3,dst,a,b,imm,loc,off,ix,sz,fn,acq,wk,rel,pr,su,to,ze⟩)):=by
 refine Z8 Z5 (fn:=Tryz.f128) Z Z Z Z Z Z ?_
 iterate 2 refine ⟨fun h=>Z3 h,fun _=>?_⟩
 refine ⟨fun _=>?_,fun h=>Zv h⟩
 refine WpC.dr Z5 mixed 0 ⟨by kernel_rfl,?_⟩
 refine Z4 Z Z Z Z Z Z Z (fun _=>ZM dst) ?_
 refine Z4 Z Z Z Z Z Z Z (fun _=>ZM a) ?_
 refine ⟨fun _=>?_,fun h=>absurd hb (of_decide_eq_false h)⟩
 refine Z4 Z Z Z Z Z Z Z (fun _=>ZH ⟨3,dst,a,b,imm,loc,off,ix,sz,fn,acq,wk,rel,pr,su,to,ze⟩) ?_
 refine Z4 Z Z Z Z Z Z Z (fun _=>ZG ⟨3,dst,a,b,imm,loc,off,ix,sz,fn,acq,wk,rel,pr,su,to,ze⟩) ?_
 refine ⟨fun h=>Z3 h,fun _=>?_⟩
 exact rfl
theorem ZeL (dst a b imm loc off ix sz fn pr su to:Int) (acq wk rel ze:Bool) (hb:¬ b = -1):CtrV Tryz.prog 128 [.agg (ienc ⟨3,dst,a,b,imm,loc,off,ix,sz,fn,acq,wk,rel,pr,su,to,ze⟩)] (.b (((((rgB dst&&rgB a)&&decide (1≤fn))&&decide (fn≤5))&&rgB b)&&eqI ⟨3,dst,a,b,0,0,0,(-1),0,fn,false,false,false,0,0,0,false⟩ ⟨3,dst,a,b,imm,loc,off,ix,sz,fn,acq,wk,rel,pr,su,to,ze⟩)):=by
 refine Z8 Z5 (fn:=Tryz.f128) Z Z Z Z Z Z ?_
 iterate 2 refine ⟨fun h=>Z3 h,fun _=>?_⟩
 refine ⟨fun _=>?_,fun h=>Zv h⟩
 refine WpC.dr Z5 mixed 0 ⟨by kernel_rfl,?_⟩
 refine Z4 Z Z Z Z Z Z Z (fun _=>ZM dst) ?_
 refine Z4 Z Z Z Z Z Z Z (fun _=>ZM a) ?_
 refine ⟨fun h=>absurd (of_decide_eq_true h) hb,fun _=>?_⟩
 refine Z4 Z Z Z Z Z Z Z (fun _=>ZM b) ?_
 refine Z4 Z Z Z Z Z Z Z (fun _=>ZH ⟨3,dst,a,b,imm,loc,off,ix,sz,fn,acq,wk,rel,pr,su,to,ze⟩) ?_
 refine Z4 Z Z Z Z Z Z Z (fun _=>ZG ⟨3,dst,a,b,imm,loc,off,ix,sz,fn,acq,wk,rel,pr,su,to,ze⟩) ?_
 refine ⟨fun h=>Z3 h,fun _=>?_⟩
 exact rfl
theorem Zgc (dst a b imm loc off ix sz fn pr su to:Int) (acq wk rel ze:Bool)  : CtrV Tryz.prog 128 [.agg (ienc ⟨4,dst,a,b,imm,loc,off,ix,sz,fn,acq,wk,rel,pr,su,to,ze⟩)] (.b (((rgB dst&&accB ⟨4,dst,a,b,imm,loc,off,ix,sz,fn,acq,wk,rel,pr,su,to,ze⟩)&&!(acq&&wk))&&eqI ⟨4,dst,(-1),(-1),0,loc,off,ix,sz,0,acq,wk,false,0,0,0,false⟩ ⟨4,dst,a,b,imm,loc,off,ix,sz,fn,acq,wk,rel,pr,su,to,ze⟩)):=by
 refine Z8 Z5 (fn:=Tryz.f128) Z Z Z Z Z Z ?_
 iterate 3 refine ⟨fun h=>Z3 h,fun _=>?_⟩
 refine ⟨fun _=>?_,fun h=>Zv h⟩
 refine WpC.dr Z5 mixed 0 ⟨by kernel_rfl,?_⟩
 refine Z4 Z Z Z Z Z Z Z (fun _=>ZM dst) ?_
 refine Z4 Z Z Z Z Z Z Z (fun _=>Z4K ⟨4,dst,a,b,imm,loc,off,ix,sz,fn,acq,wk,rel,pr,su,to,ze⟩) ?_
 refine Z4 Z Z Z Z Z Z Z (fun _=>ZH ⟨4,dst,a,b,imm,loc,off,ix,sz,fn,acq,wk,rel,pr,su,to,ze⟩) ?_
 refine Z4 Z Z Z Z Z Z Z (fun _=>ZG ⟨4,dst,a,b,imm,loc,off,ix,sz,fn,acq,wk,rel,pr,su,to,ze⟩) ?_
 refine ⟨fun _=>?_,fun h=>Zv h⟩
 refine WpC.dr Z5 mixed 0 ⟨by kernel_rfl,?_⟩
 exact rfl
theorem ZeM (dst a b imm loc off ix sz fn pr su to:Int) (acq wk rel ze:Bool) (hb:a = -1):CtrV Tryz.prog 128 [.agg (ienc ⟨5,dst,a,b,imm,loc,off,ix,sz,fn,acq,wk,rel,pr,su,to,ze⟩)] (.b (accB ⟨5,dst,a,b,imm,loc,off,ix,sz,fn,acq,wk,rel,pr,su,to,ze⟩&&eqI ⟨5,(-1),a,(-1),imm,loc,off,ix,sz,0,false,false,rel,0,0,0,false⟩ ⟨5,dst,a,b,imm,loc,off,ix,sz,fn,acq,wk,rel,pr,su,to,ze⟩)):=by
 refine Z8 Z5 (fn:=Tryz.f128) Z Z Z Z Z Z ?_
 iterate 4 refine ⟨fun h=>Z3 h,fun _=>?_⟩
 refine ⟨fun _=>?_,fun h=>Zv h⟩
 refine WpC.dr Z5 mixed 0 ⟨by kernel_rfl,?_⟩
 refine Z4 Z Z Z Z Z Z Z (fun _=>Z4K ⟨5,dst,a,b,imm,loc,off,ix,sz,fn,acq,wk,rel,pr,su,to,ze⟩) ?_
 refine ⟨fun _=>?_,fun h=>absurd hb (of_decide_eq_false h)⟩
 refine Z4 Z Z Z Z Z Z Z (fun _=>ZH ⟨5,dst,a,b,imm,loc,off,ix,sz,fn,acq,wk,rel,pr,su,to,ze⟩) ?_
 refine Z4 Z Z Z Z Z Z Z (fun _=>ZG ⟨5,dst,a,b,imm,loc,off,ix,sz,fn,acq,wk,rel,pr,su,to,ze⟩) ?_
 refine ⟨fun _=>?_,fun h=>Zv h⟩
 refine WpC.dr Z5 mixed 0 ⟨by kernel_rfl,?_⟩
 exact rfl
theorem ZeN (dst a b imm loc off ix sz fn pr su to:Int) (acq wk rel ze:Bool) (hb:¬ a = -1):CtrV Tryz.prog 128 [.agg (ienc ⟨5,dst,a,b,imm,loc,off,ix,sz,fn,acq,wk,rel,pr,su,to,ze⟩)] (.b ((accB ⟨5,dst,a,b,imm,loc,off,ix,sz,fn,acq,wk,rel,pr,su,to,ze⟩&&rgB a)&&eqI ⟨5,(-1),a,(-1),0,loc,off,ix,sz,0,false,false,rel,0,0,0,false⟩ ⟨5,dst,a,b,imm,loc,off,ix,sz,fn,acq,wk,rel,pr,su,to,ze⟩)):=by
 refine Z8 Z5 (fn:=Tryz.f128) Z Z Z Z Z Z ?_
 iterate 4 refine ⟨fun h=>Z3 h,fun _=>?_⟩
 refine ⟨fun _=>?_,fun h=>Zv h⟩
 refine WpC.dr Z5 mixed 0 ⟨by kernel_rfl,?_⟩
 refine Z4 Z Z Z Z Z Z Z (fun _=>Z4K ⟨5,dst,a,b,imm,loc,off,ix,sz,fn,acq,wk,rel,pr,su,to,ze⟩) ?_
 refine ⟨fun h=>absurd (of_decide_eq_true h) hb,fun _=>?_⟩
 refine Z4 Z Z Z Z Z Z Z (fun _=>ZM a) ?_
 refine Z4 Z Z Z Z Z Z Z (fun _=>ZH ⟨5,dst,a,b,imm,loc,off,ix,sz,fn,acq,wk,rel,pr,su,to,ze⟩) ?_
 refine Z4 Z Z Z Z Z Z Z (fun _=>ZG ⟨5,dst,a,b,imm,loc,off,ix,sz,fn,acq,wk,rel,pr,su,to,ze⟩) ?_
 refine ⟨fun _=>?_,fun h=>Zv h⟩
 refine WpC.dr Z5 mixed 0 ⟨by kernel_rfl,?_⟩
 exact rfl
set_option maxHeartbeats 2000000 in
theorem Zgd (dst a b imm loc off ix sz fn pr su to:Int) (acq wk rel ze:Bool)  : CtrV Tryz.prog 128 [.agg (ienc ⟨6,dst,a,b,imm,loc,off,ix,sz,fn,acq,wk,rel,pr,su,to,ze⟩)] (.b ((((rgB dst&&rgB a)&&accB ⟨6,dst,a,b,imm,loc,off,ix,sz,fn,acq,wk,rel,pr,su,to,ze⟩)&&(decide (fn=6)||decide (fn=1)))&&eqI ⟨6,dst,a,(-1),0,loc,off,ix,sz,fn,acq,false,rel,0,0,0,false⟩ ⟨6,dst,a,b,imm,loc,off,ix,sz,fn,acq,wk,rel,pr,su,to,ze⟩)):=by
 refine Z8 Z5 (fn:=Tryz.f128) Z Z Z Z Z Z ?_
 iterate 5 refine ⟨fun h=>Z3 h,fun _=>?_⟩
 refine ⟨fun _=>?_,fun h=>Zv h⟩
 refine WpC.dr Z5 mixed 0 ⟨by kernel_rfl,?_⟩
 refine Z4 Z Z Z Z Z Z Z (fun _=>ZM dst) ?_
 refine Z4 Z Z Z Z Z Z Z (fun _=>ZM a) ?_
 refine Z4 Z Z Z Z Z Z Z (fun _=>Z4K ⟨6,dst,a,b,imm,loc,off,ix,sz,fn,acq,wk,rel,pr,su,to,ze⟩) ?_
 refine Z4 Z Z Z Z Z Z Z (fun _=>ZH ⟨6,dst,a,b,imm,loc,off,ix,sz,fn,acq,wk,rel,pr,su,to,ze⟩) ?_
 refine Z4 Z Z Z Z Z Z Z (fun _=>ZG ⟨6,dst,a,b,imm,loc,off,ix,sz,fn,acq,wk,rel,pr,su,to,ze⟩) ?_
 refine ⟨fun _=>?_,fun h=>Zv h⟩
 refine WpC.dr Z5 mixed 0 ⟨by kernel_rfl,?_⟩
 exact rfl
theorem Zge (dst a b imm loc off ix sz fn pr su to:Int) (acq wk rel ze:Bool)  : CtrV Tryz.prog 128 [.agg (ienc ⟨7,dst,a,b,imm,loc,off,ix,sz,fn,acq,wk,rel,pr,su,to,ze⟩)] (.b ((fnB pr&&fnB su)&&eqI ⟨7,(-1),(-1),(-1),0,0,0,(-1),0,0,false,false,false,pr,su,0,false⟩ ⟨7,dst,a,b,imm,loc,off,ix,sz,fn,acq,wk,rel,pr,su,to,ze⟩)):=by
 refine Z8 Z5 (fn:=Tryz.f128) Z Z Z Z Z Z ?_
 iterate 6 refine ⟨fun h=>Z3 h,fun _=>?_⟩
 refine ⟨fun _=>?_,fun h=>Zv h⟩
 refine WpC.dr Z5 mixed 0 ⟨by kernel_rfl,?_⟩
 refine Z4 Z Z Z Z Z Z Z (fun _=>Z9x pr) ?_
 refine Z4 Z Z Z Z Z Z Z (fun _=>Z9x su) ?_
 refine Z4 Z Z Z Z Z Z Z (fun _=>ZH ⟨7,dst,a,b,imm,loc,off,ix,sz,fn,acq,wk,rel,pr,su,to,ze⟩) ?_
 refine Z4 Z Z Z Z Z Z Z (fun _=>ZG ⟨7,dst,a,b,imm,loc,off,ix,sz,fn,acq,wk,rel,pr,su,to,ze⟩) ?_
 refine ⟨fun h=>Z3 h,fun _=>?_⟩
 exact rfl
theorem Zgf (dst a b imm loc off ix sz fn pr su to:Int) (acq wk rel ze:Bool)  : CtrV Tryz.prog 128 [.agg (ienc ⟨8,dst,a,b,imm,loc,off,ix,sz,fn,acq,wk,rel,pr,su,to,ze⟩)] (.b (true&&eqI ⟨8,(-1),(-1),(-1),0,0,0,(-1),0,0,false,false,false,0,0,0,false⟩ ⟨8,dst,a,b,imm,loc,off,ix,sz,fn,acq,wk,rel,pr,su,to,ze⟩)):=by
 refine Z8 Z5 (fn:=Tryz.f128) Z Z Z Z Z Z ?_
 iterate 7 refine ⟨fun h=>Z3 h,fun _=>?_⟩
 refine ⟨fun _=>?_,fun h=>Zv h⟩
 refine Z4 Z Z Z Z Z Z Z (fun _=>ZH ⟨8,dst,a,b,imm,loc,off,ix,sz,fn,acq,wk,rel,pr,su,to,ze⟩) ?_
 refine Z4 Z Z Z Z Z Z Z (fun _=>ZG ⟨8,dst,a,b,imm,loc,off,ix,sz,fn,acq,wk,rel,pr,su,to,ze⟩) ?_
 refine ⟨fun h=>Z3 h,fun _=>?_⟩
 exact rfl
theorem Zgg (dst a b imm loc off ix sz fn pr su to:Int) (acq wk rel ze:Bool)  : CtrV Tryz.prog 128 [.agg (ienc ⟨9,dst,a,b,imm,loc,off,ix,sz,fn,acq,wk,rel,pr,su,to,ze⟩)] (.b (rgB a&&eqI ⟨9,(-1),a,(-1),0,0,0,(-1),0,0,false,false,false,0,0,to,ze⟩ ⟨9,dst,a,b,imm,loc,off,ix,sz,fn,acq,wk,rel,pr,su,to,ze⟩)):=by
 refine Z8 Z5 (fn:=Tryz.f128) Z Z Z Z Z Z ?_
 iterate 8 refine ⟨fun h=>Z3 h,fun _=>?_⟩
 refine ⟨fun _=>?_,fun h=>Zv h⟩
 refine WpC.dr Z5 mixed 0 ⟨by kernel_rfl,?_⟩
 refine Z4 Z Z Z Z Z Z Z (fun _=>ZM a) ?_
 refine Z4 Z Z Z Z Z Z Z (fun _=>ZH ⟨9,dst,a,b,imm,loc,off,ix,sz,fn,acq,wk,rel,pr,su,to,ze⟩) ?_
 refine Z4 Z Z Z Z Z Z Z (fun _=>ZG ⟨9,dst,a,b,imm,loc,off,ix,sz,fn,acq,wk,rel,pr,su,to,ze⟩) ?_
 refine ⟨fun h=>Z3 h,fun _=>?_⟩
 exact rfl
end SX
end Go.Proofs.YtdddpbmcoimgdaaGreatDoor
