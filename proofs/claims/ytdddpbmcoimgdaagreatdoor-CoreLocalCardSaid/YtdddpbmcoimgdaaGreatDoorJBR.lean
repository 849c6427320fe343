/- A thread that is passed with some reads ends with the registers of uir.Local. -/
import Derived.Test.YtdddpbmcoimgdaaGreatDoorCards
import Derived.Test.YtdddpbmcoimgdaaGreatDoorTie
import Derived.SevenTiedAt
import Derived.Test.YtdddpbmcoimgdaaGreatDoorJAM
import Derived.Test.YtdddpbmcoimgdaaGreatDoorJBI
import Derived.Test.YtdddpbmcoimgdaaGreatDoorJBQ
import Derived.Test.YtdddpbmcoimgdaaGreatDoorJAA
set_option linter.unusedVariables false
set_option linter.unusedSimpArgs false
set_option linter.unusedSectionVars false
set_option maxRecDepth 100000
set_option maxRecDepth 100000
namespace Go.Proofs.YtdddpbmcoimgdaaGreatDoor
open Go Go.ChangeShapes Go.WideShapes Go.ChangeAt Go.RowKit
theorem Zfw:∀ t ∈ Tryz.f4.params.toList,t < Tryz.prog.types.size:=by
 have:(Tryz.f4.params.toList.all fun t=>Nat.blt t Tryz.prog.types.size)=true:=by kernel_rfl
 exact fun t ht=>Nat.le_of_ble_eq_true (List.all_eq_true.1 this t ht)
theorem ZgC (os:Os) (args:Array Value):laidMetH Tryz.prog Rows.coreLocalRow.laid ((World.doorLaid Tryz.prog 400 os).forCall (fun _ _=>0) ⟨#[],args,[]⟩).memory:=
 laidMetH_of_parts3 (fuel:=8) (laidMet_of_run' 8 (by kernel_rfl) (by kernel_rfl)) (by kernel_rfl) (by kernel_rfl)
theorem lifted (os:Os) (started:os.Started) (H:Type) (enc:TypeId×Value→H) :
 ReturnsInHanded {} Tryz.checked os 4 .any (fun w args=>(Rows.coreLocalSpec.pre enc Tryz.prog Tryz.f4 [] false w args∧laidMetH Tryz.prog Rows.coreLocalRow.laid w)∧sizedMet enc Tryz.prog Tryz.f4 (OpenSpec.ofChange Rows.coreLocalSpec) false w args)
  (Rows.coreLocalSpec.post enc Tryz.prog Tryz.f4 false true false false):=by
 refine SX.returns_shaped (C:=Tryz.checked) (X:=fun w _=>laidMetH Tryz.prog Rows.coreLocalRow.laid w) (fun _ _ _ hh h=>h.of_heap hh) own started (by kernel_rfl) Tryz.func4
  (ChangeSpec.witness_shaped (enc:=enc) (C:=Tryz.checked) (os:=os) (X:=fun w _=>laidMetH Tryz.prog Rows.coreLocalRow.laid w) false (World.doorLaid Tryz.prog 400 os) #[.agg #[.int .i64 0,.string ⟨#[]⟩,.int .i64 0,.int .i64 0,.int .i64 0,.int .i64 0,.int .i64 0,.int .i64 0,.int .i64 0,.int .i64 0,.int .i64 0,.int .i64 0,.int .i64 0,.int .i64 0,.int .i64 0,.int .i64 0,.int .i64 0,.int .i64 0,.int .i64 0,.int .i64 0,.int .i64 0,.int .i64 0,.int .i64 0,.int .i64 0,.int .i64 0,.int .i64 0,.int .i64 0,.int .i64 0,.int .i64 0,.slice none 0 0,.int .i64 0,.slice none 0 0],.int .i64 0,.slice none 0 0] 8 rfl (World.shaped_of_RefB (by kernel_rfl) (by kernel_rfl)) (by kernel_rfl) (by kernel_rfl) (by kernel_rfl) (ZgC os _)) ?_
 intro W base args ds gs before hval0 hW hz hL hSh
 have hval:∀ (j:Nat) t v,Tryz.f4.params[j]?=some t→args[j]?=some v→Value.okWide Tryz.prog W .any base t v:=hval0
 have hW':=hW
 obtain ⟨p,q,hA0,hV,rfl,hfz,hnd⟩:=hW
 have hA:DataW.TrodAll enc Tryz.prog W 0 (fun _=>true) true Tryz.f4.params.toList args.toList ds p:=hA0
 rw [Tryz.params4] at hA hval
 obtain ⟨v0,v1,v2,d0,d1,d2,p0,p1,p2,rfl,rfl,rfl,h0,h1,h2⟩:=trodAll_three hA
 obtain ⟨rfl,rfl⟩:=trodVars_none hV
 obtain ⟨x0,rfl,k0,w0⟩:=ZeH (hval 0 _ v0 rfl rfl) h0
 obtain ⟨x1,rfl,_,_,w1⟩:=open_int Tryz.underlying3 (hval 1 _ v1 rfl rfl) h1
 obtain ⟨x2,a2,c2,rfl,k2,_⟩:=Zdj (hval 2 _ v2 rfl rfl) h2
 clear hA0 hval0
 have hT:=SX.tabsIn_row hL rfl hSh (List.mem_of_getElem? (i:=0) rfl) (List.mem_of_getElem? (i:=1) rfl) (List.mem_of_getElem? (i:=2) rfl) (List.mem_of_getElem? (i:=3) rfl) (List.mem_of_getElem? (i:=4) rfl) (List.mem_of_getElem? (i:=6) rfl) (by kernel_rfl) (by kernel_rfl) (by kernel_rfl) (by kernel_rfl) (by kernel_rfl) (by kernel_rfl)
 refine (SX.law_callsM (args:=[.agg (SX.tsenc x0),.i .i64 x1,.imm Int 0 1 SX.i1enc x2 a2 c2]) Tryz.func4 Z Z (SX.clocal_ok x0 x1 x2 a2 c2 w0) W hT (fun _=>true) ?_ (by simp [SX.den,SX.denL,SX.wrapV,SX.cells])).mono fun e W' ⟨he,hk,ho,hu⟩=>?_
 ·exact ⟨⟨rfl,k0⟩,⟨rfl,trivial⟩,⟨rfl,k2⟩,trivial⟩
 subst he
 exact ⟨_,rfl,SX.post_kept hk Zha Zfw (fun n hn=>by cases hn) hW' ho hu Z Z Z (fun _ _ _=>trodAll_mk1 (shut_bool Tryz.underlying4 _)) (ok_one (by kernel_rfl) rfl (okWide_bool_mk Tryz.underlying4 _))⟩
theorem fact0:(fun (P:Program) (f:FuncId) (fn:Func) (s:ChangeSpec) (c:OpenClaim)=>c.wf (OpenSpec.ofChange s)) Tryz.prog 4 Tryz.f4 Rows.coreLocalSpec Rows.coreLocalRow=true:=by kernel_rfl
theorem fact1:(fun (P:Program) (f:FuncId) (fn:Func) (s:ChangeSpec) (c:OpenClaim)=>laidOutB P) Tryz.prog 4 Tryz.f4 Rows.coreLocalSpec Rows.coreLocalRow=true:=by kernel_rfl
theorem fact2:(fun (P:Program) (f:FuncId) (fn:Func) (s:ChangeSpec) (c:OpenClaim)=>mapsRowed P) Tryz.prog 4 Tryz.f4 Rows.coreLocalSpec Rows.coreLocalRow=true:=by kernel_rfl
theorem fact3:(fun (P:Program) (f:FuncId) (fn:Func) (s:ChangeSpec) (c:OpenClaim)=>fn.params.all (P.readableRec ·)) Tryz.prog 4 Tryz.f4 Rows.coreLocalSpec Rows.coreLocalRow=true:=by kernel_rfl
theorem fact4:(fun (P:Program) (f:FuncId) (fn:Func) (s:ChangeSpec) (c:OpenClaim)=>namedTie P c.named s.vars) Tryz.prog 4 Tryz.f4 Rows.coreLocalSpec Rows.coreLocalRow=true:=by kernel_rfl
theorem fact5:(fun (P:Program) (f:FuncId) (fn:Func) (s:ChangeSpec) (c:OpenClaim)=>(c.stops == [])) Tryz.prog 4 Tryz.f4 Rows.coreLocalSpec Rows.coreLocalRow=true:=by kernel_rfl
theorem fact6:(fun (P:Program) (f:FuncId) (fn:Func) (s:ChangeSpec) (c:OpenClaim)=>(P.stops == [])) Tryz.prog 4 Tryz.f4 Rows.coreLocalSpec Rows.coreLocalRow=true:=by kernel_rfl
theorem fact7:(fun (P:Program) (f:FuncId) (fn:Func) (s:ChangeSpec) (c:OpenClaim)=>(c.knobs == [])) Tryz.prog 4 Tryz.f4 Rows.coreLocalSpec Rows.coreLocalRow=true:=by kernel_rfl
theorem fact8:(fun (P:Program) (f:FuncId) (fn:Func) (s:ChangeSpec) (c:OpenClaim)=>(P.stopKnobs == [])) Tryz.prog 4 Tryz.f4 Rows.coreLocalSpec Rows.coreLocalRow=true:=by kernel_rfl
theorem fact9:(fun (P:Program) (f:FuncId) (fn:Func) (s:ChangeSpec) (c:OpenClaim)=>(c.inPlace == P.inPlace f)) Tryz.prog 4 Tryz.f4 Rows.coreLocalSpec Rows.coreLocalRow=true:=by kernel_rfl
theorem fact10:(fun (P:Program) (f:FuncId) (fn:Func) (s:ChangeSpec) (c:OpenClaim)=>(c.unfollowed == P.unfollowed f)) Tryz.prog 4 Tryz.f4 Rows.coreLocalSpec Rows.coreLocalRow=true:=by kernel_rfl
theorem fact11:(fun (P:Program) (f:FuncId) (fn:Func) (s:ChangeSpec) (c:OpenClaim)=>(c.recurses == P.recurses f)) Tryz.prog 4 Tryz.f4 Rows.coreLocalSpec Rows.coreLocalRow=true:=by kernel_rfl
theorem fact12:(fun (P:Program) (f:FuncId) (fn:Func) (s:ChangeSpec) (c:OpenClaim)=>(c.named == P.varsNamed f)) Tryz.prog 4 Tryz.f4 Rows.coreLocalSpec Rows.coreLocalRow=true:=by kernel_rfl
theorem fact13:(fun (P:Program) (f:FuncId) (fn:Func) (s:ChangeSpec) (c:OpenClaim)=>(c.maps == (fn.params.toList++s.plain.varTypes P).any (P.mapsRec ·))) Tryz.prog 4 Tryz.f4 Rows.coreLocalSpec Rows.coreLocalRow=true:=by kernel_rfl
theorem fact14:(fun (P:Program) (f:FuncId) (fn:Func) (s:ChangeSpec) (c:OpenClaim)=>(c.ifaces == (fn.params.toList++s.plain.varTypes P).any (P.ifacesRec ·))) Tryz.prog 4 Tryz.f4 Rows.coreLocalSpec Rows.coreLocalRow=true:=by kernel_rfl
theorem fact15:(fun (P:Program) (f:FuncId) (fn:Func) (s:ChangeSpec) (c:OpenClaim)=>(c.mapsOut == P.mapsAmong fn.resultTypes.toList)) Tryz.prog 4 Tryz.f4 Rows.coreLocalSpec Rows.coreLocalRow=true:=by kernel_rfl
theorem fact16:(fun (P:Program) (f:FuncId) (fn:Func) (s:ChangeSpec) (c:OpenClaim)=>(c.loops == (fn.params.toList++s.plain.varTypes P).any (P.loopsFrom ·))) Tryz.prog 4 Tryz.f4 Rows.coreLocalSpec Rows.coreLocalRow=true:=by kernel_rfl
theorem fact17:(fun (P:Program) (f:FuncId) (fn:Func) (s:ChangeSpec) (c:OpenClaim)=>(c.wideKeys == (fn.params.toList++s.plain.varTypes P++fn.resultTypes.toList).any (P.wideKeysFrom ·))) Tryz.prog 4 Tryz.f4 Rows.coreLocalSpec Rows.coreLocalRow=true:=by kernel_rfl
theorem fact18:(fun (P:Program) (f:FuncId) (fn:Func) (s:ChangeSpec) (c:OpenClaim)=>s.vars.all (P.varReadable ·)) Tryz.prog 4 Tryz.f4 Rows.coreLocalSpec Rows.coreLocalRow=true:=by kernel_rfl
theorem fact19:(fun (P:Program) (f:FuncId) (fn:Func) (s:ChangeSpec) (c:OpenClaim)=>fn.resultTypes.all (fun t=>P.readableRec t&&decide (t < P.types.size))) Tryz.prog 4 Tryz.f4 Rows.coreLocalSpec Rows.coreLocalRow=true:=by kernel_rfl
theorem fact20:(fun (P:Program) (f:FuncId) (fn:Func) (s:ChangeSpec) (c:OpenClaim)=>(c.ifacesOut == fn.resultTypes.toList.any (P.ifacesRec ·))) Tryz.prog 4 Tryz.f4 Rows.coreLocalSpec Rows.coreLocalRow=true:=by kernel_rfl
theorem fact21:(fun (P:Program) (f:FuncId) (fn:Func) (s:ChangeSpec) (c:OpenClaim)=>(c.loopsOut == fn.resultTypes.toList.any (P.loopsFrom ·))) Tryz.prog 4 Tryz.f4 Rows.coreLocalSpec Rows.coreLocalRow=true:=by kernel_rfl
theorem fact22:(fun (P:Program) (f:FuncId) (fn:Func) (s:ChangeSpec) (c:OpenClaim)=>(c.plainKeys == P.plainKeys)) Tryz.prog 4 Tryz.f4 Rows.coreLocalSpec Rows.coreLocalRow=true:=by kernel_rfl
theorem fact23:(fun (P:Program) (f:FuncId) (fn:Func) (s:ChangeSpec) (c:OpenClaim)=>c.shortTexts.isNone) Tryz.prog 4 Tryz.f4 Rows.coreLocalSpec Rows.coreLocalRow=true:=by kernel_rfl
theorem fact24:(fun (P:Program) (f:FuncId) (fn:Func) (s:ChangeSpec) (c:OpenClaim)=>P.stopsHeard) Tryz.prog 4 Tryz.f4 Rows.coreLocalSpec Rows.coreLocalRow=true:=by kernel_rfl
theorem fact25:(fun (P:Program) (f:FuncId) (fn:Func) (s:ChangeSpec) (c:OpenClaim)=>P.mayEnter) Tryz.prog 4 Tryz.f4 Rows.coreLocalSpec Rows.coreLocalRow=true:=by kernel_rfl
theorem fact26:(fun (P:Program) (f:FuncId) (fn:Func) (s:ChangeSpec) (c:OpenClaim)=>(c.lifted == P.liftsFinal)) Tryz.prog 4 Tryz.f4 Rows.coreLocalSpec Rows.coreLocalRow=true:=by kernel_rfl
theorem fact27:(fun (P:Program) (f:FuncId) (fn:Func) (s:ChangeSpec) (c:OpenClaim)=>(P.make == some c.make)) Tryz.prog 4 Tryz.f4 Rows.coreLocalSpec Rows.coreLocalRow=true:=by kernel_rfl
theorem fact28:(fun (P:Program) (f:FuncId) (fn:Func) (s:ChangeSpec) (c:OpenClaim)=>(c.kinds == (if c.domain.isEmpty then [] else fn.params.toList.map fun t=>match P.underlying t with | some (.int k)=>some k | _=>none))) Tryz.prog 4 Tryz.f4 Rows.coreLocalSpec Rows.coreLocalRow=true:=by kernel_rfl
theorem fact29:(fun (P:Program) (f:FuncId) (fn:Func) (s:ChangeSpec) (c:OpenClaim)=>(c.pinned == c.pinnedBy)) Tryz.prog 4 Tryz.f4 Rows.coreLocalSpec Rows.coreLocalRow=true:=by kernel_rfl
theorem fact30:(fun (P:Program) (f:FuncId) (fn:Func) (s:ChangeSpec) (c:OpenClaim)=>(c.veiled == (fn.params.toList++s.plain.varTypes P++fn.resultTypes.toList).any (P.veiledRec ·))) Tryz.prog 4 Tryz.f4 Rows.coreLocalSpec Rows.coreLocalRow=true:=by kernel_rfl
theorem fact31:(fun (P:Program) (f:FuncId) (fn:Func) (s:ChangeSpec) (c:OpenClaim)=>c.veiledFits P fn.params.toList (fn.params.toList++s.plain.varTypes P++fn.resultTypes.toList)) Tryz.prog 4 Tryz.f4 Rows.coreLocalSpec Rows.coreLocalRow=true:=by kernel_rfl
theorem facts:joinedFacts Tryz.prog 4 Tryz.f4 Rows.coreLocalSpec Rows.coreLocalRow=true:=Zg7 fact0 fact1 fact2 fact3 fact4 fact5 fact6 fact7 fact8 fact9 fact10 fact11 fact12 fact13 fact14 fact15 fact16 fact17 fact18 fact19 fact20 fact21 fact22 fact23 fact24 fact25 fact26 fact27 fact28 fact29 fact30 fact31
theorem fnamed:Tryz.prog.funcNamed "belated/belatedlaw14.CoreLocal" = some 4:=by kernel_rfl
theorem instOk:Tryz.f4.isInstance Tryz.prog Rows.coreLocalRow.origin Rows.coreLocalRow.targs:=of_decide_eq_true (by kernel_rfl)
theorem wrapOk:Tryz.f4.isWrapper Tryz.prog Rows.coreLocalRow.wrapper Rows.coreLocalRow.mainSum:=by
 unfold Func.isWrapper;first | (rw [if_pos (by decide +kernel)];kernel_rfl) | (rw [if_neg (by decide +kernel)];exact ⟨rfl,rfl⟩)
theorem Z8y:Rows.CoreLocalSaid:=
 OpenClaim.holds_of_wide 4 Tryz.f4 Z Z Z Z Z Z Z ⟨rfl,rfl,rfl,rfl,rfl⟩ Z Z Z Z Z fnamed Tryz.func4 facts instOk wrapOk
  (fun os started H enc _=>lifted os started H enc)
theorem wfText:Rows.coreLocalRow.wfByText (OpenSpec.ofChange Rows.coreLocalSpec)=true:=by kernel_rfl
theorem mainOk:Tryz.prog.mainIs=some (true, "b127fd35cc8393070ca2305a2e908d867bb69753376ec74e21f66be69781b9f4".toList):=by kernel_rfl
theorem ZhS:true=Tryz.prog.looks []:=by kernel_rfl
theorem ZhT:([28,3,39].all fun u=>!Tryz.prog.wantsStandIn u)=true:=by kernel_rfl
theorem goesOk:false=Rows.coreLocalRow.goesBy Tryz.prog:=by kernel_rfl
theorem coreLocal_card:Rows.CoreLocalCardSaid:=
 Claim7.holds_tied_plain_at .later [] [.data,.data,.data,.sentinel,.sentinel,.listed,.data] true (true, "b127fd35cc8393070ca2305a2e908d867bb69753376ec74e21f66be69781b9f4") true
  Z8y (fun _ h=>by cases h) wfText (fun _ h=>by cases h) coreLocal_row_tie rfl ⟨rfl,rfl⟩ mainOk rfl
  (fun f fn hf hfn=>by
   obtain rfl:f=4:=Option.some.inj (fnamed.symm.trans hf) |>.symm
   obtain rfl:fn=Tryz.f4:=(Option.some.inj (Tryz.func4.symm.trans hfn)).symm
   exact ⟨ZhS,fun j t ht=>by
    have ht:[28,3,39].toArray[j]?=some t:=by rw [Tryz.params4] at ht;exact ht
    have hm:t ∈ [28,3,39]:=by simpa using Array.mem_of_getElem? ht
    exact (show Tryz.prog.wantsStandIn t=false by simpa using List.all_eq_true.1 ZhT t hm)⟩)
  goesOk
#print axioms coreLocal_card
end Go.Proofs.YtdddpbmcoimgdaaGreatDoor
