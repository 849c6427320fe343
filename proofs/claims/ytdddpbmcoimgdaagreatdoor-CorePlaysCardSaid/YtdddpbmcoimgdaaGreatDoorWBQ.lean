/- CorePlays: for every test and every list of steps the law answers true: the core plays as the reference does, and all that is looked at of it is alike; no further conditions. -/
import Derived.Test.YtdddpbmcoimgdaaGreatDoorCards
import Derived.Test.YtdddpbmcoimgdaaGreatDoorTie
import Derived.SevenTiedAt
import Derived.Test.YtdddpbmcoimgdaaGreatDoorWAD
import Derived.Test.YtdddpbmcoimgdaaGreatDoorWBL
import Derived.Test.YtdddpbmcoimgdaaGreatDoorWBN
import Derived.Test.YtdddpbmcoimgdaaGreatDoorWBO
import Derived.Test.YtdddpbmcoimgdaaGreatDoorWBP
import Derived.Test.YtdddpbmcoimgdaaGreatDoorWAA
set_option linter.unusedVariables false
set_option linter.unusedSimpArgs false
set_option linter.unusedSectionVars false
set_option maxRecDepth 100000
namespace Go.Proofs.YtdddpbmcoimgdaaGreatDoor
namespace SX
open Go Go.Proofs
theorem plays_ok (t:Tst) (sc:List Act) (sa:Option Addr) (scap:Nat) (hw:TsW t):CtrV Tryz.prog 3 [.agg (tsenc t),.imm Act act0 2 aenc sc sa scap] (.b true):=by
 by_cases h1:t.code.length=1
 ·exact plays1 t hw h1 sc sa scap
 by_cases h2:t.code.length=2
 ·exact plays2 t hw h2 sc sa scap
 by_cases h3:t.code.length=3
 ·exact plays3 t hw h3 sc sa scap
 refine Z8 Zh (fn:=Tryz.f3) rfl rfl rfl rfl rfl rfl ?_
 refine Z4 rfl rfl rfl rfl rfl rfl rfl (fun _=>Z52) ?_
 refine ⟨fun h=>Z3 h,fun _=>?_⟩
 refine Z6 rfl rfl rfl rfl rfl rfl (r:=.i .i64 (chkT t)) (fun _=>Z0 (Z6m t hw) (fun _=>rfl) _ [] rfl rfl trivial rfl) ?_
 refine ⟨fun _=>rfl,fun h=>?_⟩
 have h:(!decide (chkT t=0)||decide ((100:Int) < (sc.length:Int)))=false:=h
 simp only [Bool.or_eq_false_iff,Bool.not_eq_false',decide_eq_true_eq,decide_eq_false_iff_not] at h
 have hu:=(Z5c h.1).u
 have:=hu.l1
 have:=hu.l3
 omega
end SX
end Go.Proofs.YtdddpbmcoimgdaaGreatDoor
set_option maxRecDepth 100000
namespace Go.Proofs.YtdddpbmcoimgdaaGreatDoor
open Go Go.ChangeShapes Go.WideShapes Go.ChangeAt Go.RowKit
theorem Zg4:∀ t ∈ Tryz.f3.params.toList,t < Tryz.prog.types.size:=by
 have:(Tryz.f3.params.toList.all fun t=>Nat.blt t Tryz.prog.types.size)=true:=by kernel_rfl
 exact fun t ht=>Nat.le_of_ble_eq_true (List.all_eq_true.1 this t ht)
theorem Zh4 (os:Os) (args:Array Value):laidMetH Tryz.prog Rows.corePlaysRow.laid ((World.doorLaid Tryz.prog 400 os).forCall (fun _ _=>0) ⟨#[],args,[]⟩).memory:=
 laidMetH_of_parts3 (fuel:=8) (laidMet_of_run' 8 (by kernel_rfl) (by kernel_rfl)) (by kernel_rfl) (by kernel_rfl)
theorem lifted (os:Os) (started:os.Started) (H:Type) (enc:TypeId×Value→H) :
 ReturnsInHanded {} Tryz.checked os 3 .any (fun w args=>(Rows.corePlaysSpec.pre enc Tryz.prog Tryz.f3 [] false w args∧laidMetH Tryz.prog Rows.corePlaysRow.laid w)∧sizedMet enc Tryz.prog Tryz.f3 (OpenSpec.ofChange Rows.corePlaysSpec) false w args)
  (Rows.corePlaysSpec.post enc Tryz.prog Tryz.f3 false true false false):=by
 refine SX.returns_shaped (C:=Tryz.checked) (X:=fun w _=>laidMetH Tryz.prog Rows.corePlaysRow.laid w) (fun _ _ _ hh h=>h.of_heap hh) own started (by kernel_rfl) Tryz.func3
  (ChangeSpec.witness_shaped (enc:=enc) (C:=Tryz.checked) (os:=os) (X:=fun w _=>laidMetH Tryz.prog Rows.corePlaysRow.laid w) false (World.doorLaid Tryz.prog 400 os) #[.agg #[.int .i64 0,.string ⟨#[]⟩,.int .i64 0,.int .i64 0,.int .i64 0,.int .i64 0,.int .i64 0,.int .i64 0,.int .i64 0,.int .i64 0,.int .i64 0,.int .i64 0,.int .i64 0,.int .i64 0,.int .i64 0,.int .i64 0,.int .i64 0,.int .i64 0,.int .i64 0,.int .i64 0,.int .i64 0,.int .i64 0,.int .i64 0,.int .i64 0,.int .i64 0,.int .i64 0,.int .i64 0,.int .i64 0,.int .i64 0,.slice none 0 0,.int .i64 0,.slice none 0 0],.slice none 0 0] 8 rfl (World.shaped_of_RefB (by kernel_rfl) (by kernel_rfl)) (by kernel_rfl) (by kernel_rfl) (by kernel_rfl) (Zh4 os _)) ?_
 intro W base args ds gs before hval0 hW hz hL hSh
 have hval:∀ (j:Nat) t v,Tryz.f3.params[j]?=some t→args[j]?=some v→Value.okWide Tryz.prog W .any base t v:=hval0
 have hW':=hW
 obtain ⟨p,q,hA0,hV,rfl,hfz,hnd⟩:=hW
 have hA:DataW.TrodAll enc Tryz.prog W 0 (fun _=>true) true Tryz.f3.params.toList args.toList ds p:=hA0
 rw [Tryz.params3] at hA hval
 obtain ⟨v0,v1,d0,d1,p0,p1,rfl,rfl,rfl,h0,h1⟩:=trodAll_two hA
 obtain ⟨rfl,rfl⟩:=trodVars_none hV
 obtain ⟨x0,rfl,k0,w0⟩:=Zfj (hval 0 _ v0 rfl rfl) h0
 obtain ⟨x1,a1,c1,rfl,k1,_⟩:=Zfz (hval 1 _ v1 rfl rfl) h1
 clear hA0 hval0
 have hT:=SX.tabsIn_row hL rfl hSh (List.mem_of_getElem? (i:=0) rfl) (List.mem_of_getElem? (i:=1) rfl) (List.mem_of_getElem? (i:=2) rfl) (List.mem_of_getElem? (i:=3) rfl) (List.mem_of_getElem? (i:=4) rfl) (List.mem_of_getElem? (i:=6) rfl) (by kernel_rfl) (by kernel_rfl) (by kernel_rfl) (by kernel_rfl) (by kernel_rfl) (by kernel_rfl)
 refine (SX.law_callsM (args:=[.agg (SX.tsenc x0),.imm SX.Act SX.act0 2 SX.aenc x1 a1 c1]) Tryz.func3 rfl rfl (SX.plays_ok x0 x1 a1 c1 w0) W hT (fun _=>true) ?_ (by simp [SX.den,SX.denL,SX.wrapV,SX.cells])).mono fun e W' ⟨he,hk,ho,hu⟩=>?_
 ·exact ⟨⟨rfl,k0⟩,⟨rfl,k1⟩,trivial⟩
 subst he
 exact ⟨_,rfl,SX.post_kept hk ZhB Zg4 (fun n hn=>by cases hn) hW' ho hu rfl rfl rfl (fun _ _ _=>trodAll_mk1 (shut_bool Tryz.underlying4 _)) (ok_one (by kernel_rfl) rfl (okWide_bool_mk Tryz.underlying4 _))⟩
theorem fact0:(fun (P:Program) (f:FuncId) (fn:Func) (s:ChangeSpec) (c:OpenClaim)=>c.wf (OpenSpec.ofChange s)) Tryz.prog 3 Tryz.f3 Rows.corePlaysSpec Rows.corePlaysRow=true:=by kernel_rfl
theorem fact1:(fun (P:Program) (f:FuncId) (fn:Func) (s:ChangeSpec) (c:OpenClaim)=>laidOutB P) Tryz.prog 3 Tryz.f3 Rows.corePlaysSpec Rows.corePlaysRow=true:=by kernel_rfl
theorem fact2:(fun (P:Program) (f:FuncId) (fn:Func) (s:ChangeSpec) (c:OpenClaim)=>mapsRowed P) Tryz.prog 3 Tryz.f3 Rows.corePlaysSpec Rows.corePlaysRow=true:=by kernel_rfl
theorem fact3:(fun (P:Program) (f:FuncId) (fn:Func) (s:ChangeSpec) (c:OpenClaim)=>fn.params.all (P.readableRec ·)) Tryz.prog 3 Tryz.f3 Rows.corePlaysSpec Rows.corePlaysRow=true:=by kernel_rfl
theorem fact4:(fun (P:Program) (f:FuncId) (fn:Func) (s:ChangeSpec) (c:OpenClaim)=>namedTie P c.named s.vars) Tryz.prog 3 Tryz.f3 Rows.corePlaysSpec Rows.corePlaysRow=true:=by kernel_rfl
theorem fact5:(fun (P:Program) (f:FuncId) (fn:Func) (s:ChangeSpec) (c:OpenClaim)=>(c.stops == [])) Tryz.prog 3 Tryz.f3 Rows.corePlaysSpec Rows.corePlaysRow=true:=by kernel_rfl
theorem fact6:(fun (P:Program) (f:FuncId) (fn:Func) (s:ChangeSpec) (c:OpenClaim)=>(P.stops == [])) Tryz.prog 3 Tryz.f3 Rows.corePlaysSpec Rows.corePlaysRow=true:=by kernel_rfl
theorem fact7:(fun (P:Program) (f:FuncId) (fn:Func) (s:ChangeSpec) (c:OpenClaim)=>(c.knobs == [])) Tryz.prog 3 Tryz.f3 Rows.corePlaysSpec Rows.corePlaysRow=true:=by kernel_rfl
theorem fact8:(fun (P:Program) (f:FuncId) (fn:Func) (s:ChangeSpec) (c:OpenClaim)=>(P.stopKnobs == [])) Tryz.prog 3 Tryz.f3 Rows.corePlaysSpec Rows.corePlaysRow=true:=by kernel_rfl
theorem fact9:(fun (P:Program) (f:FuncId) (fn:Func) (s:ChangeSpec) (c:OpenClaim)=>(c.inPlace == P.inPlace f)) Tryz.prog 3 Tryz.f3 Rows.corePlaysSpec Rows.corePlaysRow=true:=by kernel_rfl
theorem fact10:(fun (P:Program) (f:FuncId) (fn:Func) (s:ChangeSpec) (c:OpenClaim)=>(c.unfollowed == P.unfollowed f)) Tryz.prog 3 Tryz.f3 Rows.corePlaysSpec Rows.corePlaysRow=true:=by kernel_rfl
theorem fact11:(fun (P:Program) (f:FuncId) (fn:Func) (s:ChangeSpec) (c:OpenClaim)=>(c.recurses == P.recurses f)) Tryz.prog 3 Tryz.f3 Rows.corePlaysSpec Rows.corePlaysRow=true:=by kernel_rfl
theorem fact12:(fun (P:Program) (f:FuncId) (fn:Func) (s:ChangeSpec) (c:OpenClaim)=>(c.named == P.varsNamed f)) Tryz.prog 3 Tryz.f3 Rows.corePlaysSpec Rows.corePlaysRow=true:=by kernel_rfl
theorem fact13:(fun (P:Program) (f:FuncId) (fn:Func) (s:ChangeSpec) (c:OpenClaim)=>(c.maps == (fn.params.toList++s.plain.varTypes P).any (P.mapsRec ·))) Tryz.prog 3 Tryz.f3 Rows.corePlaysSpec Rows.corePlaysRow=true:=by kernel_rfl
theorem fact14:(fun (P:Program) (f:FuncId) (fn:Func) (s:ChangeSpec) (c:OpenClaim)=>(c.ifaces == (fn.params.toList++s.plain.varTypes P).any (P.ifacesRec ·))) Tryz.prog 3 Tryz.f3 Rows.corePlaysSpec Rows.corePlaysRow=true:=by kernel_rfl
theorem fact15:(fun (P:Program) (f:FuncId) (fn:Func) (s:ChangeSpec) (c:OpenClaim)=>(c.mapsOut == P.mapsAmong fn.resultTypes.toList)) Tryz.prog 3 Tryz.f3 Rows.corePlaysSpec Rows.corePlaysRow=true:=by kernel_rfl
theorem fact16:(fun (P:Program) (f:FuncId) (fn:Func) (s:ChangeSpec) (c:OpenClaim)=>(c.loops == (fn.params.toList++s.plain.varTypes P).any (P.loopsFrom ·))) Tryz.prog 3 Tryz.f3 Rows.corePlaysSpec Rows.corePlaysRow=true:=by kernel_rfl
theorem fact17:(fun (P:Program) (f:FuncId) (fn:Func) (s:ChangeSpec) (c:OpenClaim)=>(c.wideKeys == (fn.params.toList++s.plain.varTypes P++fn.resultTypes.toList).any (P.wideKeysFrom ·))) Tryz.prog 3 Tryz.f3 Rows.corePlaysSpec Rows.corePlaysRow=true:=by kernel_rfl
theorem fact18:(fun (P:Program) (f:FuncId) (fn:Func) (s:ChangeSpec) (c:OpenClaim)=>s.vars.all (P.varReadable ·)) Tryz.prog 3 Tryz.f3 Rows.corePlaysSpec Rows.corePlaysRow=true:=by kernel_rfl
theorem fact19:(fun (P:Program) (f:FuncId) (fn:Func) (s:ChangeSpec) (c:OpenClaim)=>fn.resultTypes.all (fun t=>P.readableRec t&&decide (t < P.types.size))) Tryz.prog 3 Tryz.f3 Rows.corePlaysSpec Rows.corePlaysRow=true:=by kernel_rfl
theorem fact20:(fun (P:Program) (f:FuncId) (fn:Func) (s:ChangeSpec) (c:OpenClaim)=>(c.ifacesOut == fn.resultTypes.toList.any (P.ifacesRec ·))) Tryz.prog 3 Tryz.f3 Rows.corePlaysSpec Rows.corePlaysRow=true:=by kernel_rfl
theorem fact21:(fun (P:Program) (f:FuncId) (fn:Func) (s:ChangeSpec) (c:OpenClaim)=>(c.loopsOut == fn.resultTypes.toList.any (P.loopsFrom ·))) Tryz.prog 3 Tryz.f3 Rows.corePlaysSpec Rows.corePlaysRow=true:=by kernel_rfl
theorem fact22:(fun (P:Program) (f:FuncId) (fn:Func) (s:ChangeSpec) (c:OpenClaim)=>(c.plainKeys == P.plainKeys)) Tryz.prog 3 Tryz.f3 Rows.corePlaysSpec Rows.corePlaysRow=true:=by kernel_rfl
theorem fact23:(fun (P:Program) (f:FuncId) (fn:Func) (s:ChangeSpec) (c:OpenClaim)=>c.shortTexts.isNone) Tryz.prog 3 Tryz.f3 Rows.corePlaysSpec Rows.corePlaysRow=true:=by kernel_rfl
theorem fact24:(fun (P:Program) (f:FuncId) (fn:Func) (s:ChangeSpec) (c:OpenClaim)=>P.stopsHeard) Tryz.prog 3 Tryz.f3 Rows.corePlaysSpec Rows.corePlaysRow=true:=by kernel_rfl
theorem fact25:(fun (P:Program) (f:FuncId) (fn:Func) (s:ChangeSpec) (c:OpenClaim)=>P.mayEnter) Tryz.prog 3 Tryz.f3 Rows.corePlaysSpec Rows.corePlaysRow=true:=by kernel_rfl
theorem fact26:(fun (P:Program) (f:FuncId) (fn:Func) (s:ChangeSpec) (c:OpenClaim)=>(c.lifted == P.liftsFinal)) Tryz.prog 3 Tryz.f3 Rows.corePlaysSpec Rows.corePlaysRow=true:=by kernel_rfl
theorem fact27:(fun (P:Program) (f:FuncId) (fn:Func) (s:ChangeSpec) (c:OpenClaim)=>(P.make == some c.make)) Tryz.prog 3 Tryz.f3 Rows.corePlaysSpec Rows.corePlaysRow=true:=by kernel_rfl
theorem fact28:(fun (P:Program) (f:FuncId) (fn:Func) (s:ChangeSpec) (c:OpenClaim)=>(c.kinds == (if c.domain.isEmpty then [] else fn.params.toList.map fun t=>match P.underlying t with | some (.int k)=>some k | _=>none))) Tryz.prog 3 Tryz.f3 Rows.corePlaysSpec Rows.corePlaysRow=true:=by kernel_rfl
theorem fact29:(fun (P:Program) (f:FuncId) (fn:Func) (s:ChangeSpec) (c:OpenClaim)=>(c.pinned == c.pinnedBy)) Tryz.prog 3 Tryz.f3 Rows.corePlaysSpec Rows.corePlaysRow=true:=by kernel_rfl
theorem fact30:(fun (P:Program) (f:FuncId) (fn:Func) (s:ChangeSpec) (c:OpenClaim)=>(c.veiled == (fn.params.toList++s.plain.varTypes P++fn.resultTypes.toList).any (P.veiledRec ·))) Tryz.prog 3 Tryz.f3 Rows.corePlaysSpec Rows.corePlaysRow=true:=by kernel_rfl
theorem fact31:(fun (P:Program) (f:FuncId) (fn:Func) (s:ChangeSpec) (c:OpenClaim)=>c.veiledFits P fn.params.toList (fn.params.toList++s.plain.varTypes P++fn.resultTypes.toList)) Tryz.prog 3 Tryz.f3 Rows.corePlaysSpec Rows.corePlaysRow=true:=by kernel_rfl
theorem facts:joinedFacts Tryz.prog 3 Tryz.f3 Rows.corePlaysSpec Rows.corePlaysRow=true:=ZgD fact0 fact1 fact2 fact3 fact4 fact5 fact6 fact7 fact8 fact9 fact10 fact11 fact12 fact13 fact14 fact15 fact16 fact17 fact18 fact19 fact20 fact21 fact22 fact23 fact24 fact25 fact26 fact27 fact28 fact29 fact30 fact31
theorem fnamed:Tryz.prog.funcNamed "belated/belatedlaw14.CorePlays" = some 3:=by kernel_rfl
theorem instOk:Tryz.f3.isInstance Tryz.prog Rows.corePlaysRow.origin Rows.corePlaysRow.targs:=of_decide_eq_true (by kernel_rfl)
theorem wrapOk:Tryz.f3.isWrapper Tryz.prog Rows.corePlaysRow.wrapper Rows.corePlaysRow.mainSum:=by
 unfold Func.isWrapper;first | (rw [if_pos (by decide +kernel)];kernel_rfl) | (rw [if_neg (by decide +kernel)];exact ⟨rfl,rfl⟩)
theorem Z9f:Rows.CorePlaysSaid:=
 OpenClaim.holds_of_wide 3 Tryz.f3 rfl rfl rfl rfl rfl rfl rfl ⟨rfl,rfl,rfl,rfl,rfl⟩ rfl rfl rfl rfl rfl fnamed Tryz.func3 facts instOk wrapOk
  (fun os started H enc _=>lifted os started H enc)
theorem wfText:Rows.corePlaysRow.wfByText (OpenSpec.ofChange Rows.corePlaysSpec)=true:=by kernel_rfl
theorem mainOk:Tryz.prog.mainIs=some (true, "b127fd35cc8393070ca2305a2e908d867bb69753376ec74e21f66be69781b9f4".toList):=by kernel_rfl
theorem Ziq:true=Tryz.prog.looks []:=by kernel_rfl
theorem Zir:([28,29].all fun u=>!Tryz.prog.wantsStandIn u)=true:=by kernel_rfl
theorem goesOk:false=Rows.corePlaysRow.goesBy Tryz.prog:=by kernel_rfl
theorem corePlays_card:Rows.CorePlaysCardSaid:=
 Claim7.holds_tied_plain_at .later [] [.data,.data,.data,.sentinel,.sentinel,.listed,.data] true (true, "b127fd35cc8393070ca2305a2e908d867bb69753376ec74e21f66be69781b9f4") true
  Z9f (fun _ h=>by cases h) wfText (fun _ h=>by cases h) corePlays_row_tie rfl ⟨rfl,rfl⟩ mainOk rfl
  (fun f fn hf hfn=>by
   obtain rfl:f=3:=Option.some.inj (fnamed.symm.trans hf) |>.symm
   obtain rfl:fn=Tryz.f3:=(Option.some.inj (Tryz.func3.symm.trans hfn)).symm
   exact ⟨Ziq,fun j t ht=>by
    have ht:[28,29].toArray[j]?=some t:=by rw [Tryz.params3] at ht;exact ht
    have hm:t ∈ [28,29]:=by simpa using Array.mem_of_getElem? ht
    exact (show Tryz.prog.wantsStandIn t=false by simpa using List.all_eq_true.1 Zir t hm)⟩)
  goesOk
#print axioms corePlays_card
end Go.Proofs.YtdddpbmcoimgdaaGreatDoor
