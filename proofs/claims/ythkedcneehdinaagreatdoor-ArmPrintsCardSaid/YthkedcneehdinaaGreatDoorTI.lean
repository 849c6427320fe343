/- ArmPrints: any instruction as an Arm text, or why it has none, and the names of registers, are as the document says. -/
import Derived.Test.YthkedcneehdinaaGreatDoorRows
import Derived.ProofKit
import Derived.LaidMore
import Derived.OpenShut
import Derived.Stop.Joined
import Derived.Carry
import Derived.SizedLaws
import Derived.ChangeMaps5
import Derived.JoinedOf
import Derived.Test.YthkedcneehdinaaGreatDoorCards
import Derived.Test.YthkedcneehdinaaGreatDoorTie
import Derived.SevenTiedAt
import Derived.Test.YthkedcneehdinaaGreatDoorTH
set_option linter.unusedVariables false
set_option linter.unusedSimpArgs false
set_option linter.unusedSectionVars false
/- Rows: instructions that come in. Written by rwa.py. -/
set_option linter.unusedVariables false
set_option maxRecDepth 100000
namespace Go.Proofs.YthkedcneehdinaaGreatDoor
open Go Go.ChangeShapes Go.WideShapes Go.ChangeAt Go.RowKit
theorem own : ownKnob Tryz.prog.godebug = none := by kernel_rfl
theorem compsOk : ∀ t, t < Tryz.prog.types.size → SX.CompsOk Tryz.prog (· < Tryz.prog.types.size) t := SX.compsOk_of (by kernel_rfl)
namespace SX
theorem wf64 {n : Int} (h : (Lit.int .i64 n).wf = true) : in64 n := by
  have h : (decide (IntKind.i64.min ≤ n) && decide (n ≤ IntKind.i64.max)) = true := h
  simp only [Bool.and_eq_true, decide_eq_true_eq] at h
  exact h
theorem LKs_i {ls : List LK} {row : List Value} (h : LKs (.i .i64 :: ls) row) : ∃ n r, row = .int .i64 n :: r ∧ in64 n ∧ LKs ls r := by
  cases row with
  | nil => exact h.elim
  | cons v r => obtain ⟨⟨n, rfl, w⟩, h2⟩ := h; exact ⟨n, r, rfl, wf64 w, h2⟩
theorem LKs_b {ls : List LK} {row : List Value} (h : LKs (.b :: ls) row) : ∃ n r, row = .bool n :: r ∧ LKs ls r := by
  cases row with
  | nil => exact h.elim
  | cons v r => obtain ⟨⟨n, rfl⟩, h2⟩ := h; exact ⟨n, r, rfl, h2⟩
theorem LKs_nil {row : List Value} (h : LKs [] row) : row = [] := by
  cases row with
  | nil => rfl
  | cons v r => exact h.elim
/-- An instruction of machine numbers. -/
structure InW (i : In) : Prop where
  op : in64 i.op
  dst : in64 i.dst
  a : in64 i.a
  b : in64 i.b
  imm : in64 i.imm
  loc : in64 i.loc
  off : in64 i.off
  ix : in64 i.ix
  sz : in64 i.sz
  fn : in64 i.fn
  pr : in64 i.pr
  su : in64 i.su
  to : in64 i.to
def insLs : List LK := [.i .i64, .i .i64, .i .i64, .i .i64, .i .i64, .i .i64, .i .i64, .i .i64, .i .i64, .i .i64, .b, .b, .b, .i .i64, .i .i64, .i .i64, .b]
theorem in_dec (row : List Value) (h : LKs insLs row) : ∃ i : In, row = cellsL E0 (ienc i) ∧ InW i := by
  unfold insLs at h
  obtain ⟨x0, row0, rfl, w0, h0⟩ := LKs_i h
  obtain ⟨x1, row1, rfl, w1, h1⟩ := LKs_i h0
  obtain ⟨x2, row2, rfl, w2, h2⟩ := LKs_i h1
  obtain ⟨x3, row3, rfl, w3, h3⟩ := LKs_i h2
  obtain ⟨x4, row4, rfl, w4, h4⟩ := LKs_i h3
  obtain ⟨x5, row5, rfl, w5, h5⟩ := LKs_i h4
  obtain ⟨x6, row6, rfl, w6, h6⟩ := LKs_i h5
  obtain ⟨x7, row7, rfl, w7, h7⟩ := LKs_i h6
  obtain ⟨x8, row8, rfl, w8, h8⟩ := LKs_i h7
  obtain ⟨x9, row9, rfl, w9, h9⟩ := LKs_i h8
  obtain ⟨x10, row10, rfl, h10⟩ := LKs_b h9
  obtain ⟨x11, row11, rfl, h11⟩ := LKs_b h10
  obtain ⟨x12, row12, rfl, h12⟩ := LKs_b h11
  obtain ⟨x13, row13, rfl, w13, h13⟩ := LKs_i h12
  obtain ⟨x14, row14, rfl, w14, h14⟩ := LKs_i h13
  obtain ⟨x15, row15, rfl, w15, h15⟩ := LKs_i h14
  obtain ⟨x16, row16, rfl, h16⟩ := LKs_b h15
  obtain rfl := LKs_nil h16
  exact ⟨⟨x0, x1, x2, x3, x4, x5, x6, x7, x8, x9, x10, x11, x12, x13, x14, x15, x16⟩, rfl, ⟨w0, w1, w2, w3, w4, w5, w6, w7, w8, w9, w13, w14, w15⟩⟩
end SX
theorem and_tt {a b : Bool} (h1 : a = true) (h2 : b = true) : (a && b) = true := by rw [h1, h2]; rfl
theorem facts_of {P : Program} {f : FuncId} {fn : Func} {s : ChangeSpec} {c : OpenClaim} (h0 : (c.wf (OpenSpec.ofChange s)) = true) (h1 : (laidOutB P) = true) (h2 : (mapsRowed P) = true) (h3 : (fn.params.all (P.readableRec ·)) = true) (h4 : (namedTie P c.named s.vars) = true) (h5 : ((c.stops == [])) = true) (h6 : ((P.stops == [])) = true) (h7 : ((c.knobs == [])) = true) (h8 : ((P.stopKnobs == [])) = true) (h9 : ((c.inPlace == P.inPlace f)) = true) (h10 : ((c.unfollowed == P.unfollowed f)) = true) (h11 : ((c.recurses == P.recurses f)) = true) (h12 : ((c.named == P.varsNamed f)) = true) (h13 : ((c.maps == (fn.params.toList ++ s.plain.varTypes P).any (P.mapsRec ·))) = true) (h14 : ((c.ifaces == (fn.params.toList ++ s.plain.varTypes P).any (P.ifacesRec ·))) = true) (h15 : ((c.mapsOut == P.mapsAmong fn.resultTypes.toList)) = true) (h16 : ((c.loops == (fn.params.toList ++ s.plain.varTypes P).any (P.loopsFrom ·))) = true) (h17 : ((c.wideKeys == (fn.params.toList ++ s.plain.varTypes P ++ fn.resultTypes.toList).any (P.wideKeysFrom ·))) = true) (h18 : (s.vars.all (P.varReadable ·)) = true) (h19 : (fn.resultTypes.all (fun t => P.readableRec t && decide (t < P.types.size))) = true) (h20 : ((c.ifacesOut == fn.resultTypes.toList.any (P.ifacesRec ·))) = true) (h21 : ((c.loopsOut == fn.resultTypes.toList.any (P.loopsFrom ·))) = true) (h22 : ((c.plainKeys == P.plainKeys)) = true) (h23 : (c.shortTexts.isNone) = true) (h24 : (P.stopsHeard) = true) (h25 : (P.mayEnter) = true) (h26 : ((c.lifted == P.liftsFinal)) = true) (h27 : ((P.make == some c.make)) = true) (h28 : ((c.kinds == (if c.domain.isEmpty then [] else fn.params.toList.map fun t => match P.underlying t with | some (.int k) => some k | _ => none))) = true) (h29 : ((c.pinned == c.pinnedBy)) = true) (h30 : ((c.veiled == (fn.params.toList ++ s.plain.varTypes P ++ fn.resultTypes.toList).any (P.veiledRec ·))) = true) (h31 : (c.veiledFits P fn.params.toList (fn.params.toList ++ s.plain.varTypes P ++ fn.resultTypes.toList)) = true) : joinedFacts P f fn s c = true := by
  unfold joinedFacts
  exact (and_tt (and_tt (and_tt (and_tt (and_tt (and_tt (and_tt (and_tt (and_tt (and_tt (and_tt (and_tt (and_tt (and_tt (and_tt (and_tt (and_tt (and_tt (and_tt (and_tt (and_tt (and_tt (and_tt (and_tt (and_tt (and_tt (and_tt (and_tt (and_tt (and_tt (and_tt h0 h1) h2) h3) h4) h5) h6) h7) h8) h9) h10) h11) h12) h13) h14) h15) h16) h17) h18) h19) h20) h21) h22) h23) h24) h25) h26) h27) h28) h29) h30) h31)
section
variable {H : Type} {enc : TypeId × Value → H} {W : World} {b0 : Nat} {v : Value} {d : DataW H} {p : List MemPlace} {base : Nat} {spare : Nat → Bool} {held : Bool}
theorem ins_open (hv : Value.okWide Tryz.prog W .any b0 23 v) (h : DataW.Trod enc Tryz.prog W base spare held 23 v d p) : ∃ i : SX.In, v = SX.den (fun _ _ => none) (.agg (SX.ienc i)) ∧ SX.InW i := by
  obtain ⟨cs, rfl, hl⟩ := SX.open_agg (f := 40) (ls := SX.insLs) ⟨_, Tryz.underlying23⟩ (by kernel_rfl) (by kernel_rfl) hv h
  obtain ⟨i, rfl, hi⟩ := SX.in_dec cs hl
  exact ⟨i, by rw [SX.den_agg]; rfl, hi⟩
end
end Go.Proofs.YthkedcneehdinaaGreatDoor

/- ArmPrints: the law's contract. Printed by vlp.py. -/
set_option linter.unusedVariables false
set_option maxRecDepth 100000
namespace Go.Proofs.YthkedcneehdinaaGreatDoor
namespace SX
open Go Go.Proofs
set_option maxHeartbeats 1000000 in
theorem rprint3_ok (i : In) (lb t : List UInt8) (hb : formP i = true → CtrV Tryz.prog 51 [.i .i64 3, .agg (ienc i), .s lb] (.s t)) (ho : CtrV Tryz.prog 52 [.s lb] (.b (namedF lb))) :
    CtrV Tryz.prog 17 [.i .i64 3, .agg (ienc i), .s lb] (ansF i lb t) := by
  have hend : ∀ j : In, formP j = formP i → (rgtF j 0 1 = 34 ∨ rgtF j 0 1 = 0) → rgtF j 0 1 = if formP i = true then 0 else 34 := by
    intro j hj hr
    cases hf : formP i with
    | false => exact rgt_no (hj.trans hf)
    | true =>
      rw [rgt_yes (hj.trans hf)] at hr ⊢
      split at hr
      · omega
      · rename_i h; rw [if_neg h]; rfl
  refine Ctr.enterV tabOkF (fn := Tryz.f17) rfl rfl rfl rfl rfl (ansF_any (p := fun r => nm r = true) fun _ _ => rfl) ?_
  refine ⟨fun h9 => ?_, fun h9 => ?_⟩
  · have h9 : i.op = 9 := of_decide_eq_true h9
    have hj : formP { i with to := 1 } = formP i := by
      obtain ⟨op, dst, a, b, imm, loc, off, ix, sz, fn, acq, wk, rel, pr, su, to, ze⟩ := i
      simp only at h9; subst h9
      show form9 _ = form9 _
      unfold form9 eqI
      simp
    have hr := hend { i with to := 1 } hj (by unfold rgtF toX; cases formP { i with to := 1 } <;> simp)
    refine OpC.callV rfl rfl rfl rfl rfl rfl rfl (fun _ => rright3_ok { i with to := 1 } 0 1) ?_
    unfold ansF
    cases hf : formP i with
    | false =>
      rw [hf] at hr
      refine ⟨fun _ => rfl, fun h => ?_⟩
      have h : (!decide (rgtF { i with to := 1 } 0 1 = 0)) = false := h
      rw [hr] at h
      exact absurd h (by decide)
    | true =>
      rw [hf] at hr
      have hb := hb hf
      refine ⟨fun h => ?_, fun _ => ?_⟩
      · have h : (!decide (rgtF { i with to := 1 } 0 1 = 0)) = true := h
        rw [hr] at h
        exact absurd h (by decide)
      refine OpC.callV rfl rfl rfl rfl rfl rfl rfl (fun _ => hb) ?_
      rw [if_neg (by decide)]
      refine ⟨fun h => ?_, fun h => ?_⟩
      · have h : t = [] := of_decide_eq_true h
        rw [if_pos h]
        exact rfl
      · have h : ¬ t = [] := of_decide_eq_false h
        rw [if_neg h]
        refine OpC.callV rfl rfl rfl rfl rfl rfl rfl (fun _ => ho) ?_
        refine ⟨fun h2 => ?_, fun h2 => ?_⟩
        · have h2 : (decide (i.op = 9) && !namedF lb) = true := h2
          rw [if_pos (by simpa using h2)]
          exact rfl
        · have h2 : (decide (i.op = 9) && !namedF lb) = false := h2
          rw [if_neg (by intro hh; rw [hh.2, decide_eq_true hh.1] at h2; cases h2)]
          exact rfl
  · have h9 : ¬ i.op = 9 := of_decide_eq_false h9
    have hr := hend i rfl (by unfold rgtF toX; rw [decide_eq_false h9]; cases formP i <;> simp)
    refine OpC.callV rfl rfl rfl rfl rfl rfl rfl (fun _ => rright3_ok i 0 1) ?_
    unfold ansF
    cases hf : formP i with
    | false =>
      rw [hf] at hr
      refine ⟨fun _ => rfl, fun h => ?_⟩
      have h : (!decide (rgtF i 0 1 = 0)) = false := h
      rw [hr] at h
      exact absurd h (by decide)
    | true =>
      rw [hf] at hr
      have hb := hb hf
      refine ⟨fun h => ?_, fun _ => ?_⟩
      · have h : (!decide (rgtF i 0 1 = 0)) = true := h
        rw [hr] at h
        exact absurd h (by decide)
      refine OpC.callV rfl rfl rfl rfl rfl rfl rfl (fun _ => hb) ?_
      rw [if_neg (by decide)]
      refine ⟨fun h => ?_, fun h => ?_⟩
      · have h : t = [] := of_decide_eq_true h
        rw [if_pos h]
        exact rfl
      · have h : ¬ t = [] := of_decide_eq_false h
        rw [if_neg h]
        refine OpC.callV rfl rfl rfl rfl rfl rfl rfl (fun _ => ho) ?_
        refine ⟨fun h2 => ?_, fun h2 => ?_⟩
        · have h2 : (decide (i.op = 9) && !namedF lb) = true := h2
          rw [if_pos (by simpa using h2)]
          exact rfl
        · have h2 : (decide (i.op = 9) && !namedF lb) = false := h2
          rw [if_neg (by intro hh; rw [hh.2, decide_eq_true hh.1] at h2; cases h2)]
          exact rfl
theorem armReg_ok (v : List UInt8) : CtrV Tryz.prog 28 [.s v] (.i .i64 (idxF [88, 48] [88, 49] [88, 50] [88, 51] [88, 52] [88, 53] [88, 54] [88, 55] v)) := by
  refine Ctr.enterV tabOkF (fn := Tryz.f28) rfl rfl rfl rfl rfl rfl ?_
  refine OpC.callL rfl rfl rfl rfl [] 2 rfl rfl rfl arm_lang rfl rfl rfl rfl trivial rfl (fun r H' hk => ?_) ?_
  · obtain ⟨rfl, rfl⟩ := hk; exact ⟨Nat.zero_le _, Nat.le_refl _⟩
  rintro r H' ⟨rfl, rfl⟩
  refine OpC.callG rfl rfl rfl rfl rfl rfl (fun _ => lreg_ok [88, 48] [88, 49] [88, 50] [88, 51] [88, 52] [88, 53] [88, 54] [88, 55] [35] v 103 104) ?_
  exact rfl
theorem armPrints_ok (i : In) (lb : List UInt8) (reg : Int) (nm : List UInt8) (hi : InW i) (hl : lb.length ≤ 2 ^ 47) (hr : in64 reg) (hn : nm.length ≤ 2 ^ 47) : CtrV Tryz.prog 7 [.agg (ienc i), .s lb, .i .i64 reg, .s nm] (.b true) := by
  refine Ctr.enterV tabOkF (fn := Tryz.f7) rfl rfl rfl rfl rfl rfl ?_
  refine OpC.callV rfl rfl rfl rfl rfl rfl rfl (fun _ => able7_ok) ?_
  refine ⟨fun h => no_ft h, fun _ => ?_⟩
  have e : IntKind.i64.wrap ((lb.length : Int) + (nm.length : Int)) = (lb.length : Int) + (nm.length : Int) := w64 (by omega) (by omega)
  refine ⟨fun _ => rfl, fun h1 => ?_⟩
  have h1 : ¬ (8000 : Int) < IntKind.i64.wrap ((lb.length : Int) + (nm.length : Int)) := of_decide_eq_false h1
  rw [e] at h1
  have c1 := armPrintT i lb hi.imm (by omega)
  have c2 := rprint3_ok i lb (paT i lb) (fun h => Atx_ok i lb h hi.imm (by omega)) (oneName_ok lb)
  obtain ⟨x, n, hx⟩ : ∃ x n, ansF i lb (paT i lb) = .tup [.s x, .i .i64 n] := ansF_any (p := fun r => ∃ x n, r = .tup [.s x, .i .i64 n]) fun x n => ⟨x, n, rfl⟩
  rw [hx] at c1 c2
  refine OpC.callV rfl rfl rfl rfl rfl rfl rfl (fun _ => c1) ?_
  refine OpC.callV rfl rfl rfl rfl rfl rfl rfl (fun _ => c2) ?_
  refine OpC.callV rfl rfl rfl rfl rfl rfl rfl (fun _ => armName_ok reg) ?_
  refine OpC.callV rfl rfl rfl rfl rfl rfl rfl (fun _ => rname_ok 3 reg) ?_
  refine OpC.callV rfl rfl rfl rfl rfl rfl rfl (fun _ => armReg_ok nm) ?_
  refine OpC.callV rfl rfl rfl rfl rfl rfl rfl (fun _ => rreg3_ok nm) ?_
  refine b_cg ?_
  simp
end SX
end Go.Proofs.YthkedcneehdinaaGreatDoor

/- ArmPrints: the row. Written by row.py. -/
set_option linter.unusedVariables false
set_option linter.unusedSimpArgs false
set_option maxRecDepth 100000
namespace Go.Proofs.YthkedcneehdinaaGreatDoor
open Go Go.ChangeShapes Go.WideShapes Go.ChangeAt Go.RowKit
theorem params_in : ∀ t ∈ Tryz.f7.params.toList, t < Tryz.prog.types.size := by
  have : (Tryz.f7.params.toList.all fun t => Nat.blt t Tryz.prog.types.size) = true := by kernel_rfl
  exact fun t ht => Nat.le_of_ble_eq_true (List.all_eq_true.1 this t ht)
theorem door_met (os : Os) (args : Array Value) : laidMetH Tryz.prog Rows.armPrintsRow.laid ((World.doorLaid Tryz.prog 400 os).forCall (fun _ _ => 0) ⟨#[], args, []⟩).memory :=
  laidMetH_of_parts3 (fuel := 8) (laidMet_of_run' 8 (by kernel_rfl) (by kernel_rfl)) (by kernel_rfl) (by kernel_rfl)
theorem lifted (os : Os) (started : os.Started) (H : Type) (enc : TypeId × Value → H) :
    ReturnsInHanded {} Tryz.checked os 7 .any (fun w args => (Rows.armPrintsSpec.pre enc Tryz.prog Tryz.f7 [] false w args ∧ laidMetH Tryz.prog Rows.armPrintsRow.laid w) ∧ sizedMet enc Tryz.prog Tryz.f7 (OpenSpec.ofChange Rows.armPrintsSpec) false w args)
      (Rows.armPrintsSpec.post enc Tryz.prog Tryz.f7 false true false false) := by
  refine SX.returns_shaped (C := Tryz.checked) (X := fun w _ => laidMetH Tryz.prog Rows.armPrintsRow.laid w) (fun _ _ _ hh h => h.of_heap hh) own started (by kernel_rfl) Tryz.func7
    (ChangeSpec.witness_shaped (enc := enc) (C := Tryz.checked) (os := os) (X := fun w _ => laidMetH Tryz.prog Rows.armPrintsRow.laid w) false (World.doorLaid Tryz.prog 400 os) #[.agg #[.int .i64 0, .int .i64 0, .int .i64 0, .int .i64 0, .int .i64 0, .int .i64 0, .int .i64 0, .int .i64 0, .int .i64 0, .int .i64 0, .bool false, .bool false, .bool false, .int .i64 0, .int .i64 0, .int .i64 0, .bool false], .string ⟨#[]⟩, .int .i64 0, .string ⟨#[]⟩] 8 rfl (World.shaped_of_RefB (by kernel_rfl) (by kernel_rfl)) (by kernel_rfl) (by kernel_rfl) (by kernel_rfl) (door_met os _)) ?_
  intro W base args ds gs before hval0 hW hz hL hSh
  have hval : ∀ (j : Nat) t v, Tryz.f7.params[j]? = some t → args[j]? = some v → Value.okWide Tryz.prog W .any base t v := hval0
  have hW' := hW
  obtain ⟨p, q, hA0, hV, rfl, hfz, hnd⟩ := hW
  have hA : DataW.TrodAll enc Tryz.prog W 0 (fun _ => true) true Tryz.f7.params.toList args.toList ds p := hA0
  rw [Tryz.params7] at hA hval
  obtain ⟨v0, v1, v2, v3, d0, d1, d2, d3, p0, p1, p2, p3, rfl, rfl, rfl, h0, h1, h2, h3⟩ := trodAll_four hA
  obtain ⟨rfl, rfl⟩ := trodVars_none hV
  obtain ⟨x0, rfl, w0⟩ := ins_open (hval 0 _ v0 rfl rfl) h0
  obtain ⟨s1, rfl, e1, _, _⟩ := Go.ChangeMaps.open_string Tryz.underlying9 (hval 1 _ v1 rfl rfl) h1
  have w1 := sized_string hz (j := 1) rfl (congrArg some e1)
  obtain ⟨x2, rfl, _, _, w2⟩ := open_int Tryz.underlying3 (hval 2 _ v2 rfl rfl) h2
  obtain ⟨s3, rfl, e3, _, _⟩ := Go.ChangeMaps.open_string Tryz.underlying9 (hval 3 _ v3 rfl rfl) h3
  have w3 := sized_string hz (j := 3) rfl (congrArg some e3)
  clear hA0 hval0
  have hT := SX.tabsIn_row hL rfl hSh (List.mem_of_getElem? (i := 0) rfl) (List.mem_of_getElem? (i := 1) rfl) (List.mem_of_getElem? (i := 2) rfl) (List.mem_of_getElem? (i := 3) rfl) (List.mem_of_getElem? (i := 4) rfl) (List.mem_of_getElem? (i := 6) rfl) (by kernel_rfl) (by kernel_rfl) (by kernel_rfl) (by kernel_rfl) (by kernel_rfl) (by kernel_rfl)
  refine (SX.law_callsM (args := [.agg (SX.ienc x0), .s s1.data.toList, .i .i64 x2, .s s3.data.toList]) Tryz.func7 rfl rfl (SX.armPrints_ok x0 s1.data.toList x2 s3.data.toList w0 (Nat.le_of_lt (Nat.lt_of_le_of_lt w1 reachBytes_lt)) (SX.wf64 w2) (Nat.le_of_lt (Nat.lt_of_le_of_lt w3 reachBytes_lt))) W hT (fun _ => false) ?_ (by simp [SX.den, SX.denL, SX.wrapV, SX.cells])).mono fun e W' ⟨he, hk, ho, hu⟩ => ?_
  · exact ⟨⟨rfl, by simp [SX.Ok, SX.ienc, SX.OkL, SX.isUnit]⟩, ⟨rfl, trivial⟩, ⟨rfl, trivial⟩, ⟨rfl, trivial⟩, trivial⟩
  subst he
  exact ⟨_, rfl, SX.post_kept hk compsOk params_in (fun n hn => by cases hn) hW' ho hu rfl rfl rfl (fun _ _ _ => trodAll_mk1 (shut_bool Tryz.underlying4 _)) (ok_one (by kernel_rfl) rfl (okWide_bool_mk Tryz.underlying4 _))⟩
theorem fact0 : (fun (P : Program) (f : FuncId) (fn : Func) (s : ChangeSpec) (c : OpenClaim) => c.wf (OpenSpec.ofChange s)) Tryz.prog 7 Tryz.f7 Rows.armPrintsSpec Rows.armPrintsRow = true := by kernel_rfl
theorem fact1 : (fun (P : Program) (f : FuncId) (fn : Func) (s : ChangeSpec) (c : OpenClaim) => laidOutB P) Tryz.prog 7 Tryz.f7 Rows.armPrintsSpec Rows.armPrintsRow = true := by kernel_rfl
theorem fact2 : (fun (P : Program) (f : FuncId) (fn : Func) (s : ChangeSpec) (c : OpenClaim) => mapsRowed P) Tryz.prog 7 Tryz.f7 Rows.armPrintsSpec Rows.armPrintsRow = true := by kernel_rfl
theorem fact3 : (fun (P : Program) (f : FuncId) (fn : Func) (s : ChangeSpec) (c : OpenClaim) => fn.params.all (P.readableRec ·)) Tryz.prog 7 Tryz.f7 Rows.armPrintsSpec Rows.armPrintsRow = true := by kernel_rfl
theorem fact4 : (fun (P : Program) (f : FuncId) (fn : Func) (s : ChangeSpec) (c : OpenClaim) => namedTie P c.named s.vars) Tryz.prog 7 Tryz.f7 Rows.armPrintsSpec Rows.armPrintsRow = true := by kernel_rfl
theorem fact5 : (fun (P : Program) (f : FuncId) (fn : Func) (s : ChangeSpec) (c : OpenClaim) => (c.stops == [])) Tryz.prog 7 Tryz.f7 Rows.armPrintsSpec Rows.armPrintsRow = true := by kernel_rfl
theorem fact6 : (fun (P : Program) (f : FuncId) (fn : Func) (s : ChangeSpec) (c : OpenClaim) => (P.stops == [])) Tryz.prog 7 Tryz.f7 Rows.armPrintsSpec Rows.armPrintsRow = true := by kernel_rfl
theorem fact7 : (fun (P : Program) (f : FuncId) (fn : Func) (s : ChangeSpec) (c : OpenClaim) => (c.knobs == [])) Tryz.prog 7 Tryz.f7 Rows.armPrintsSpec Rows.armPrintsRow = true := by kernel_rfl
theorem fact8 : (fun (P : Program) (f : FuncId) (fn : Func) (s : ChangeSpec) (c : OpenClaim) => (P.stopKnobs == [])) Tryz.prog 7 Tryz.f7 Rows.armPrintsSpec Rows.armPrintsRow = true := by kernel_rfl
theorem fact9 : (fun (P : Program) (f : FuncId) (fn : Func) (s : ChangeSpec) (c : OpenClaim) => (c.inPlace == P.inPlace f)) Tryz.prog 7 Tryz.f7 Rows.armPrintsSpec Rows.armPrintsRow = true := by kernel_rfl
theorem fact10 : (fun (P : Program) (f : FuncId) (fn : Func) (s : ChangeSpec) (c : OpenClaim) => (c.unfollowed == P.unfollowed f)) Tryz.prog 7 Tryz.f7 Rows.armPrintsSpec Rows.armPrintsRow = true := by kernel_rfl
theorem fact11 : (fun (P : Program) (f : FuncId) (fn : Func) (s : ChangeSpec) (c : OpenClaim) => (c.recurses == P.recurses f)) Tryz.prog 7 Tryz.f7 Rows.armPrintsSpec Rows.armPrintsRow = true := by kernel_rfl
theorem fact12 : (fun (P : Program) (f : FuncId) (fn : Func) (s : ChangeSpec) (c : OpenClaim) => (c.named == P.varsNamed f)) Tryz.prog 7 Tryz.f7 Rows.armPrintsSpec Rows.armPrintsRow = true := by kernel_rfl
theorem fact13 : (fun (P : Program) (f : FuncId) (fn : Func) (s : ChangeSpec) (c : OpenClaim) => (c.maps == (fn.params.toList ++ s.plain.varTypes P).any (P.mapsRec ·))) Tryz.prog 7 Tryz.f7 Rows.armPrintsSpec Rows.armPrintsRow = true := by kernel_rfl
theorem fact14 : (fun (P : Program) (f : FuncId) (fn : Func) (s : ChangeSpec) (c : OpenClaim) => (c.ifaces == (fn.params.toList ++ s.plain.varTypes P).any (P.ifacesRec ·))) Tryz.prog 7 Tryz.f7 Rows.armPrintsSpec Rows.armPrintsRow = true := by kernel_rfl
theorem fact15 : (fun (P : Program) (f : FuncId) (fn : Func) (s : ChangeSpec) (c : OpenClaim) => (c.mapsOut == P.mapsAmong fn.resultTypes.toList)) Tryz.prog 7 Tryz.f7 Rows.armPrintsSpec Rows.armPrintsRow = true := by kernel_rfl
theorem fact16 : (fun (P : Program) (f : FuncId) (fn : Func) (s : ChangeSpec) (c : OpenClaim) => (c.loops == (fn.params.toList ++ s.plain.varTypes P).any (P.loopsFrom ·))) Tryz.prog 7 Tryz.f7 Rows.armPrintsSpec Rows.armPrintsRow = true := by kernel_rfl
theorem fact17 : (fun (P : Program) (f : FuncId) (fn : Func) (s : ChangeSpec) (c : OpenClaim) => (c.wideKeys == (fn.params.toList ++ s.plain.varTypes P ++ fn.resultTypes.toList).any (P.wideKeysFrom ·))) Tryz.prog 7 Tryz.f7 Rows.armPrintsSpec Rows.armPrintsRow = true := by kernel_rfl
theorem fact18 : (fun (P : Program) (f : FuncId) (fn : Func) (s : ChangeSpec) (c : OpenClaim) => s.vars.all (P.varReadable ·)) Tryz.prog 7 Tryz.f7 Rows.armPrintsSpec Rows.armPrintsRow = true := by kernel_rfl
theorem fact19 : (fun (P : Program) (f : FuncId) (fn : Func) (s : ChangeSpec) (c : OpenClaim) => fn.resultTypes.all (fun t => P.readableRec t && decide (t < P.types.size))) Tryz.prog 7 Tryz.f7 Rows.armPrintsSpec Rows.armPrintsRow = true := by kernel_rfl
theorem fact20 : (fun (P : Program) (f : FuncId) (fn : Func) (s : ChangeSpec) (c : OpenClaim) => (c.ifacesOut == fn.resultTypes.toList.any (P.ifacesRec ·))) Tryz.prog 7 Tryz.f7 Rows.armPrintsSpec Rows.armPrintsRow = true := by kernel_rfl
theorem fact21 : (fun (P : Program) (f : FuncId) (fn : Func) (s : ChangeSpec) (c : OpenClaim) => (c.loopsOut == fn.resultTypes.toList.any (P.loopsFrom ·))) Tryz.prog 7 Tryz.f7 Rows.armPrintsSpec Rows.armPrintsRow = true := by kernel_rfl
theorem fact22 : (fun (P : Program) (f : FuncId) (fn : Func) (s : ChangeSpec) (c : OpenClaim) => (c.plainKeys == P.plainKeys)) Tryz.prog 7 Tryz.f7 Rows.armPrintsSpec Rows.armPrintsRow = true := by kernel_rfl
theorem fact23 : (fun (P : Program) (f : FuncId) (fn : Func) (s : ChangeSpec) (c : OpenClaim) => c.shortTexts.isNone) Tryz.prog 7 Tryz.f7 Rows.armPrintsSpec Rows.armPrintsRow = true := by kernel_rfl
theorem fact24 : (fun (P : Program) (f : FuncId) (fn : Func) (s : ChangeSpec) (c : OpenClaim) => P.stopsHeard) Tryz.prog 7 Tryz.f7 Rows.armPrintsSpec Rows.armPrintsRow = true := by kernel_rfl
theorem fact25 : (fun (P : Program) (f : FuncId) (fn : Func) (s : ChangeSpec) (c : OpenClaim) => P.mayEnter) Tryz.prog 7 Tryz.f7 Rows.armPrintsSpec Rows.armPrintsRow = true := by kernel_rfl
theorem fact26 : (fun (P : Program) (f : FuncId) (fn : Func) (s : ChangeSpec) (c : OpenClaim) => (c.lifted == P.liftsFinal)) Tryz.prog 7 Tryz.f7 Rows.armPrintsSpec Rows.armPrintsRow = true := by kernel_rfl
theorem fact27 : (fun (P : Program) (f : FuncId) (fn : Func) (s : ChangeSpec) (c : OpenClaim) => (P.make == some c.make)) Tryz.prog 7 Tryz.f7 Rows.armPrintsSpec Rows.armPrintsRow = true := by kernel_rfl
theorem fact28 : (fun (P : Program) (f : FuncId) (fn : Func) (s : ChangeSpec) (c : OpenClaim) => (c.kinds == (if c.domain.isEmpty then [] else fn.params.toList.map fun t => match P.underlying t with | some (.int k) => some k | _ => none))) Tryz.prog 7 Tryz.f7 Rows.armPrintsSpec Rows.armPrintsRow = true := by kernel_rfl
theorem fact29 : (fun (P : Program) (f : FuncId) (fn : Func) (s : ChangeSpec) (c : OpenClaim) => (c.pinned == c.pinnedBy)) Tryz.prog 7 Tryz.f7 Rows.armPrintsSpec Rows.armPrintsRow = true := by kernel_rfl
theorem fact30 : (fun (P : Program) (f : FuncId) (fn : Func) (s : ChangeSpec) (c : OpenClaim) => (c.veiled == (fn.params.toList ++ s.plain.varTypes P ++ fn.resultTypes.toList).any (P.veiledRec ·))) Tryz.prog 7 Tryz.f7 Rows.armPrintsSpec Rows.armPrintsRow = true := by kernel_rfl
theorem fact31 : (fun (P : Program) (f : FuncId) (fn : Func) (s : ChangeSpec) (c : OpenClaim) => c.veiledFits P fn.params.toList (fn.params.toList ++ s.plain.varTypes P ++ fn.resultTypes.toList)) Tryz.prog 7 Tryz.f7 Rows.armPrintsSpec Rows.armPrintsRow = true := by kernel_rfl
theorem facts : joinedFacts Tryz.prog 7 Tryz.f7 Rows.armPrintsSpec Rows.armPrintsRow = true := facts_of fact0 fact1 fact2 fact3 fact4 fact5 fact6 fact7 fact8 fact9 fact10 fact11 fact12 fact13 fact14 fact15 fact16 fact17 fact18 fact19 fact20 fact21 fact22 fact23 fact24 fact25 fact26 fact27 fact28 fact29 fact30 fact31
theorem fnamed : Tryz.prog.funcNamed "belated/belatedlaw7.ArmPrints" = some 7 := by kernel_rfl
theorem instOk : Tryz.f7.isInstance Tryz.prog Rows.armPrintsRow.origin Rows.armPrintsRow.targs := of_decide_eq_true (by kernel_rfl)
theorem wrapOk : Tryz.f7.isWrapper Tryz.prog Rows.armPrintsRow.wrapper Rows.armPrintsRow.mainSum := by
  unfold Func.isWrapper; first | (rw [if_pos (by decide +kernel)]; kernel_rfl) | (rw [if_neg (by decide +kernel)]; exact ⟨rfl, rfl⟩)
theorem armPrints_holds : Rows.ArmPrintsSaid :=
  OpenClaim.holds_of_wide 7 Tryz.f7 rfl rfl rfl rfl rfl rfl rfl ⟨rfl, rfl, rfl, rfl, rfl⟩ rfl rfl rfl rfl rfl fnamed Tryz.func7 facts instOk wrapOk
    (fun os started H enc _ => lifted os started H enc)
theorem wfText : Rows.armPrintsRow.wfByText (OpenSpec.ofChange Rows.armPrintsSpec) = true := by kernel_rfl
theorem mainOk : Tryz.prog.mainIs = some (true, "ee5e4f0b19a504e36959d0abf6e8593140e78c9cabcc708e7bd1f2ba571561a3".toList) := by kernel_rfl
theorem looksOk : true = Tryz.prog.looks [] := by kernel_rfl
theorem standOk : ([23, 9, 3, 9].all fun u => !Tryz.prog.wantsStandIn u) = true := by kernel_rfl
theorem goesOk : false = Rows.armPrintsRow.goesBy Tryz.prog := by kernel_rfl
theorem armPrints_card : Rows.ArmPrintsCardSaid :=
  Claim7.holds_tied_plain_at .later [] [.data, .data, .data, .sentinel, .sentinel, .listed, .data] true (true, "ee5e4f0b19a504e36959d0abf6e8593140e78c9cabcc708e7bd1f2ba571561a3") true
    armPrints_holds (fun _ h => by cases h) wfText (fun _ h => by cases h) armPrints_row_tie rfl ⟨rfl, rfl⟩ mainOk rfl
    (fun f fn hf hfn => by
      obtain rfl : f = 7 := Option.some.inj (fnamed.symm.trans hf) |>.symm
      obtain rfl : fn = Tryz.f7 := (Option.some.inj (Tryz.func7.symm.trans hfn)).symm
      exact ⟨looksOk, fun j t ht => by
        have ht : [23, 9, 3, 9].toArray[j]? = some t := by rw [Tryz.params7] at ht; exact ht
        have hm : t ∈ [23, 9, 3, 9] := by simpa using Array.mem_of_getElem? ht
        exact (show Tryz.prog.wantsStandIn t = false by simpa using List.all_eq_true.1 standOk t hm)⟩)
    goesOk
#print axioms armPrints_card
end Go.Proofs.YthkedcneehdinaaGreatDoor
