/- The words of any text are read as an x86 instruction, or told wrong and where, as the reference says; the list stays. -/
import Derived.Test.YtlgjjklikbpcoaaGreatDoorCards
import Derived.Test.YtlgjjklikbpcoaaGreatDoorTie
import Derived.SevenTiedAt
import Derived.Test.YtlgjjklikbpcoaaGreatDoorXY
set_option linter.unusedVariables false
set_option linter.unusedSimpArgs false
set_option linter.unusedSectionVars false
/- X86Parses: the law's contract. -/
set_option linter.unusedVariables false
set_option maxRecDepth 100000
namespace Go.Proofs.YtlgjjklikbpcoaaGreatDoor
namespace SX
open Go Go.Proofs
theorem Cp.vac {X : List Value → World → (Value → World → Prop) → Prop} {args : List SV} {H : List SB} {K : SV → List SB → Prop} (h : ∀ m V, ¬ OkA m V args) : Cp X args H K := ⟨fun C E m w hr ha => absurd ha (h _ _)⟩
theorem imm_none {m : Mem} {V : List Nat} {ts : List Tk} {cap : Nat} (h : OkA m V [.imm Tk tk0 4 tkenc ts none cap]) : ts = [] := by
  simp only [OkA, Ok] at h
  by_cases he : ts = []
  · exact he
  · obtain ⟨_, _, _, _, h2, _⟩ := h.1.2.2.1 he
    cases h2
theorem tok_lens (s : List UInt8) : ∀ t ∈ (tokF s).1, t.s.length ≤ 8192 := by
  have key : ∀ (f p : Nat) (out : List Tk), s.length ≤ 8192 → (∀ t ∈ out, t.s.length ≤ 8192) → ∀ t ∈ (tokC s f p out).1, t.s.length ≤ 8192 := by
    intro f
    induction f with
    | zero => intro p out _ h; exact h
    | succ f ih =>
      intro p out hs h t ht
      unfold tokC at ht
      split at ht
      · exact h t ht
      · split at ht
        · exact ih _ _ hs h t ht
        · rename_i y hy
          refine ih _ _ hs (fun x hx => ?_) t ht
          rcases List.mem_append.1 hx with hx | hx
          · exact h x hx
          · rw [List.mem_singleton.1 hx]
            have := step_len hy
            rw [List.length_drop] at this
            omega
        · cases ht
  unfold tokF
  split
  · intro t ht; cases ht
  · exact key _ _ _ (by omega) fun t ht => by cases ht
theorem tok_count (s : List UInt8) : (tokF s).1.length ≤ 8192 := by
  have pos : ∀ (p : Nat) (y : Tk), p < s.length → stepF (s.drop p) p = .tok y → 1 ≤ y.s.length := by
    intro p y hp hy
    have hne : s.drop p ≠ [] := fun hh => by have := congrArg List.length hh; simp at this; omega
    unfold stepF at hy
    split at hy
    · cases hy
    split at hy
    · split at hy <;> cases hy
    split at hy
    · rename_i hd
      split at hy
      · cases hy
      · cases hy
        have : 0 < rowF numB (s.drop p) := rowF_pos hne (by unfold numB; rw [hd]; simp)
        show 1 ≤ (List.take _ _).length
        rw [List.length_take, List.length_drop]; omega
    split at hy
    · rename_i hl
      cases hy
      have : 0 < rowF namB (s.drop p) := rowF_pos hne (by
        unfold namB
        simp only [Bool.or_eq_true, decide_eq_true_eq] at hl ⊢
        rcases hl with hl | hl
        · exact .inl (.inl (.inl hl))
        · exact .inl (.inr hl))
      show 1 ≤ (List.take _ _).length
      rw [List.length_take, List.length_drop]; omega
    split at hy
    · cases hy
      show 1 ≤ (List.take _ _).length
      rw [List.length_take, List.length_drop]; omega
    split at hy
    · cases hy
      show 1 ≤ (List.take _ _).length
      rw [List.length_take, List.length_drop]; omega
    · cases hy
  have key : ∀ (f p : Nat) (out : List Tk), s.length ≤ 8192 → p ≤ s.length → out.length ≤ p → (tokC s f p out).1.length ≤ 8192 := by
    intro f
    induction f with
    | zero => intro p out hs hp h; exact Nat.le_trans h (by omega)
    | succ f ih =>
      intro p out hs hp h
      unfold tokC
      split
      · show out.length ≤ 8192; omega
      · split
        · rename_i n hn
          by_cases hq : p + n ≤ s.length
          · exact ih _ _ hs hq (by omega)
          · have e : ∀ g, tokC s g (p + n) out = (out, 0, 0) := fun g => tokC_end (by omega)
            rw [e]; show out.length ≤ 8192; omega
        · rename_i y hy
          have h1 := pos p y (by omega) hy
          have h2 := step_len hy
          rw [List.length_drop] at h2
          exact ih _ _ hs (by omega) (by rw [List.length_append, List.length_singleton]; omega)
        · exact Nat.zero_le _
  unfold tokF
  split
  · exact Nat.zero_le _
  · exact key _ _ _ (by omega) (Nat.zero_le _) (Nat.le_refl _)
theorem tk_at_len {s : List UInt8} {ts : List Tk} (h : (tokF s).1 = ts) (p : Nat) : (tkAt ts p).s.length ≤ 100000 := by
  unfold tkAt
  rw [List.getD_eq_getElem?_getD]
  cases hx : ts[p]? with
  | none => exact Nat.zero_le _
  | some t => exact Nat.le_trans (tok_lens s t (by rw [h]; exact List.mem_of_getElem? hx)) (by decide)
theorem x86Parse_v (ts : List Tk) (ad : Option Addr) (cap : Nat) (hl : ts.length ≤ 100000) (hnm : (tkAt ts 0).s.length ≤ 100000) : CtrV Tryz.prog 21 [.imm Tk tk0 4 tkenc ts ad cap] (prV5 (parseP readXP ts)) := by
  cases ad with
  | some a => exact x86Parse_w ts (some a) cap hl (fun h => by cases h) hnm
  | none =>
    by_cases he : ts = []
    · exact x86Parse_w ts none cap hl (fun _ => he) hnm
    · exact Cp.vac fun m V h => he (imm_none h)
theorem eqI_rfl (i : In) : eqI i i = true := by unfold eqI; simp
def t77 : Tk := ⟨0, [], -77, 0⟩
theorem tk_take {ts : List Tk} {x : Tk} : ts = ((ts ++ [x]).drop 0).take ts.length := by simp
theorem bndIn {M : Nat} {i : In} : BndB M (.mem 30 (ienc i) 1 0) := ⟨rfl, rfl, rfl, rfl, rfl, rfl, rfl, rfl, rfl, rfl, rfl, rfl, rfl, rfl, rfl, rfl, rfl, trivial⟩
set_option maxHeartbeats 4000000 in
theorem x86Parses_ok (text : List UInt8) (htl : text.length ≤ 2 ^ 47) : CtrV Tryz.prog 3 [.s text] (.b true) := by
  refine Ctr.enterV tabOkM (fn := Tryz.f3) rfl rfl rfl rfl rfl rfl ?_
  refine OpC.callV rfl rfl rfl rfl rfl rfl rfl (fun _ => able5_ok) ?_
  refine ⟨fun h => no_ft h, fun _ => ?_⟩
  refine OpC.callL rfl rfl rfl rfl [] 1 rfl rfl rfl (tokensI_ok text) rfl rfl rfl rfl trivial rfl (fun r H' hk => ?_) ?_
  · rcases hk with ⟨ts, ad, cap, B, h1, rfl, rfl⟩ | ⟨e, p, h1, he, rfl, rfl⟩
    · exact ⟨Nat.zero_le _, Nat.le_refl _⟩
    · exact ⟨Nat.zero_le _, Nat.zero_le _⟩
  rintro r H' (⟨ts, ad, cap, B, h1, rfl, rfl⟩ | ⟨e, p, h1, he, rfl, rfl⟩)
  rotate_left
  · refine ⟨fun _ => rfl, fun h => ?_⟩
    have h : (!decide (e = 0)) = false := h
    rw [decide_eq_false he] at h; cases h
  have hts : (tokF text).1 = ts := by rw [h1]
  have hw : WfA ts := by rw [← hts]; exact tok_wf text
  have hn : ts.length ≤ 8192 := by rw [← hts]; exact tok_count text
  have hl : ts.length ≤ 100000 := by omega
  have hnm := tk_at_len hts 0
  have hP := x86_parse hw
  refine ⟨fun h => no_ft h, fun _ => ?_⟩
  refine OpC.yld 1 rfl (yld_app_lit tabOkM rfl rfl rfl rfl rfl rfl rfl rfl (fun E => rfl) (SrcA.imm rfl rfl rfl) (p := 2) rfl Joins.nil (Nat.le_trans hn (by decide)) ?_) (fun d hd => by cases hd; rfl) ?_
  · exact tok_bytes _ hl
  refine OpC.yld 0 rfl (yld_app_row tabOkM rfl rfl rfl rfl rfl rfl rfl rfl rfl (SrcA.sl rfl rfl rfl rfl (by decide) rfl) (Joins.arrN (y := t77) rfl rfl tkenc_w) (by decide) (Nat.le_trans (show ts.length + 1 ≤ 8193 by omega) (by decide)) ?_) (fun d hd => by cases hd; rfl) ?_
  · exact tok_bytes _ (by omega)
  have hsl : ((1 + 1 = 1 + 1 ∧ 4 = 3 + 1 ∧ 0 < 3 + 1) ∧ 0 = 0 * 4 ∧ (0 + (ts.length + 1)) * 4 ≤ (ts.length + 1) * 4 + 0) ∧ (0 : Int) ≤ ts.length ∧ (ts.length : Int) ≤ ((ts.length + 1 : Nat) : Int) := by omega
  refine ⟨fun _ => hsl, ?_⟩
  have hx := fun a cap => x86Parse_v ts a cap hl hnm
  have hy := rparseX_w ts ad cap hl hnm
  rw [hP] at hx
  generalize parseR readXR ts = P at *
  obtain ⟨i, lb, e, q⟩ := P
  refine OpC.callG rfl rfl rfl rfl rfl rfl (r := prV5 ⟨i, lb, e, q⟩) (fun _ => Ctr.frz (A := []) (B := []) (ys := ts ++ [t77]) rfl tk_take (by omega) (by simp) (by omega) tkw tkok ⟨rfl, by decide, rfl⟩ rfl rfl rfl hx) ?_
  refine OpC.callV rfl rfl rfl rfl rfl rfl rfl (fun _ => hy) ?_
  have hB : BndH 6 [.gone B, .gone 1, .mem 28 [.arr (ts.length + 1) Tk tk0 4 tkenc (ts ++ [t77])] 2 4, .mem 28 (tkenc t77) 1 0, .mem 30 (ienc i) 1 0, .mem 30 (ienc i) 1 0] := ⟨trivial, trivial, ⟨fun _ => rfl, trivial⟩, ⟨rfl, rfl, rfl, rfl, trivial⟩, bndIn, bndIn, trivial⟩
  refine WpC.loop tabOkM (β := Nat) (fun k => k ≤ ts.length) (fun k => [(15, .i .i64 k)]) (fun _ => [.gone B, .gone 1, .mem 28 [.arr (ts.length + 1) Tk tk0 4 tkenc (ts ++ [t77])] 2 4, .mem 28 (tkenc t77) 1 0, .mem 30 (ienc i) 1 0, .mem 30 (ienc i) 1 0]) (fun k => ts.length - k) 0 (2 ^ 94 - 2 ^ 15 + 4) (Nat.zero_le _) ?_ ?_
  · refine ⟨rfl, ⟨⟨rfl, rfl, rfl⟩, trivial⟩, ⟨[], rfl⟩, hB, rfl⟩
  · rintro k hk
    refine ⟨fun h2 => ?_, fun h2 => ?_⟩
    · have h2 : (k : Int) < (ts.length : Int) := of_decide_eq_true h2
      have h3 : k < ts.length := by omega
      have hg : (ts ++ [t77]).getD (0 + k) tk0 = ts.getD k tk0 := by rw [Nat.zero_add]; simp only [List.getD_eq_getElem?_getD]; rw [List.getElem?_append_left h3]
      refine WpC.dr tabOkM mixed 0 ?_
      have hix : 0 = 0 * 4 ∧ (0 : Int) ≤ (k : Int) ∧ (k : Int) < ((ts.length + 1 : Nat) : Int) := by omega
      have hld : 2 = 2 ∧ 0 + k < ts.length + 1 := by omega
      have hit : (0 : Int) ≤ (k : Int) ∧ (k : Int) < (ts.length : Int) := by omega
      refine ⟨fun _ => hix, ?_⟩
      refine ⟨fun _ => hld, ?_⟩
      refine ⟨fun _ => hit, ?_⟩
      refine ⟨by kernel_rfl, ?_⟩
      refine ⟨fun h => ?_, fun _ => ?_⟩
      · have h : (!(decide (((ts ++ [t77]).getD (0 + k) tk0).k = (ts.getD k tk0).k) && (decide (((ts ++ [t77]).getD (0 + k) tk0).s = (ts.getD k tk0).s) && (decide (((ts ++ [t77]).getD (0 + k) tk0).n = (ts.getD k tk0).n) && decide (((ts ++ [t77]).getD (0 + k) tk0).a = (ts.getD k tk0).a))))) = true := h
        rw [hg] at h
        simp at h
      · refine ⟨k + 1, h3, by omega, Eq.trans (b := [.s text, .dead, .dead, .imm Tk tk0 4 tkenc ts ad cap, .i .i64 0, .i .i64 0, .sl 2 2 0 (ts.length + 1) none 0, .ptr 4 1 0 [], .s lb, .i .i64 e, .i .i64 q, .ptr 5 1 0 [], .s lb, .i .i64 e, .i .i64 q] ++ List.replicate 79 .dead) rfl rfl, ⟨⟨?_, rfl, rfl⟩, trivial⟩, ⟨[], rfl⟩, hB, rfl⟩
        show SV.i .i64 (IntKind.i64.wrap ((k : Int) + 1)) = SV.i .i64 ((k + 1 : Nat) : Int)
        rw [w64 (by omega) (by omega)]; rfl
    · have h2 : ¬ (k : Int) < (ts.length : Int) := of_decide_eq_false h2
      have hix : 0 = 0 * 4 ∧ (0 : Int) ≤ ts.length ∧ (ts.length : Int) < ((ts.length + 1 : Nat) : Int) := by omega
      have hld : 2 = 2 ∧ 0 + ts.length < ts.length + 1 := by omega
      refine ⟨fun _ => hix, ⟨fun _ => hld, ?_⟩⟩
      refine b_cg ?_
      show ((((eqI i i && decide (lb = lb)) && decide (e = e)) && decide (q = q)) && decide (((ts ++ [t77]).getD (0 + ts.length) tk0).n = -77)) = true
      rw [eqI_rfl, Nat.zero_add]
      simp [List.getD_eq_getElem?_getD, t77]
end SX
end Go.Proofs.YtlgjjklikbpcoaaGreatDoor

/- X86Parses: the row. Written by row.py. -/
set_option linter.unusedVariables false
set_option linter.unusedSimpArgs false
set_option maxRecDepth 100000
namespace Go.Proofs.YtlgjjklikbpcoaaGreatDoor
open Go Go.ChangeShapes Go.WideShapes Go.ChangeAt Go.RowKit
theorem params_in : ∀ t ∈ Tryz.f3.params.toList, t < Tryz.prog.types.size := by
  have : (Tryz.f3.params.toList.all fun t => Nat.blt t Tryz.prog.types.size) = true := by kernel_rfl
  exact fun t ht => Nat.le_of_ble_eq_true (List.all_eq_true.1 this t ht)
theorem door_met (os : Os) (args : Array Value) : laidMetH Tryz.prog Rows.x86ParsesRow.laid ((World.doorLaid Tryz.prog 400 os).forCall (fun _ _ => 0) ⟨#[], args, []⟩).memory :=
  laidMetH_of_parts3 (fuel := 8) (laidMet_of_run' 8 (by kernel_rfl) (by kernel_rfl)) (by kernel_rfl) (by kernel_rfl)
theorem lifted (os : Os) (started : os.Started) (H : Type) (enc : TypeId × Value → H) :
    ReturnsInHanded {} Tryz.checked os 3 .any (fun w args => (Rows.x86ParsesSpec.pre enc Tryz.prog Tryz.f3 [] false w args ∧ laidMetH Tryz.prog Rows.x86ParsesRow.laid w) ∧ sizedMet enc Tryz.prog Tryz.f3 (OpenSpec.ofChange Rows.x86ParsesSpec) false w args)
      (Rows.x86ParsesSpec.post enc Tryz.prog Tryz.f3 false true false false) := by
  refine SX.returns_shaped (C := Tryz.checked) (X := fun w _ => laidMetH Tryz.prog Rows.x86ParsesRow.laid w) (fun _ _ _ hh h => h.of_heap hh) own started (by kernel_rfl) Tryz.func3
    (ChangeSpec.witness_shaped (enc := enc) (C := Tryz.checked) (os := os) (X := fun w _ => laidMetH Tryz.prog Rows.x86ParsesRow.laid w) false (World.doorLaid Tryz.prog 400 os) #[.string ⟨#[]⟩] 8 rfl (World.shaped_of_RefB (by kernel_rfl) (by kernel_rfl)) (by kernel_rfl) (by kernel_rfl) (by kernel_rfl) (door_met os _)) ?_
  intro W base args ds gs before hval0 hW hz hL hSh
  have hval : ∀ (j : Nat) t v, Tryz.f3.params[j]? = some t → args[j]? = some v → Value.okWide Tryz.prog W .any base t v := hval0
  have hW' := hW
  obtain ⟨p, q, hA0, hV, rfl, hfz, hnd⟩ := hW
  have hA : DataW.TrodAll enc Tryz.prog W 0 (fun _ => true) true Tryz.f3.params.toList args.toList ds p := hA0
  rw [Tryz.params3] at hA hval
  obtain ⟨v0, d0, rfl, rfl, h0⟩ := trodAll_one hA
  obtain ⟨rfl, rfl⟩ := trodVars_none hV
  obtain ⟨s0, rfl, e0, _, _⟩ := Go.ChangeMaps.open_string Tryz.underlying9 (hval 0 _ v0 rfl rfl) h0
  have w0 := sized_string hz (j := 0) rfl (congrArg some e0)
  clear hA0 hval0
  have hT := SX.tabsIn_row hL rfl hSh (List.mem_of_getElem? (i := 0) rfl) (List.mem_of_getElem? (i := 1) rfl) (List.mem_of_getElem? (i := 2) rfl) (List.mem_of_getElem? (i := 3) rfl) (List.mem_of_getElem? (i := 4) rfl) (List.mem_of_getElem? (i := 6) rfl) (by kernel_rfl) (by kernel_rfl) (by kernel_rfl) (by kernel_rfl) (by kernel_rfl) (by kernel_rfl)
  refine (SX.law_callsM (args := [.s s0.data.toList]) Tryz.func3 rfl rfl (SX.x86Parses_ok s0.data.toList (Nat.le_of_lt (Nat.lt_of_le_of_lt w0 reachBytes_lt))) W hT (fun _ => false) ?_ (by simp [SX.den, SX.denL, SX.wrapV, SX.cells])).mono fun e W' ⟨he, hk, ho, hu⟩ => ?_
  · exact ⟨⟨rfl, trivial⟩, trivial⟩
  subst he
  exact ⟨_, rfl, SX.post_kept hk compsOk params_in (fun n hn => by cases hn) hW' ho hu rfl rfl rfl (fun _ _ _ => trodAll_mk1 (shut_bool Tryz.underlying4 _)) (ok_one (by kernel_rfl) rfl (okWide_bool_mk Tryz.underlying4 _))⟩
theorem fact0 : (fun (P : Program) (f : FuncId) (fn : Func) (s : ChangeSpec) (c : OpenClaim) => c.wf (OpenSpec.ofChange s)) Tryz.prog 3 Tryz.f3 Rows.x86ParsesSpec Rows.x86ParsesRow = true := by kernel_rfl
theorem fact1 : (fun (P : Program) (f : FuncId) (fn : Func) (s : ChangeSpec) (c : OpenClaim) => laidOutB P) Tryz.prog 3 Tryz.f3 Rows.x86ParsesSpec Rows.x86ParsesRow = true := by kernel_rfl
theorem fact2 : (fun (P : Program) (f : FuncId) (fn : Func) (s : ChangeSpec) (c : OpenClaim) => mapsRowed P) Tryz.prog 3 Tryz.f3 Rows.x86ParsesSpec Rows.x86ParsesRow = true := by kernel_rfl
theorem fact3 : (fun (P : Program) (f : FuncId) (fn : Func) (s : ChangeSpec) (c : OpenClaim) => fn.params.all (P.readableRec ·)) Tryz.prog 3 Tryz.f3 Rows.x86ParsesSpec Rows.x86ParsesRow = true := by kernel_rfl
theorem fact4 : (fun (P : Program) (f : FuncId) (fn : Func) (s : ChangeSpec) (c : OpenClaim) => namedTie P c.named s.vars) Tryz.prog 3 Tryz.f3 Rows.x86ParsesSpec Rows.x86ParsesRow = true := by kernel_rfl
theorem fact5 : (fun (P : Program) (f : FuncId) (fn : Func) (s : ChangeSpec) (c : OpenClaim) => (c.stops == [])) Tryz.prog 3 Tryz.f3 Rows.x86ParsesSpec Rows.x86ParsesRow = true := by kernel_rfl
theorem fact6 : (fun (P : Program) (f : FuncId) (fn : Func) (s : ChangeSpec) (c : OpenClaim) => (P.stops == [])) Tryz.prog 3 Tryz.f3 Rows.x86ParsesSpec Rows.x86ParsesRow = true := by kernel_rfl
theorem fact7 : (fun (P : Program) (f : FuncId) (fn : Func) (s : ChangeSpec) (c : OpenClaim) => (c.knobs == [])) Tryz.prog 3 Tryz.f3 Rows.x86ParsesSpec Rows.x86ParsesRow = true := by kernel_rfl
theorem fact8 : (fun (P : Program) (f : FuncId) (fn : Func) (s : ChangeSpec) (c : OpenClaim) => (P.stopKnobs == [])) Tryz.prog 3 Tryz.f3 Rows.x86ParsesSpec Rows.x86ParsesRow = true := by kernel_rfl
theorem fact9 : (fun (P : Program) (f : FuncId) (fn : Func) (s : ChangeSpec) (c : OpenClaim) => (c.inPlace == P.inPlace f)) Tryz.prog 3 Tryz.f3 Rows.x86ParsesSpec Rows.x86ParsesRow = true := by kernel_rfl
theorem fact10 : (fun (P : Program) (f : FuncId) (fn : Func) (s : ChangeSpec) (c : OpenClaim) => (c.unfollowed == P.unfollowed f)) Tryz.prog 3 Tryz.f3 Rows.x86ParsesSpec Rows.x86ParsesRow = true := by kernel_rfl
theorem fact11 : (fun (P : Program) (f : FuncId) (fn : Func) (s : ChangeSpec) (c : OpenClaim) => (c.recurses == P.recurses f)) Tryz.prog 3 Tryz.f3 Rows.x86ParsesSpec Rows.x86ParsesRow = true := by kernel_rfl
theorem fact12 : (fun (P : Program) (f : FuncId) (fn : Func) (s : ChangeSpec) (c : OpenClaim) => (c.named == P.varsNamed f)) Tryz.prog 3 Tryz.f3 Rows.x86ParsesSpec Rows.x86ParsesRow = true := by kernel_rfl
theorem fact13 : (fun (P : Program) (f : FuncId) (fn : Func) (s : ChangeSpec) (c : OpenClaim) => (c.maps == (fn.params.toList ++ s.plain.varTypes P).any (P.mapsRec ·))) Tryz.prog 3 Tryz.f3 Rows.x86ParsesSpec Rows.x86ParsesRow = true := by kernel_rfl
theorem fact14 : (fun (P : Program) (f : FuncId) (fn : Func) (s : ChangeSpec) (c : OpenClaim) => (c.ifaces == (fn.params.toList ++ s.plain.varTypes P).any (P.ifacesRec ·))) Tryz.prog 3 Tryz.f3 Rows.x86ParsesSpec Rows.x86ParsesRow = true := by kernel_rfl
theorem fact15 : (fun (P : Program) (f : FuncId) (fn : Func) (s : ChangeSpec) (c : OpenClaim) => (c.mapsOut == P.mapsAmong fn.resultTypes.toList)) Tryz.prog 3 Tryz.f3 Rows.x86ParsesSpec Rows.x86ParsesRow = true := by kernel_rfl
theorem fact16 : (fun (P : Program) (f : FuncId) (fn : Func) (s : ChangeSpec) (c : OpenClaim) => (c.loops == (fn.params.toList ++ s.plain.varTypes P).any (P.loopsFrom ·))) Tryz.prog 3 Tryz.f3 Rows.x86ParsesSpec Rows.x86ParsesRow = true := by kernel_rfl
theorem fact17 : (fun (P : Program) (f : FuncId) (fn : Func) (s : ChangeSpec) (c : OpenClaim) => (c.wideKeys == (fn.params.toList ++ s.plain.varTypes P ++ fn.resultTypes.toList).any (P.wideKeysFrom ·))) Tryz.prog 3 Tryz.f3 Rows.x86ParsesSpec Rows.x86ParsesRow = true := by kernel_rfl
theorem fact18 : (fun (P : Program) (f : FuncId) (fn : Func) (s : ChangeSpec) (c : OpenClaim) => s.vars.all (P.varReadable ·)) Tryz.prog 3 Tryz.f3 Rows.x86ParsesSpec Rows.x86ParsesRow = true := by kernel_rfl
theorem fact19 : (fun (P : Program) (f : FuncId) (fn : Func) (s : ChangeSpec) (c : OpenClaim) => fn.resultTypes.all (fun t => P.readableRec t && decide (t < P.types.size))) Tryz.prog 3 Tryz.f3 Rows.x86ParsesSpec Rows.x86ParsesRow = true := by kernel_rfl
theorem fact20 : (fun (P : Program) (f : FuncId) (fn : Func) (s : ChangeSpec) (c : OpenClaim) => (c.ifacesOut == fn.resultTypes.toList.any (P.ifacesRec ·))) Tryz.prog 3 Tryz.f3 Rows.x86ParsesSpec Rows.x86ParsesRow = true := by kernel_rfl
theorem fact21 : (fun (P : Program) (f : FuncId) (fn : Func) (s : ChangeSpec) (c : OpenClaim) => (c.loopsOut == fn.resultTypes.toList.any (P.loopsFrom ·))) Tryz.prog 3 Tryz.f3 Rows.x86ParsesSpec Rows.x86ParsesRow = true := by kernel_rfl
theorem fact22 : (fun (P : Program) (f : FuncId) (fn : Func) (s : ChangeSpec) (c : OpenClaim) => (c.plainKeys == P.plainKeys)) Tryz.prog 3 Tryz.f3 Rows.x86ParsesSpec Rows.x86ParsesRow = true := by kernel_rfl
theorem fact23 : (fun (P : Program) (f : FuncId) (fn : Func) (s : ChangeSpec) (c : OpenClaim) => c.shortTexts.isNone) Tryz.prog 3 Tryz.f3 Rows.x86ParsesSpec Rows.x86ParsesRow = true := by kernel_rfl
theorem fact24 : (fun (P : Program) (f : FuncId) (fn : Func) (s : ChangeSpec) (c : OpenClaim) => P.stopsHeard) Tryz.prog 3 Tryz.f3 Rows.x86ParsesSpec Rows.x86ParsesRow = true := by kernel_rfl
theorem fact25 : (fun (P : Program) (f : FuncId) (fn : Func) (s : ChangeSpec) (c : OpenClaim) => P.mayEnter) Tryz.prog 3 Tryz.f3 Rows.x86ParsesSpec Rows.x86ParsesRow = true := by kernel_rfl
theorem fact26 : (fun (P : Program) (f : FuncId) (fn : Func) (s : ChangeSpec) (c : OpenClaim) => (c.lifted == P.liftsFinal)) Tryz.prog 3 Tryz.f3 Rows.x86ParsesSpec Rows.x86ParsesRow = true := by kernel_rfl
theorem fact27 : (fun (P : Program) (f : FuncId) (fn : Func) (s : ChangeSpec) (c : OpenClaim) => (P.make == some c.make)) Tryz.prog 3 Tryz.f3 Rows.x86ParsesSpec Rows.x86ParsesRow = true := by kernel_rfl
theorem fact28 : (fun (P : Program) (f : FuncId) (fn : Func) (s : ChangeSpec) (c : OpenClaim) => (c.kinds == (if c.domain.isEmpty then [] else fn.params.toList.map fun t => match P.underlying t with | some (.int k) => some k | _ => none))) Tryz.prog 3 Tryz.f3 Rows.x86ParsesSpec Rows.x86ParsesRow = true := by kernel_rfl
theorem fact29 : (fun (P : Program) (f : FuncId) (fn : Func) (s : ChangeSpec) (c : OpenClaim) => (c.pinned == c.pinnedBy)) Tryz.prog 3 Tryz.f3 Rows.x86ParsesSpec Rows.x86ParsesRow = true := by kernel_rfl
theorem fact30 : (fun (P : Program) (f : FuncId) (fn : Func) (s : ChangeSpec) (c : OpenClaim) => (c.veiled == (fn.params.toList ++ s.plain.varTypes P ++ fn.resultTypes.toList).any (P.veiledRec ·))) Tryz.prog 3 Tryz.f3 Rows.x86ParsesSpec Rows.x86ParsesRow = true := by kernel_rfl
theorem fact31 : (fun (P : Program) (f : FuncId) (fn : Func) (s : ChangeSpec) (c : OpenClaim) => c.veiledFits P fn.params.toList (fn.params.toList ++ s.plain.varTypes P ++ fn.resultTypes.toList)) Tryz.prog 3 Tryz.f3 Rows.x86ParsesSpec Rows.x86ParsesRow = true := by kernel_rfl
theorem facts : joinedFacts Tryz.prog 3 Tryz.f3 Rows.x86ParsesSpec Rows.x86ParsesRow = true := facts_of fact0 fact1 fact2 fact3 fact4 fact5 fact6 fact7 fact8 fact9 fact10 fact11 fact12 fact13 fact14 fact15 fact16 fact17 fact18 fact19 fact20 fact21 fact22 fact23 fact24 fact25 fact26 fact27 fact28 fact29 fact30 fact31
theorem fnamed : Tryz.prog.funcNamed "belated/belatedlaw5.X86Parses" = some 3 := by kernel_rfl
theorem instOk : Tryz.f3.isInstance Tryz.prog Rows.x86ParsesRow.origin Rows.x86ParsesRow.targs := of_decide_eq_true (by kernel_rfl)
theorem wrapOk : Tryz.f3.isWrapper Tryz.prog Rows.x86ParsesRow.wrapper Rows.x86ParsesRow.mainSum := by
  unfold Func.isWrapper; first | (rw [if_pos (by decide +kernel)]; kernel_rfl) | (rw [if_neg (by decide +kernel)]; exact ⟨rfl, rfl⟩)
theorem x86Parses_holds : Rows.X86ParsesSaid :=
  OpenClaim.holds_of_wide 3 Tryz.f3 rfl rfl rfl rfl rfl rfl rfl ⟨rfl, rfl, rfl, rfl, rfl⟩ rfl rfl rfl rfl rfl fnamed Tryz.func3 facts instOk wrapOk
    (fun os started H enc _ => lifted os started H enc)
theorem wfText : Rows.x86ParsesRow.wfByText (OpenSpec.ofChange Rows.x86ParsesSpec) = true := by kernel_rfl
theorem mainOk : Tryz.prog.mainIs = some (true, "d30bc18a96f78f06312784778573d1bd57ec19849199987212d56ebc9f648bfb".toList) := by kernel_rfl
theorem looksOk : true = Tryz.prog.looks [] := by kernel_rfl
theorem standOk : ([9].all fun u => !Tryz.prog.wantsStandIn u) = true := by kernel_rfl
theorem goesOk : false = Rows.x86ParsesRow.goesBy Tryz.prog := by kernel_rfl
theorem x86Parses_card : Rows.X86ParsesCardSaid :=
  Claim7.holds_tied_plain_at .later [] [.data, .data, .data, .sentinel, .sentinel, .listed, .data] true (true, "d30bc18a96f78f06312784778573d1bd57ec19849199987212d56ebc9f648bfb") true
    x86Parses_holds (fun _ h => by cases h) wfText (fun _ h => by cases h) x86Parses_row_tie rfl ⟨rfl, rfl⟩ mainOk rfl
    (fun f fn hf hfn => by
      obtain rfl : f = 3 := Option.some.inj (fnamed.symm.trans hf) |>.symm
      obtain rfl : fn = Tryz.f3 := (Option.some.inj (Tryz.func3.symm.trans hfn)).symm
      exact ⟨looksOk, fun j t ht => by
        have ht : [9].toArray[j]? = some t := by rw [Tryz.params3] at ht; exact ht
        have hm : t ∈ [9] := by simpa using Array.mem_of_getElem? ht
        exact (show Tryz.prog.wantsStandIn t = false by simpa using List.all_eq_true.1 standOk t hm)⟩)
    goesOk
#print axioms x86Parses_card
end Go.Proofs.YtlgjjklikbpcoaaGreatDoor
