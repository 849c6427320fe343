/- A part of SX: symbolic and concrete runs of the program, with contracts of functions; lemmas without further conditions. -/
import Derived.Test.YthkedcneehdinaaGreatDoorTG
set_option linter.unusedVariables false
set_option linter.unusedSimpArgs false
set_option linter.unusedSectionVars false
/- Words of a text: the reference's small functions. -/
set_option linter.unusedVariables false
set_option maxRecDepth 100000
namespace Go.Proofs.YthkedcneehdinaaGreatDoor
namespace SX
open Go Go.Proofs
theorem rdigit_ok (n : Int) : CtrV Tryz.prog 168 [.i .u8 n] (.b (digB n)) := by
  refine Ctr.enterV tabOkF (fn := Tryz.f168) rfl rfl rfl rfl rfl rfl ?_
  exact rfl
theorem rletter_ok (n : Int) : CtrV Tryz.prog 171 [.i .u8 n] (.b (letB n)) := by
  refine Ctr.enterV tabOkF (fn := Tryz.f171) rfl rfl rfl rfl rfl rfl ?_
  exact rfl
theorem mem_marks {x : UInt8} {k : Nat} (hk : k = 22) (h : ∀ j, j < k → marksL.getD j 0 ≠ x) : decide (x ∈ marksL) = false := by
  subst hk
  rw [decide_eq_false_iff_not]
  intro hm
  obtain ⟨j, hj, he⟩ := List.getElem_of_mem hm
  exact h j hj (by simp [List.getD_eq_getElem?_getD, List.getElem?_eq_getElem hj, he])
theorem rmark_ok (x : UInt8) : CtrV Tryz.prog 172 [.i .u8 (x.toNat : Int)] (.b (decide (x ∈ marksL))) := by
  refine Ctr.enterV tabOkF (fn := Tryz.f172) rfl rfl rfl rfl rfl rfl ?_
  refine WpC.loop tabOkF (β := Nat) (fun k => k ≤ 22 ∧ ∀ j, j < k → marksL.getD j 0 ≠ x) (fun k => [(3, .i .i64 k)]) (fun _ => []) (fun k => 22 - k) 0 4092 ⟨by decide, fun j hj => absurd hj (Nat.not_lt_zero _)⟩ ?_ ?_
  · exact ⟨rfl, ⟨⟨rfl, rfl, rfl⟩, trivial⟩, ⟨[], rfl⟩, trivial, rfl⟩
  · rintro k ⟨hk, ho⟩
    refine ⟨fun h => ?_, fun h => ?_⟩
    · have h : decide ((k : Int) < 22) = true := h
      simp only [decide_eq_true_eq] at h
      refine ⟨fun _ => ⟨by omega, by show (k : Int) < ((22 : Nat) : Int); omega⟩, ?_⟩
      refine ⟨fun h2 => ?_, fun h2 => ?_⟩
      · have h2 : (((marksL.getD k 0).toNat : Int)) = (x.toNat : Int) := of_decide_eq_true h2
        refine b_cg ?_
        have e : marksL.getD k 0 = x := UInt8.toNat_inj.1 (by omega)
        symm
        rw [decide_eq_true_eq, ← e]
        have hk2 : k < marksL.length := by show k < 22; omega
        rw [List.getD_eq_getElem?_getD, List.getElem?_eq_getElem hk2]
        exact List.getElem_mem hk2
      · have h2 : ¬ (((marksL.getD k 0).toNat : Int)) = (x.toNat : Int) := of_decide_eq_false h2
        refine ⟨k + 1, ⟨by omega, fun j hj => ?_⟩, by omega, rfl, ⟨⟨?_, rfl, rfl⟩, trivial⟩, ⟨[], rfl⟩, trivial, rfl⟩
        · rcases Nat.lt_succ_iff_lt_or_eq.1 hj with hj | rfl
          · exact ho j hj
          · intro e; exact h2 (by rw [e])
        · show SV.i .i64 (IntKind.i64.wrap ((k : Int) + 1)) = SV.i .i64 ((k + 1 : Nat) : Int)
          rw [w64 (by omega) (by omega)]; rfl
    · have h : decide ((k : Int) < 22) = false := h
      simp only [decide_eq_false_iff_not] at h
      refine b_cg ?_
      exact (mem_marks (k := k) (by omega) ho).symm
theorem and_l {a b : Bool} (h : (a && b) = true) : a = true := by cases a <;> simp_all
def runQ (d : Bool) (n : Int) : Bool := bif d then namB n else numB n
theorem runQ_eq (d : Bool) (n : Int) : ((letB n || digB n) || (d && (decide (n = 95) || decide (n = 46)))) = runQ d n := by
  cases d
  · simp [runQ, numB]
  · simp [runQ, namB, Bool.or_assoc]
theorem cd_drop (s : List UInt8) (p j : Nat) : cd (s.drop p) j = cd s (p + j) := by simp [cd, List.getD_eq_getElem?_getD]
set_option maxHeartbeats 1000000 in
theorem rrun_ok (s : List UInt8) (p : Nat) (d : Bool) (hs : s.length ≤ 100000) (hp : p ≤ s.length) : CtrV Tryz.prog 169 [.s s, .i .i64 p, .b d] (.i .i64 ((p + rowF (runQ d) (s.drop p) : Nat) : Int)) := by
  refine Ctr.enterV tabOkF (fn := Tryz.f169) rfl rfl rfl rfl rfl rfl ?_
  refine WpC.loop tabOkF (β := Nat) (fun k => p ≤ k ∧ k ≤ s.length ∧ ∀ j, j < k - p → runQ d (cd (s.drop p) j) = true) (fun k => [(1, .i .i64 k)]) (fun _ => []) (fun k => s.length - k) p 1099511627650 ⟨Nat.le_refl _, hp, fun j hj => by omega⟩ ?_ ?_
  · exact ⟨rfl, ⟨⟨rfl, rfl, rfl⟩, trivial⟩, ⟨[], rfl⟩, trivial, rfl⟩
  · rintro k ⟨hpk, hk, ho⟩
    have hob : (decide ((k : Int) < s.length) == true) = true → (0 : Int) ≤ (k : Int) ∧ (k : Int) < (s.length : Int) := by
      intro h
      have h : k < s.length := by simpa using h
      omega
    refine ⟨hob, ?_⟩
    refine OpC.callV rfl rfl rfl rfl rfl rfl rfl (fun _ => rletter_ok (cd s k)) ?_
    refine ⟨fun hg => hob (and_l hg), ?_⟩
    refine OpC.callV rfl rfl rfl rfl rfl rfl rfl (fun _ => rdigit_ok (cd s k)) ?_
    refine ⟨fun hg => hob (and_l (and_l hg)), ?_⟩
    refine ⟨fun hg => hob (and_l (and_l (and_l hg))), ?_⟩
    have hq := runQ_eq d (cd s k)
    refine ⟨fun h2 => ?_, fun h2 => ?_⟩
    · have h2 : (decide ((k : Int) < s.length) && ((letB (cd s k) || digB (cd s k)) || (d && (decide (cd s k = 95) || decide (cd s k = 46))))) = true := h2
      rw [hq] at h2
      simp only [Bool.and_eq_true, decide_eq_true_eq] at h2
      refine ⟨k + 1, ⟨by omega, by omega, fun j hj => ?_⟩, by omega, rfl, ⟨⟨?_, rfl, rfl⟩, trivial⟩, ⟨[], rfl⟩, trivial, rfl⟩
      · by_cases hj2 : j < k - p
        · exact ho j hj2
        · have e : j = k - p := by omega
          subst e
          rw [cd_drop, show p + (k - p) = k by omega]
          exact h2.2
      · show SV.i .i64 (IntKind.i64.wrap ((k : Int) + 1)) = SV.i .i64 ((k + 1 : Nat) : Int)
        rw [w64 (by omega) (by omega)]; rfl
    · have h2 : (decide ((k : Int) < s.length) && ((letB (cd s k) || digB (cd s k)) || (d && (decide (cd s k = 95) || decide (cd s k = 46))))) = false := h2
      rw [hq] at h2
      refine i_cg ?_
      have := rowF_at (runQ d) (k - p) (s.drop p) (by simp; omega) ho (by
        by_cases h3 : k = s.length
        · left; simp; omega
        · right
          have h4 : decide ((k : Int) < s.length) = true := by simp; omega
          rw [h4] at h2
          rw [cd_drop, show p + (k - p) = k by omega]
          simpa using h2)
      rw [this]
      omega
end SX
end Go.Proofs.YthkedcneehdinaaGreatDoor

/- Words of a text: the reference's numbers. -/
set_option linter.unusedVariables false
set_option maxRecDepth 100000
namespace Go.Proofs.YthkedcneehdinaaGreatDoor
namespace SX
open Go Go.Proofs
def hexV (c : Nat) : Int := if 48 ≤ c ∧ c ≤ 57 then (c : Int) - 48 else if 97 ≤ c ∧ c ≤ 102 then (c : Int) - 87 else if 65 ≤ c ∧ c ≤ 70 then (c : Int) - 55 else -1
theorem hex_all : ∀ n : Fin 256, (Memo.mk 216 [.i .u8 (n.val : Int)] [] (.i .i64 (hexV n.val)) []).runs (runM treeF ftree [] 40) = true := by decide +kernel
theorem rhex_ok (x : UInt8) : CtrV Tryz.prog 216 [.i .u8 (x.toNat : Int)] (.i .i64 (hexV x.toNat)) := call_of (hex_all ⟨x.toNat, x.toNat_lt⟩)
theorem hexV_all : ∀ n : Fin 256, ((0 ≤ hexV n.val ∧ hexV n.val < 10) ↔ digV n.val < 10) ∧ ((0 ≤ hexV n.val ∧ hexV n.val < 16) ↔ digV n.val < 16) ∧ (0 ≤ hexV n.val → hexV n.val = digV n.val ∧ digV n.val < 16) := by decide +kernel
theorem hexV_10 (x : UInt8) : (0 ≤ hexV x.toNat ∧ hexV x.toNat < 10) ↔ digV x.toNat < 10 := (hexV_all ⟨x.toNat, x.toNat_lt⟩).1
theorem hexV_16 (x : UInt8) : (0 ≤ hexV x.toNat ∧ hexV x.toNat < 16) ↔ digV x.toNat < 16 := (hexV_all ⟨x.toNat, x.toNat_lt⟩).2.1
theorem hexV_dig (x : UInt8) (h : 0 ≤ hexV x.toNat) : hexV x.toNat = digV x.toNat ∧ digV x.toNat < 16 := (hexV_all ⟨x.toNat, x.toNat_lt⟩).2.2 h
/-- A value that stays within 2^63, digit by digit. -/
def valR (b : Nat) : List UInt8 → Nat → Option Nat
  | [], n => some n
  | c :: r, n => if digV c.toNat < b ∧ n * b + digV c.toNat ≤ 9223372036854775808 then valR b r (n * b + digV c.toNat) else none
theorem valB_mono {b : Nat} (hb : 1 ≤ b) : ∀ (l : List UInt8) (n m : Nat), valB b l n = some m → n ≤ m
  | [], n, m, h => by simp [valB] at h; omega
  | c :: r, n, m, h => by
    simp only [valB] at h
    split at h
    · have := valB_mono hb r _ m h
      have : n ≤ n * b := Nat.le_mul_of_pos_right n hb
      omega
    · cases h
theorem valR_eq {b : Nat} (hb : 1 ≤ b) : ∀ (l : List UInt8) (n : Nat), n ≤ 9223372036854775808 → valR b l n = (match valB b l n with | none => none | some m => if m ≤ 9223372036854775808 then some m else none)
  | [], n, hn => by simp [valR, valB, hn]
  | c :: r, n, hn => by
    simp only [valR, valB]
    by_cases h1 : digV c.toNat < b
    · by_cases h2 : n * b + digV c.toNat ≤ 9223372036854775808
      · rw [if_pos ⟨h1, h2⟩, if_pos h1, valR_eq hb r _ h2]
      · rw [if_neg (fun h => h2 h.2), if_pos h1]
        cases hq : valB b r (n * b + digV c.toNat) with
        | none => rfl
        | some m =>
          have := valB_mono hb r _ m hq
          simp only
          rw [if_neg (by omega)]
    · rw [if_neg (fun h => h1 h.1), if_neg h1]
end SX
end Go.Proofs.YthkedcneehdinaaGreatDoor

/- Words of a text: the reference's Value. Printed by rkc.py. -/
set_option linter.unusedVariables false
set_option maxRecDepth 100000
namespace Go.Proofs.YthkedcneehdinaaGreatDoor
namespace SX
open Go Go.Proofs
def valO (o : Option Nat) : SV := match o with | some n => .tup [.i .i64 (IntKind.i64.wrap n), .b true] | none => .tup [.i .i64 0, .b false]
theorem valO_any {p : SV → Prop} {o : Option Nat} (h : ∀ (n : Int) (b : Bool), p (.tup [.i .i64 n, .b b])) : p (valO o) := by cases o <;> exact h _ _
theorem valR_step {b : Nat} {D : List UInt8} {k n : Nat} (hk : k < D.length) : valR b (D.drop k) n = if digV (D.getD k 0).toNat < b ∧ n * b + digV (D.getD k 0).toNat ≤ 9223372036854775808 then valR b (D.drop (k + 1)) (n * b + digV (D.getD k 0).toNat) else none := by
  rw [List.drop_eq_getElem_cons hk]
  simp only [valR, List.getD_eq_getElem?_getD, List.getElem?_eq_getElem hk, Option.getD_some]
set_option maxHeartbeats 1000000 in
theorem rvalue_10 (w : List UInt8) (hw : w.length ≤ 100000) (hx : ((decide ((2 : Int) < (w.length : Int)) && decide (cd w 0 = 48)) && decide (cd w 1 = 120)) = false) (o : Option Nat) (hno : (w.length : Int) < 1 ∨ (19 : Int) < (w.length : Int) → o = none) (hyes : 1 ≤ w.length → w.length ≤ 19 → o = valR 10 w 0) : CtrV Tryz.prog 170 [.s w] (valO o) := by
  refine Ctr.enterV tabOkF (fn := Tryz.f170) rfl rfl rfl rfl rfl (valO_any (p := fun r => nm r = true) fun _ _ => rfl) ?_
  refine ⟨fun hg => ?_, ?_⟩
  · have hg : (decide ((2 : Int) < (w.length : Int)) == true) = true := hg
    have hg : 2 < w.length := by simp at hg; omega
    show (0 : Int) ≤ 0 ∧ (0 : Int) < (w.length : Int)
    omega
  refine ⟨fun hg => ?_, ?_⟩
  · have hg : ((decide ((2 : Int) < (w.length : Int)) && decide (cd w 0 = 48)) == true) = true := hg
    have hg : 2 < w.length := by simp at hg; omega
    show (0 : Int) ≤ 1 ∧ (1 : Int) < (w.length : Int)
    omega
  refine ⟨fun h => ?_, fun _ => ?_⟩
  · have h : ((decide ((2 : Int) < (w.length : Int)) && decide (cd w 0 = 48)) && decide (cd w 1 = 120)) = true := h
    rw [hx] at h; cases h
  refine ⟨fun h3 => ?_, fun h3 => ?_⟩
  · have h3 : (decide ((w.length : Int) < 1) || decide ((19 : Int) < (w.length : Int))) = true := h3
    rw [hno (by simpa only [Bool.or_eq_true, decide_eq_true_eq] using h3)]
    exact rfl
  have h3 : (decide ((w.length : Int) < 1) || decide ((19 : Int) < (w.length : Int))) = false := h3
  simp only [Bool.or_eq_false_iff, decide_eq_false_iff_not] at h3
  rw [hyes (by omega) (by omega)]
  refine WpC.loop tabOkF (β := Nat × Nat) (fun x => x.1 ≤ w.length ∧ x.2 ≤ 9223372036854775808 ∧ valR 10 w 0 = valR 10 (w.drop x.1) x.2) (fun x => [(7, .i .i64 x.1), (6, .i .u64 x.2)]) (fun _ => []) (fun x => w.length - x.1) (0, 0) 147573952581086478796 ⟨Nat.zero_le _, by decide, rfl⟩ ?_ ?_
  · exact ⟨rfl, ⟨⟨rfl, rfl, rfl⟩, ⟨rfl, rfl, rfl⟩, trivial⟩, ⟨[], rfl⟩, trivial, rfl⟩
  · rintro ⟨k, n⟩ ⟨hk, hn, hv⟩
    have hk : k ≤ w.length := hk
    have hn : n ≤ 9223372036854775808 := hn
    have hv : valR 10 w 0 = valR 10 (w.drop k) n := hv
    refine ⟨fun h4 => ?_, fun h4 => ?_⟩
    · have h4 : decide ((k : Int) < (w.length : Int)) = true := h4
      have h4 : (k : Int) < (w.length : Int) := of_decide_eq_true h4
      have h4 : k < w.length := by omega
      rw [valR_step h4] at hv
      refine ⟨fun _ => ⟨by omega, by show (k : Int) < (w.length : Int); omega⟩, ?_⟩
      refine OpC.callV rfl rfl rfl rfl rfl rfl rfl (fun _ => rhex_ok (w.getD k 0)) ?_
      have hx := hexV_10 (w.getD k 0)
      have hy := hexV_dig (w.getD k 0)
      generalize hexV (w.getD k 0).toNat = X at hx hy ⊢
      generalize digV (w.getD k 0).toNat = V at hx hy hv
      refine ⟨fun _ => by show IntKind.u64.wrap 10 ≠ 0; decide, ?_⟩
      have eb : IntKind.u64.wrap 10 = 10 := rfl
      have hq : 0 ≤ X → X < 10 → IntKind.u64.wrap ((IntKind.u64.wrap (9223372036854775808 - IntKind.u64.wrap X)).tdiv (IntKind.u64.wrap 10)) = (((9223372036854775808 - V) / 10 : Nat) : Int) := by
        intro h0 h1
        have := hy h0
        have f1 : IntKind.u64.wrap X = X := wu64 h0 (by omega)
        have f2 : IntKind.u64.wrap (9223372036854775808 - X) = 9223372036854775808 - X := wu64 (by omega) (by omega)
        have f3 : (9223372036854775808 : Int) - X = ((9223372036854775808 - V : Nat) : Int) := by omega
        have f4 : ∀ m : Nat, ((m : Int)).tdiv 10 = ((m / 10 : Nat) : Int) := fun m => rfl
        have f5 := wu64 (x := (((9223372036854775808 - V) / 10 : Nat) : Int)) (by omega) (by omega)
        rw [eb, f1, f2, f3, f4, f5]
      refine ⟨fun h5 => ?_, fun h5 => ?_⟩
      · have h5 : ((decide (X < 0) || decide ((10 : Int) ≤ X)) || decide (IntKind.u64.wrap ((IntKind.u64.wrap (9223372036854775808 - IntKind.u64.wrap X)).tdiv (IntKind.u64.wrap 10)) < (n : Int))) = true := h5
        rw [hv, if_neg ?_]
        · exact rfl
        rintro ⟨c1, c2⟩
        obtain ⟨d1, d2⟩ := hx.2 c1
        obtain ⟨d3, d4⟩ := hy d1
        rw [hq d1 d2, decide_eq_false (by omega), decide_eq_false (by omega)] at h5
        simp only [Bool.false_or, decide_eq_true_eq] at h5
        have h5 : (9223372036854775808 - V) / 10 < n := by omega
        rw [Nat.div_lt_iff_lt_mul (by decide)] at h5
        omega
      · have h5 : ((decide (X < 0) || decide ((10 : Int) ≤ X)) || decide (IntKind.u64.wrap ((IntKind.u64.wrap (9223372036854775808 - IntKind.u64.wrap X)).tdiv (IntKind.u64.wrap 10)) < (n : Int))) = false := h5
        simp only [Bool.or_eq_false_iff, decide_eq_false_iff_not] at h5
        obtain ⟨⟨d1, d2⟩, d5⟩ := h5
        have d1 : 0 ≤ X := by omega
        have d2 : X < 10 := by omega
        obtain ⟨d3, d4⟩ := hy d1
        rw [hq d1 d2] at d5
        have d6 : ¬ (9223372036854775808 - V) / 10 < n := by omega
        rw [Nat.div_lt_iff_lt_mul (by decide)] at d6
        have c1 := hx.1 ⟨d1, d2⟩
        rw [if_pos ⟨c1, by omega⟩] at hv
        refine ⟨(k + 1, n * 10 + V), ⟨by show k + 1 ≤ w.length; omega, by show n * 10 + V ≤ 9223372036854775808; omega, hv⟩, by show w.length - (k + 1) < w.length - k; omega, rfl, ⟨⟨?_, rfl, rfl⟩, ⟨?_, rfl, rfl⟩, trivial⟩, ⟨[], rfl⟩, trivial, rfl⟩
        · show SV.i .i64 (IntKind.i64.wrap ((k : Int) + 1)) = SV.i .i64 ((k + 1 : Nat) : Int)
          rw [w64 (by omega) (by omega)]; rfl
        · show SV.i .u64 (IntKind.u64.wrap (IntKind.u64.wrap ((n : Int) * IntKind.u64.wrap 10) + IntKind.u64.wrap X)) = SV.i .u64 ((n * 10 + V : Nat) : Int)
          have f1 : IntKind.u64.wrap X = X := wu64 d1 (by omega)
          have f2 : IntKind.u64.wrap ((n : Int) * 10) = (n : Int) * 10 := wu64 (by omega) (by omega)
          have f3 : IntKind.u64.wrap ((n : Int) * 10 + X) = (n : Int) * 10 + X := wu64 (by omega) (by omega)
          rw [eb, f1, f2, f3]
          congr 1
          omega
    · have h4 : decide ((k : Int) < (w.length : Int)) = false := h4
      have h4 : ¬ (k : Int) < (w.length : Int) := of_decide_eq_false h4
      have h4 : ¬ k < w.length := fun h => h4 (Int.ofNat_lt.2 h)
      rw [hv, List.drop_eq_nil_of_le (Nat.not_lt.1 h4)]
      exact rfl
set_option maxHeartbeats 1000000 in
theorem rvalue_16 (w : List UInt8) (hw : w.length ≤ 100000) (hx : ((decide ((2 : Int) < (w.length : Int)) && decide (cd w 0 = 48)) && decide (cd w 1 = 120)) = true) (o : Option Nat) (hno : (((w.take w.length).drop 2).length : Int) < 1 ∨ (16 : Int) < (((w.take w.length).drop 2).length : Int) → o = none) (hyes : 1 ≤ ((w.take w.length).drop 2).length → ((w.take w.length).drop 2).length ≤ 16 → o = valR 16 ((w.take w.length).drop 2) 0) : CtrV Tryz.prog 170 [.s w] (valO o) := by
  have hlen : 2 < w.length := by
    simp only [Bool.and_eq_true, decide_eq_true_eq] at hx; omega
  have hdl : ((w.take w.length).drop 2).length ≤ 100000 := by simp; omega
  refine Ctr.enterV tabOkF (fn := Tryz.f170) rfl rfl rfl rfl rfl (valO_any (p := fun r => nm r = true) fun _ _ => rfl) ?_
  refine ⟨fun hg => ?_, ?_⟩
  · have hg : (decide ((2 : Int) < (w.length : Int)) == true) = true := hg
    have hg : 2 < w.length := by simp at hg; omega
    show (0 : Int) ≤ 0 ∧ (0 : Int) < (w.length : Int)
    omega
  refine ⟨fun hg => ?_, ?_⟩
  · have hg : ((decide ((2 : Int) < (w.length : Int)) && decide (cd w 0 = 48)) == true) = true := hg
    have hg : 2 < w.length := by simp at hg; omega
    show (0 : Int) ≤ 1 ∧ (1 : Int) < (w.length : Int)
    omega
  refine ⟨fun _ => ?_, fun h => ?_⟩
  rotate_left
  · have h : ((decide ((2 : Int) < (w.length : Int)) && decide (cd w 0 = 48)) && decide (cd w 1 = 120)) = false := h
    rw [hx] at h; cases h
  refine ⟨fun _ => by show (0 : Int) ≤ 2 ∧ (2 : Int) ≤ (w.length : Int); omega, ?_⟩
  refine ⟨fun h3 => ?_, fun h3 => ?_⟩
  · have h3 : (decide ((((w.take w.length).drop 2).length : Int) < 1) || decide ((16 : Int) < (((w.take w.length).drop 2).length : Int))) = true := h3
    rw [hno (by simpa only [Bool.or_eq_true, decide_eq_true_eq] using h3)]
    exact rfl
  have h3 : (decide ((((w.take w.length).drop 2).length : Int) < 1) || decide ((16 : Int) < (((w.take w.length).drop 2).length : Int))) = false := h3
  simp only [Bool.or_eq_false_iff, decide_eq_false_iff_not] at h3
  rw [hyes (by omega) (by omega)]
  refine WpC.loop tabOkF (β := Nat × Nat) (fun x => x.1 ≤ ((w.take w.length).drop 2).length ∧ x.2 ≤ 9223372036854775808 ∧ valR 16 ((w.take w.length).drop 2) 0 = valR 16 (((w.take w.length).drop 2).drop x.1) x.2) (fun x => [(7, .i .i64 x.1), (6, .i .u64 x.2)]) (fun _ => []) (fun x => ((w.take w.length).drop 2).length - x.1) (0, 0) 147573952581086478796 ⟨Nat.zero_le _, by decide, rfl⟩ ?_ ?_
  · exact ⟨rfl, ⟨⟨rfl, rfl, rfl⟩, ⟨rfl, rfl, rfl⟩, trivial⟩, ⟨[], rfl⟩, trivial, rfl⟩
  · rintro ⟨k, n⟩ ⟨hk, hn, hv⟩
    have hk : k ≤ ((w.take w.length).drop 2).length := hk
    have hn : n ≤ 9223372036854775808 := hn
    have hv : valR 16 ((w.take w.length).drop 2) 0 = valR 16 (((w.take w.length).drop 2).drop k) n := hv
    refine ⟨fun h4 => ?_, fun h4 => ?_⟩
    · have h4 : decide ((k : Int) < (((w.take w.length).drop 2).length : Int)) = true := h4
      have h4 : (k : Int) < (((w.take w.length).drop 2).length : Int) := of_decide_eq_true h4
      have h4 : k < ((w.take w.length).drop 2).length := by omega
      rw [valR_step h4] at hv
      refine ⟨fun _ => ⟨by omega, by show (k : Int) < (((w.take w.length).drop 2).length : Int); omega⟩, ?_⟩
      refine OpC.callV rfl rfl rfl rfl rfl rfl rfl (fun _ => rhex_ok (((w.take w.length).drop 2).getD k 0)) ?_
      have hx := hexV_16 (((w.take w.length).drop 2).getD k 0)
      have hy := hexV_dig (((w.take w.length).drop 2).getD k 0)
      generalize hexV (((w.take w.length).drop 2).getD k 0).toNat = X at hx hy ⊢
      generalize digV (((w.take w.length).drop 2).getD k 0).toNat = V at hx hy hv
      refine ⟨fun _ => by show IntKind.u64.wrap 16 ≠ 0; decide, ?_⟩
      have eb : IntKind.u64.wrap 16 = 16 := rfl
      have hq : 0 ≤ X → X < 16 → IntKind.u64.wrap ((IntKind.u64.wrap (9223372036854775808 - IntKind.u64.wrap X)).tdiv (IntKind.u64.wrap 16)) = (((9223372036854775808 - V) / 16 : Nat) : Int) := by
        intro h0 h1
        have := hy h0
        have f1 : IntKind.u64.wrap X = X := wu64 h0 (by omega)
        have f2 : IntKind.u64.wrap (9223372036854775808 - X) = 9223372036854775808 - X := wu64 (by omega) (by omega)
        have f3 : (9223372036854775808 : Int) - X = ((9223372036854775808 - V : Nat) : Int) := by omega
        have f4 : ∀ m : Nat, ((m : Int)).tdiv 16 = ((m / 16 : Nat) : Int) := fun m => rfl
        have f5 := wu64 (x := (((9223372036854775808 - V) / 16 : Nat) : Int)) (by omega) (by omega)
        rw [eb, f1, f2, f3, f4, f5]
      refine ⟨fun h5 => ?_, fun h5 => ?_⟩
      · have h5 : ((decide (X < 0) || decide ((16 : Int) ≤ X)) || decide (IntKind.u64.wrap ((IntKind.u64.wrap (9223372036854775808 - IntKind.u64.wrap X)).tdiv (IntKind.u64.wrap 16)) < (n : Int))) = true := h5
        rw [hv, if_neg ?_]
        · exact rfl
        rintro ⟨c1, c2⟩
        obtain ⟨d1, d2⟩ := hx.2 c1
        obtain ⟨d3, d4⟩ := hy d1
        rw [hq d1 d2, decide_eq_false (by omega), decide_eq_false (by omega)] at h5
        simp only [Bool.false_or, decide_eq_true_eq] at h5
        have h5 : (9223372036854775808 - V) / 16 < n := by omega
        rw [Nat.div_lt_iff_lt_mul (by decide)] at h5
        omega
      · have h5 : ((decide (X < 0) || decide ((16 : Int) ≤ X)) || decide (IntKind.u64.wrap ((IntKind.u64.wrap (9223372036854775808 - IntKind.u64.wrap X)).tdiv (IntKind.u64.wrap 16)) < (n : Int))) = false := h5
        simp only [Bool.or_eq_false_iff, decide_eq_false_iff_not] at h5
        obtain ⟨⟨d1, d2⟩, d5⟩ := h5
        have d1 : 0 ≤ X := by omega
        have d2 : X < 16 := by omega
        obtain ⟨d3, d4⟩ := hy d1
        rw [hq d1 d2] at d5
        have d6 : ¬ (9223372036854775808 - V) / 16 < n := by omega
        rw [Nat.div_lt_iff_lt_mul (by decide)] at d6
        have c1 := hx.1 ⟨d1, d2⟩
        rw [if_pos ⟨c1, by omega⟩] at hv
        refine ⟨(k + 1, n * 16 + V), ⟨by show k + 1 ≤ ((w.take w.length).drop 2).length; omega, by show n * 16 + V ≤ 9223372036854775808; omega, hv⟩, by show ((w.take w.length).drop 2).length - (k + 1) < ((w.take w.length).drop 2).length - k; omega, rfl, ⟨⟨?_, rfl, rfl⟩, ⟨?_, rfl, rfl⟩, trivial⟩, ⟨[], rfl⟩, trivial, rfl⟩
        · show SV.i .i64 (IntKind.i64.wrap ((k : Int) + 1)) = SV.i .i64 ((k + 1 : Nat) : Int)
          rw [w64 (by omega) (by omega)]; rfl
        · show SV.i .u64 (IntKind.u64.wrap (IntKind.u64.wrap ((n : Int) * IntKind.u64.wrap 16) + IntKind.u64.wrap X)) = SV.i .u64 ((n * 16 + V : Nat) : Int)
          have f1 : IntKind.u64.wrap X = X := wu64 d1 (by omega)
          have f2 : IntKind.u64.wrap ((n : Int) * 16) = (n : Int) * 16 := wu64 (by omega) (by omega)
          have f3 : IntKind.u64.wrap ((n : Int) * 16 + X) = (n : Int) * 16 + X := wu64 (by omega) (by omega)
          rw [eb, f1, f2, f3]
          congr 1
          omega
    · have h4 : decide ((k : Int) < (((w.take w.length).drop 2).length : Int)) = false := h4
      have h4 : ¬ (k : Int) < (((w.take w.length).drop 2).length : Int) := of_decide_eq_false h4
      have h4 : ¬ k < ((w.take w.length).drop 2).length := fun h => h4 (Int.ofNat_lt.2 h)
      rw [hv, List.drop_eq_nil_of_le (Nat.not_lt.1 h4)]
      exact rfl
theorem hex_pre (w : List UInt8) : ((decide ((2 : Int) < (w.length : Int)) && decide (cd w 0 = 48)) && decide (cd w 1 = 120)) = (hexB w && decide (2 < w.length)) := by
  unfold hexB pre cd
  match w with
  | [] => simp
  | [a] => simp
  | a :: b :: r =>
    have ea : ((a.toNat : Int) = 48) ↔ a = 48 := ⟨fun h => UInt8.toNat_inj.1 (by show a.toNat = 48; omega), fun h => by subst h; rfl⟩
    have eb : ((b.toNat : Int) = 120) ↔ b = 120 := ⟨fun h => UInt8.toNat_inj.1 (by show b.toNat = 120; omega), fun h => by subst h; rfl⟩
    rw [Bool.eq_iff_iff]
    simp [ea, eb]
    grind
theorem valR_num (w : List UInt8) (h1 : 1 ≤ (numDs w).length) (h2 : (numDs w).length ≤ numMost w) : numF w = valR (numBase w) (numDs w) 0 := by
  have hb : 1 ≤ numBase w := by unfold numBase; split <;> decide
  rw [valR_eq hb _ _ (by decide)]
  unfold numF
  rw [if_neg (by omega), if_neg (by intro e; rw [e] at h1; simp at h1)]
  cases valB (numBase w) (numDs w) 0 <;> rfl
theorem rvalue_ok (w : List UInt8) (hw : w.length ≤ 100000) : CtrV Tryz.prog 170 [.s w] (valO (numF w)) := by
  cases hx : ((decide ((2 : Int) < (w.length : Int)) && decide (cd w 0 = 48)) && decide (cd w 1 = 120)) with
  | true =>
    have h := hex_pre w
    rw [hx] at h
    have h : (hexB w && decide (2 < w.length)) = true := h.symm
    simp only [Bool.and_eq_true, decide_eq_true_eq] at h
    have hd : numDs w = (w.take w.length).drop 2 := by unfold numDs; rw [if_pos h.1, List.take_length]
    have hm : numMost w = 16 := by unfold numMost; rw [if_pos h.1]
    have hb : numBase w = 16 := by unfold numBase; rw [if_pos h.1]
    refine rvalue_16 w hw hx _ (fun h2 => ?_) (fun h2 h3 => ?_)
    · rw [← hd] at h2
      unfold numF
      rw [hm]
      by_cases h3 : 16 < (numDs w).length
      · rw [if_pos h3]
      · rw [if_neg h3, if_pos (List.eq_nil_of_length_eq_zero (by omega))]
    · rw [← hd] at h2 h3 ⊢
      rw [valR_num w h2 (by omega), hb]
  | false =>
    have h := hex_pre w
    rw [hx] at h
    have h : (hexB w && decide (2 < w.length)) = false := h.symm
    cases hp : hexB w with
    | false =>
      have hd : numDs w = w := by unfold numDs; rw [if_neg (by rw [hp]; decide)]
      have hm : numMost w = 19 := by unfold numMost; rw [if_neg (by rw [hp]; decide)]
      have hb : numBase w = 10 := by unfold numBase; rw [if_neg (by rw [hp]; decide)]
      refine rvalue_10 w hw hx _ (fun h2 => ?_) (fun h2 h3 => ?_)
      · unfold numF
        rw [hm, hd]
        by_cases h3 : 19 < w.length
        · rw [if_pos h3]
        · rw [if_neg h3, if_pos (List.eq_nil_of_length_eq_zero (by omega))]
      · rw [valR_num w (by rw [hd]; exact h2) (by rw [hd, hm]; exact h3), hb, hd]
    | true =>
      rw [hp] at h
      have h2 : ¬ 2 < w.length := by simpa using h
      have hl := pre_len (p := [48, 120]) hp
      have hl : 2 ≤ w.length := hl
      have hn : numF w = none := by
        unfold numF
        have hd : numDs w = [] := by unfold numDs; rw [if_pos hp]; exact List.drop_eq_nil_of_le (by omega)
        rw [hd]
        simp
      rw [hn]
      refine rvalue_10 w hw hx _ (fun _ => rfl) (fun _ _ => ?_)
      match w, hl, h2, hp with
      | [a, b], _, _, hp =>
        unfold hexB pre at hp
        simp at hp
        obtain ⟨rfl, rfl⟩ := hp
        decide
      | a :: b :: c :: r, _, h2, _ => simp at h2
end SX
end Go.Proofs.YthkedcneehdinaaGreatDoor

/- Words of a text: where a comment ends, plain; the reference's blanks, plain. -/
set_option linter.unusedVariables false
set_option maxRecDepth 100000
namespace Go.Proofs.YthkedcneehdinaaGreatDoor
namespace SX
open Go Go.Proofs
def endB (s : List UInt8) (j : Nat) : Bool := decide (cd s j = 42) && decide (cd s (j + 1) = 41)
theorem u8_eq {a : UInt8} {n : Nat} (hn : n < 256) : ((a.toNat : Int) = (n : Int)) ↔ UInt8.ofNat n = a := by
  constructor
  · intro h
    apply UInt8.toNat_inj.1
    rw [UInt8.toNat_ofNat_of_lt' (by simpa [UInt8.size] using hn)]
    omega
  · rintro rfl
    rw [UInt8.toNat_ofNat_of_lt' (by simpa [UInt8.size] using hn)]
theorem pre2 (l : List UInt8) : [42, 41].isPrefixOf l = endB l 0 := by
  unfold endB cd
  match l with
  | [] => rfl
  | [a] => simp [List.isPrefixOf]
  | a :: b :: r =>
    have ea := u8_eq (a := a) (n := 42) (by decide)
    have eb := u8_eq (a := b) (n := 41) (by decide)
    rw [Bool.eq_iff_iff]
    simp only [List.isPrefixOf, Bool.and_eq_true, beq_iff_eq, decide_eq_true_eq, and_true, List.getD_cons_zero, List.getD_cons_succ]
    exact ⟨fun h => ⟨ea.2 h.1, eb.2 h.2⟩, fun h => ⟨ea.1 h.1, eb.1 h.2⟩⟩
theorem endB_drop (s : List UInt8) (p j : Nat) : endB (s.drop p) j = endB s (p + j) := by unfold endB; rw [cd_drop, cd_drop, Nat.add_assoc]
theorem occ2 (s : List UInt8) (p i : Nat) : Lib.occAt ((s.drop p).drop 2) [42, 41] i = endB s (p + 2 + i) := by
  unfold Lib.occAt
  rw [pre2, List.drop_drop, List.drop_drop, endB_drop, Nat.add_zero]
  congr 1; omega
theorem endB_len {s : List UInt8} {j : Nat} (h : endB s j = true) : j + 1 < s.length := by
  unfold endB at h
  simp only [Bool.and_eq_true, decide_eq_true_eq] at h
  by_cases hl : j + 1 < s.length
  · exact hl
  · have h2 := h.2
    unfold cd at h2
    rw [List.getD_eq_getElem?_getD, List.getElem?_eq_none (by omega)] at h2
    simp at h2
theorem cmt_hit {s : List UInt8} {p m : Nat} (hp : p + 2 ≤ m) (hit : endB s m = true) (ho : ∀ j, p + 2 ≤ j → j < m → endB s j = false) : Lib.index ((s.drop p).drop 2) [42, 41] = ((m - (p + 2) : Nat) : Int) := by
  have hl := endB_len hit
  refine Lib.index_first (by simp; omega) ?_ (fun j hj => ?_)
  · rw [occ2, show p + 2 + (m - (p + 2)) = m by omega]; exact hit
  · rw [occ2]; exact ho _ (by omega) (by omega)
theorem cmt_no {s : List UInt8} {p : Nat} (ho : ∀ j, p + 2 ≤ j → endB s j = false) : Lib.index ((s.drop p).drop 2) [42, 41] = -1 :=
  Lib.index_none fun j _ => by rw [occ2]; exact ho _ (by omega)
theorem blkF_end {s : List UInt8} {g k : Nat} (h : s.length ≤ k) : blkF s g k = (k, 0) := by
  cases g with
  | zero => rfl
  | succ g => simp only [blkF, if_pos h]
theorem blkF_step {s : List UInt8} {g k : Nat} (h : k < s.length) (hg : s.length < k + g) : ∃ g', g = g' + 1 ∧ blkF s g k = (if isBlank (cd s k) then blkF s g' (k + 1)
    else if pre (s.drop k) [40, 42] then (if Lib.index ((s.drop k).drop 2) [42, 41] < 0 then (k, 24) else blkF s g' (k + ((Lib.index ((s.drop k).drop 2) [42, 41]).toNat + 4))) else (k, 0)) := by
  cases g with
  | zero => omega
  | succ g => exact ⟨g, rfl, by simp only [blkF, if_neg (Nat.not_le.2 h), cd_drop, Nat.add_zero]⟩
theorem pre_at (s : List UInt8) (k : Nat) : pre (s.drop k) [40, 42] = (decide (cd s k = 40) && decide (cd s (k + 1) = 42)) := by
  have := cd_drop s k 0
  have h1 := cd_drop s k 1
  rw [Nat.add_zero] at this
  rw [← this, ← h1]
  unfold pre cd
  match s.drop k with
  | [] => rfl
  | [a] => simp
  | a :: b :: r =>
    have ea := u8_eq (a := a) (n := 40) (by decide)
    have eb := u8_eq (a := b) (n := 42) (by decide)
    rw [Bool.eq_iff_iff]
    simp only [List.length_cons, List.length_nil, List.take_succ_cons, List.take_zero, List.drop_zero, Bool.and_eq_true, decide_eq_true_eq, List.cons.injEq, and_true, List.getD_cons_zero, List.getD_cons_succ]
    constructor
    · rintro ⟨_, h1, h2⟩
      exact ⟨ea.2 h1.symm, eb.2 h2.symm⟩
    · rintro ⟨h1, h2⟩
      exact ⟨by omega, (ea.1 h1).symm, (eb.1 h2).symm⟩
end SX
end Go.Proofs.YthkedcneehdinaaGreatDoor

/- Words of a text: the reference's blanks. -/
set_option linter.unusedVariables false
set_option maxRecDepth 100000
namespace Go.Proofs.YthkedcneehdinaaGreatDoor
namespace SX
open Go Go.Proofs
set_option maxHeartbeats 1000000 in
theorem rblank_ok (s : List UInt8) (p : Nat) (hs : s.length ≤ 100000) (hp : p ≤ s.length) : CtrV Tryz.prog 167 [.s s, .i .i64 p] (.tup [.i .i64 ((blkF s (s.length + 1) p).1 : Int), .i .i64 (blkF s (s.length + 1) p).2]) := by
  refine Ctr.enterV tabOkF (fn := Tryz.f167) rfl rfl rfl rfl rfl rfl ?_
  generalize hG : blkF s (s.length + 1) p = G
  refine WpC.loop tabOkF (β := Nat) (fun k => k ≤ s.length ∧ ∃ g, s.length < k + g ∧ G = blkF s g k) (fun k => [(1, .i .i64 k)]) (fun _ => []) (fun k => s.length - k) p 604462909807314587353074 ⟨hp, _, by omega, hG.symm⟩ ?_ ?_
  · exact ⟨rfl, ⟨⟨rfl, rfl, rfl⟩, trivial⟩, ⟨[], rfl⟩, trivial, rfl⟩
  · rintro k ⟨hk, g, hg, hv⟩
    refine ⟨fun h1 => ?_, fun h1 => ?_⟩
    · have h1 : (k : Int) < (s.length : Int) := of_decide_eq_true h1
      have h1 : k < s.length := by omega
      have hix : (0 : Int) ≤ (k : Int) ∧ (k : Int) < (s.length : Int) := by omega
      have e1 : IntKind.i64.wrap ((k : Int) + 1) = ((k + 1 : Nat) : Int) := w64 (by omega) (by omega)
      have e2 : IntKind.i64.wrap ((k : Int) + 2) = ((k + 2 : Nat) : Int) := w64 (by omega) (by omega)
      obtain ⟨g', rfl, hst⟩ := blkF_step h1 hg
      rw [hst] at hv
      refine ⟨fun _ => hix, ⟨fun _ => hix, ⟨fun _ => hix, ?_⟩⟩⟩
      refine ⟨fun h2 => ?_, fun h2 => ?_⟩
      · have h2 : isBlank (cd s k) = true := h2
        rw [if_pos h2] at hv
        exact ⟨k + 1, ⟨by omega, g', by omega, hv⟩, by omega, rfl, ⟨⟨by show SV.i .i64 (IntKind.i64.wrap ((k : Int) + 1)) = SV.i .i64 ((k + 1 : Nat) : Int); rw [e1], rfl, rfl⟩, trivial⟩, ⟨[], rfl⟩, trivial, rfl⟩
      · have h2 : isBlank (cd s k) = false := h2
        rw [if_neg (by rw [h2]; decide)] at hv
        refine ⟨fun _ => hix, ⟨fun hg2 => ?_, ?_⟩⟩
        · have hg2 : (((!decide (cd s k = 40)) || decide ((s.length : Int) ≤ IntKind.i64.wrap ((k : Int) + 1))) == false) = true := hg2
          show (0 : Int) ≤ IntKind.i64.wrap ((k : Int) + 1) ∧ IntKind.i64.wrap ((k : Int) + 1) < (s.length : Int)
          rw [e1] at hg2 ⊢
          simp at hg2
          omega
        refine ⟨fun h3 => ?_, fun h3 => ?_⟩
        · have h3 : (((!decide (cd s k = 40)) || decide ((s.length : Int) ≤ IntKind.i64.wrap ((k : Int) + 1))) || (!decide (cd s (IntKind.i64.wrap ((k : Int) + 1)).toNat = 42))) = true := h3
          rw [e1] at h3
          have hpf : pre (s.drop k) [40, 42] = false := by
            rw [pre_at]
            cases hq : (decide (cd s k = 40) && decide (cd s (k + 1) = 42)) with
            | false => rfl
            | true =>
              simp only [Bool.and_eq_true, decide_eq_true_eq] at hq
              simp only [Int.toNat_natCast, hq.1, hq.2, decide_true, Bool.not_true, Bool.false_or, Bool.or_false, decide_eq_true_eq] at h3
              have hq2 := hq.2
              unfold cd at hq2
              rw [List.getD_eq_getElem?_getD, List.getElem?_eq_none (by omega)] at hq2
              simp at hq2
          rw [if_neg (by rw [hpf]; decide)] at hv
          rw [hv]
          exact rfl
        · have h3 : (((!decide (cd s k = 40)) || decide ((s.length : Int) ≤ IntKind.i64.wrap ((k : Int) + 1))) || (!decide (cd s (IntKind.i64.wrap ((k : Int) + 1)).toNat = 42))) = false := h3
          rw [e1] at h3
          simp only [Int.toNat_natCast, Bool.or_eq_false_iff, Bool.not_eq_false', decide_eq_true_eq, decide_eq_false_iff_not] at h3
          obtain ⟨⟨c1, c2⟩, c3⟩ := h3
          have hpf : pre (s.drop k) [40, 42] = true := by rw [pre_at, decide_eq_true c1, decide_eq_true c3]; rfl
          rw [if_pos hpf] at hv
          have c2 : k + 1 < s.length := by omega
          refine WpC.loop tabOkF (β := Nat) (fun m => k + 2 ≤ m ∧ m ≤ s.length + 1 ∧ ∀ j, k + 2 ≤ j → j < m → endB s j = false) (fun m => [(6, .i .i64 m)]) (fun _ => []) (fun m => s.length + 2 - m) (k + 2) 1208925819614629174706172 ⟨Nat.le_refl _, by omega, fun j a b => by omega⟩ ?_ ?_
          · exact ⟨rfl, ⟨⟨by show SV.i .i64 (IntKind.i64.wrap ((k : Int) + 2)) = SV.i .i64 ((k + 2 : Nat) : Int); rw [e2], rfl, rfl⟩, trivial⟩, ⟨[], rfl⟩, trivial, rfl⟩
          · as_aux_lemma =>
              rintro m ⟨hm1, hm2, hmo⟩
              have f1 : IntKind.i64.wrap ((m : Int) + 1) = ((m + 1 : Nat) : Int) := w64 (by omega) (by omega)
              have f2 : IntKind.i64.wrap ((m : Int) + 2) = ((m + 2 : Nat) : Int) := w64 (by omega) (by omega)
              have hob : (decide (IntKind.i64.wrap ((m : Int) + 1) < (s.length : Int)) == true) = true → m + 1 < s.length := by
                intro h; rw [f1] at h; simp at h; omega
              refine ⟨fun q => by have := hob q; show (0 : Int) ≤ (m : Int) ∧ (m : Int) < (s.length : Int); omega, ⟨fun q => by have := hob (and_l q); show (0 : Int) ≤ IntKind.i64.wrap ((m : Int) + 1) ∧ IntKind.i64.wrap ((m : Int) + 1) < (s.length : Int); rw [f1]; omega, ?_⟩⟩
              refine ⟨fun h4 => ?_, fun h4 => ?_⟩
              · as_aux_lemma =>
                have h4 : (decide (IntKind.i64.wrap ((m : Int) + 1) < (s.length : Int)) && !(decide (cd s m = 42) && decide (cd s (IntKind.i64.wrap ((m : Int) + 1)).toNat = 41))) = true := h4
                rw [f1] at h4
                simp only [Int.toNat_natCast] at h4
                rw [show (decide (cd s m = 42) && decide (cd s (m + 1) = 41)) = endB s m from rfl] at h4
                simp only [Bool.and_eq_true, decide_eq_true_eq, Bool.not_eq_true'] at h4
                refine ⟨m + 1, ⟨by omega, by omega, fun j a b => ?_⟩, by omega, Eq.trans (b := SV.s s :: SV.i .i64 (k : Int) :: List.replicate 78 SV.dead) rfl rfl, ⟨⟨by show SV.i .i64 (IntKind.i64.wrap ((m : Int) + 1)) = SV.i .i64 ((m + 1 : Nat) : Int); rw [f1], rfl, rfl⟩, trivial⟩, ⟨[], rfl⟩, trivial, rfl⟩
                rcases Nat.lt_succ_iff_lt_or_eq.1 b with b | rfl
                · exact hmo j a b
                · exact h4.2
              · have h4 : (decide (IntKind.i64.wrap ((m : Int) + 1) < (s.length : Int)) && !(decide (cd s m = 42) && decide (cd s (IntKind.i64.wrap ((m : Int) + 1)).toNat = 41))) = false := h4
                rw [f1] at h4
                simp only [Int.toNat_natCast] at h4
                rw [show (decide (cd s m = 42) && decide (cd s (m + 1) = 41)) = endB s m from rfl] at h4
                refine ⟨fun h5 => ?_, fun h5 => ?_⟩
                · as_aux_lemma =>
                  have h5 : (s.length : Int) ≤ IntKind.i64.wrap ((m : Int) + 1) := of_decide_eq_true h5
                  rw [f1] at h5
                  have hno : Lib.index ((s.drop k).drop 2) [42, 41] = -1 := cmt_no fun j hj => by
                    by_cases hjm : j < m
                    · exact hmo j hj hjm
                    · cases hq : endB s j with
                      | false => rfl
                      | true => have := endB_len hq; omega
                  rw [if_pos (by rw [hno]; decide)] at hv
                  rw [hv]
                  exact rfl
                · as_aux_lemma =>
                  have h5 : ¬ (s.length : Int) ≤ IntKind.i64.wrap ((m : Int) + 1) := of_decide_eq_false h5
                  rw [f1] at h5
                  have h6 : endB s m = true := by
                    rw [decide_eq_true (by omega)] at h4
                    simpa using h4
                  have hi := cmt_hit (s := s) (p := k) (m := m) hm1 h6 hmo
                  rw [if_neg (by rw [hi]; omega), hi] at hv
                  refine ⟨m + 2, ⟨by omega, g', by omega, ?_⟩, by omega, rfl, ⟨⟨by show SV.i .i64 (IntKind.i64.wrap ((m : Int) + 2)) = SV.i .i64 ((m + 2 : Nat) : Int); rw [f2], rfl, rfl⟩, trivial⟩, ⟨[], rfl⟩, trivial, rfl⟩
                  rw [hv]
                  congr 1
                  simp; omega
    · have h1 : ¬ (k : Int) < (s.length : Int) := of_decide_eq_false h1
      rw [hv, blkF_end (by omega)]
      exact rfl
end SX
end Go.Proofs.YthkedcneehdinaaGreatDoor

/- Words of a text: the reference's Tokens (written by tools/rkf.py). -/
set_option linter.unusedVariables false
set_option maxRecDepth 100000
namespace Go.Proofs.YthkedcneehdinaaGreatDoor
namespace SX
open Go Go.Proofs
theorem gB_1 {a b : Bool} (h : ((a == true) && b) = true) : a = true := by cases a <;> simp_all
theorem gB_2 {a b c : Bool} (h : (((a == true) && b) && c) = true) : a = true := by cases a <;> simp_all
theorem pre2_at (s : List UInt8) (k : Nat) (a b : UInt8) (ha : (a.toNat : Int) ≠ 0) (hb : (b.toNat : Int) ≠ 0) : pre (s.drop k) [a, b] = (decide (cd s k = (a.toNat : Int)) && decide (cd s (k + 1) = (b.toNat : Int))) := by
  have := cd_drop s k 0
  have h1 := cd_drop s k 1
  rw [Nat.add_zero] at this
  rw [← this, ← h1]
  unfold pre cd
  have e : ∀ x y : UInt8, ((x.toNat : Int) = (y.toNat : Int)) ↔ x = y := fun x y => ⟨fun h => UInt8.toNat_inj.1 (by omega), fun h => by rw [h]⟩
  match s.drop k with
  | [] => simp; intro h; exact absurd h.symm ha
  | [x] => simp; intro _ h; exact absurd h.symm hb
  | x :: y :: r =>
    rw [Bool.eq_iff_iff]
    simp only [List.length_cons, List.length_nil, List.take_succ_cons, List.take_zero, List.drop_zero, Bool.and_eq_true, decide_eq_true_eq, List.cons.injEq, and_true, List.getD_cons_zero, List.getD_cons_succ, e]
    constructor
    · rintro ⟨_, h⟩; exact h
    · intro h; exact ⟨by omega, h⟩
theorem pre_two {s : List UInt8} {k : Nat} (hk : k < s.length) (e1 : IntKind.i64.wrap ((k : Int) + 1) = ((k + 1 : Nat) : Int)) :
    (decide (IntKind.i64.wrap ((k : Int) + 1) < (s.length : Int)) && ((decide (cd s k = 47) && decide (cd s (IntKind.i64.wrap ((k : Int) + 1)).toNat = 92)) || (decide (cd s k = 92) && decide (cd s (IntKind.i64.wrap ((k : Int) + 1)).toNat = 47)))) = (pre (s.drop k) [47, 92] || pre (s.drop k) [92, 47]) := by
  rw [e1, pre2_at s k 47 92 (by decide) (by decide), pre2_at s k 92 47 (by decide) (by decide), Int.toNat_natCast]
  show _ = ((decide (cd s k = 47) && decide (cd s (k + 1) = 92)) || (decide (cd s k = 92) && decide (cd s (k + 1) = 47)))
  by_cases h : ((k + 1 : Nat) : Int) < (s.length : Int)
  · rw [decide_eq_true h, Bool.true_and]
  · rw [decide_eq_false h, Bool.false_and]
    have z : cd s (k + 1) = 0 := by unfold cd; rw [List.getD_eq_getElem?_getD, List.getElem?_eq_none (by omega)]; rfl
    rw [z]; simp
theorem pre_nomark {l : List UInt8} (h : ¬ l.getD 0 0 ∈ marksL) : (pre l [47, 92] || pre l [92, 47]) = false := by
  rw [Bool.eq_false_iff]
  intro hh
  simp only [Bool.or_eq_true] at hh
  have key : ∀ a b : UInt8, pre l [a, b] = true → l.getD 0 0 = a := fun a b hp => by
    unfold pre at hp
    simp only [List.drop_zero, Bool.and_eq_true, decide_eq_true_eq] at hp
    match l, hp with
    | [], hp => simp at hp
    | [x], hp => simp at hp
    | x :: y :: r, hp => simp at hp; exact hp.2.1
  rcases hh with hh | hh
  · rw [key _ _ hh] at h; exact h (by decide)
  · rw [key _ _ hh] at h; exact h (by decide)
set_option maxHeartbeats 4000000 in
theorem rtokens_ok (s : List UInt8) : Ctr Tryz.prog 101 [.s s] [] (TokK s) := by
  have key : Ctr Tryz.prog 101 [.s s] [] (fun r h => (∃ ts ver Y, tokF s = (ts, 0, 0) ∧ r = .tup [.sl 0 ver 0 ts.length none 0, .i .i64 0, .i .i64 0] ∧ h = rowK ts.length ts ver :: Y) ∨
      (∃ (e : Int) (p : Nat), tokF s = ([], e, (p : Int)) ∧ e ≠ 0 ∧ r = .tup [.nils, .i .i64 e, .i .i64 p])) := by
    refine Ctr.enter tabOkF (fn := Tryz.f101) rfl rfl rfl rfl rfl ?_
    refine ⟨fun h1 => ?_, fun h1 => ?_⟩
    · have h1 : 8192 < s.length := by
        have h1 : decide ((8192 : Int) < s.length) = true := h1
        simp at h1; omega
      exact .inr ⟨2, 0, by unfold tokF; rw [if_pos h1]; rfl, by decide, rfl⟩
    have h1 : s.length ≤ 8192 := by
      have h1 : decide ((8192 : Int) < s.length) = false := h1
      simp at h1; omega
    refine WpC.shift (Shift.row (d := 5) rfl 3 42 [.arr 0 Tk tk0 4 tkenc []] (fun E => rfl) (fun m V => ⟨⟨rfl, rfl, tkenc_w, fun j hj => by omega⟩, trivial⟩)) ?_
    refine WpC.loop tabOkF (β := Nat × Nat × List Tk × Nat × Nat) (fun x => x.1 ≤ s.length ∧ s.length < x.1 + x.2.2.2.2 ∧ tokC s x.2.2.2.2 x.1 x.2.2.1 = tokF s ∧ x.2.1 ≤ x.1 ∧ x.2.2.1.length = x.2.1) (fun x => [(6, .i .i64 x.1), (5, .sl 0 x.2.2.2.1 0 x.2.1 none 0)]) (fun x => [rowK x.2.1 x.2.2.1 x.2.2.2.1]) (fun x => s.length - x.1) (0, 0, [], 0, s.length + 1) 5192296858534827628530496329220094 ⟨Nat.zero_le _, by show s.length < 0 + (s.length + 1); omega, by unfold tokF; rw [if_neg (by omega)], Nat.le_refl _, rfl⟩ ?_ ?_
    · exact ⟨rfl, ⟨⟨rfl, rfl, rfl⟩, ⟨rfl, rfl, rfl⟩, trivial⟩, ⟨[], rfl⟩, ⟨bndTk, trivial⟩, rfl⟩
    · rintro ⟨p, N, ts, ver, f⟩ ⟨hi, hf, hc, hlt, hNt⟩
      simp only at hi hf hc hlt hNt
      have hbk := blkF_tok (s := s) (out := ts) (g := s.length + 1) (p := p) (f := f) (by omega) hf
      have hb := rblank_ok s p (by omega) hi
      obtain ⟨G, hG⟩ : ∃ G, G = blkF s (s.length + 1) p := ⟨_, rfl⟩
      rw [← hG] at hb hbk
      obtain ⟨k, e⟩ := G
      dsimp only at hb hbk
      refine OpC.callV rfl rfl rfl rfl rfl rfl rfl (fun _ => hb) ?_
      rcases hbk with ⟨he, ht⟩ | ⟨he, hpk, ⟨f1, hf1, ht⟩, hnx⟩
      · subst he
        refine ⟨fun _ => ?_, fun h => no_tf h⟩
        rw [hc] at ht
        exact .inr ⟨24, k, ht, by decide, rfl⟩
      subst he
      refine ⟨fun h => no_ft h, fun _ => ?_⟩
      refine ⟨fun h2 => ?_, fun h2 => ?_⟩
      · have h2 : (s.length : Int) ≤ (k : Int) := of_decide_eq_true h2
        rw [tokC_end (s := s) (f := f1) (at' := k) (out := ts) (by omega), hc] at ht
        subst hNt
        exact .inl ⟨ts, ver, _, ht, rfl, rfl⟩
      have h2 : ¬ (s.length : Int) ≤ (k : Int) := of_decide_eq_false h2
      have hkl : k < s.length := by omega
      have hix : (0 : Int) ≤ (k : Int) ∧ (k : Int) < (s.length : Int) := by omega
      obtain ⟨hbl, hpr⟩ := hnx hkl
      have c0 : cd (s.drop k) 0 = cd s k := by rw [cd_drop, Nat.add_zero]
      rw [c0] at hbl
      have hbl : (decide (cd s k = 32) || decide (cd s k = 9) || decide (cd s k = 10)) = false := hbl
      obtain ⟨f', rfl, hstep⟩ := tokC_step (out := ts) hkl hf1
      have e1 : IntKind.i64.wrap ((k : Int) + 1) = ((k + 1 : Nat) : Int) := w64 (by omega) (by omega)
      have e2 : IntKind.i64.wrap (IntKind.i64.wrap ((k : Int) + 1) + 1) = ((k + 2 : Nat) : Int) := by rw [e1]; exact w64 (by omega) (by omega)
      have hne : s.drop k ≠ [] := fun hh => by have := congrArg List.length hh; simp at this; omega
      have htd : ∀ m, (s.take (k + m)).drop k = (s.drop k).take m := fun m => by rw [List.drop_take]; congr 1; omega
      refine ⟨fun _ => hix, ?_⟩
      refine OpC.callV rfl rfl rfl rfl rfl rfl rfl (fun _ => rdigit_ok (cd s k)) ?_
      refine ⟨fun h6 => ?_, fun h6 => ?_⟩
      · have h6 : digB (cd s k) = true := h6
        have hr1 := rowF_le numB (s.drop k)
        have hr0 : 0 < rowF numB (s.drop k) := rowF_pos hne (by rw [c0]; unfold numB; rw [h6]; simp)
        have hrq : rowF (runQ false) (s.drop k) = rowF numB (s.drop k) := rfl
        rw [List.length_drop] at hr1
        refine OpC.callV rfl rfl rfl rfl rfl rfl rfl (fun _ => rrun_ok s k false (by omega) (by omega)) ?_
        have hob : (0 : Int) ≤ (k : Int) ∧ (k : Int) ≤ ((k + rowF (runQ false) (s.drop k) : Nat) : Int) ∧ ((k + rowF (runQ false) (s.drop k) : Nat) : Int) ≤ (s.length : Int) := by rw [hrq]; omega
        have hE : SV.i .i64 ((k + rowF (runQ false) (s.drop k) : Nat) : Int) = SV.i .i64 ((k + rowF numB (s.drop k) : Nat) : Int) := rfl
        have hW : ((s.take ((((k + rowF (runQ false) (s.drop k) : Nat) : Int)) : Int).toNat).drop ((k : Nat) : Int).toNat) = (s.drop k).take (rowF numB (s.drop k)) := by rw [hrq]; exact htd _
        refine ⟨fun _ => hob, ?_⟩
        have hv := rvalue_ok ((s.take ((((k + rowF (runQ false) (s.drop k) : Nat) : Int)) : Int).toNat).drop ((k : Nat) : Int).toNat) (by rw [hW, List.length_take, List.length_drop]; omega)
        cases hx : numF ((s.take ((((k + rowF (runQ false) (s.drop k) : Nat) : Int)) : Int).toNat).drop ((k : Nat) : Int).toNat) with
        | none =>
          rw [hx] at hv
          refine OpC.callV rfl rfl rfl rfl rfl rfl rfl (fun _ => hv) ?_
          refine ⟨fun _ => ?_, fun h => no_tf h⟩
          have hst : stepF (s.drop k) k = .err 23 := by
            unfold stepF
            rw [if_neg (by rw [c0, hbl]; decide)]
            rw [if_neg (by rw [hpr]; decide)]
            rw [if_pos (by rw [c0]; exact h6)]
            rw [← hW, hx]
          rw [hst] at hstep
          have hstep : tokC s (f' + 1) k ts = ([], 23, (k : Int)) := hstep
          rw [hstep] at ht
          rw [hc] at ht
          exact .inr ⟨23, k, ht, by decide, rfl⟩
        | some n =>
          rw [hx] at hv
          refine OpC.callV rfl rfl rfl rfl rfl rfl rfl (fun _ => hv) ?_
          refine ⟨fun h => no_ft h, fun _ => ?_⟩
          refine ⟨fun _ => hob, ?_⟩
          refine OpC.yld 0 rfl (yld_app_row tabOkF rfl rfl rfl rfl rfl rfl rfl rfl rfl (SrcA.sl rfl rfl rfl rfl (by decide) rfl) (Joins.arrN (y := ⟨2, ((s.take ((((k + rowF (runQ false) (s.drop k) : Nat) : Int)) : Int).toNat).drop ((k : Nat) : Int).toNat), IntKind.i64.wrap n, k⟩) hNt rfl tkenc_w) (by decide) ?_ ?_) (fun d hd => by cases hd; rfl) ?_
          · exact Nat.le_trans (show N + 1 ≤ 10000 by omega) (by decide)
          · show (N + 1) * 40 ≤ 140737488355328
            omega
          have hst : stepF (s.drop k) k = .tok ⟨2, ((s.take ((((k + rowF (runQ false) (s.drop k) : Nat) : Int)) : Int).toNat).drop ((k : Nat) : Int).toNat), IntKind.i64.wrap n, k⟩ := by
            unfold stepF
            rw [if_neg (by rw [c0, hbl]; decide)]
            rw [if_neg (by rw [hpr]; decide)]
            rw [if_pos (by rw [c0]; exact h6)]
            rw [← hW, hx]
          have hlen : (⟨2, ((s.take ((((k + rowF (runQ false) (s.drop k) : Nat) : Int)) : Int).toNat).drop ((k : Nat) : Int).toNat), IntKind.i64.wrap n, k⟩ : Tk).s.length = (k + rowF numB (s.drop k)) - k := by
            show (List.drop _ (List.take _ _)).length = _
            rw [hW]
            simp
            omega
          rw [hst] at hstep
          have hstep : tokC s (f' + 1) k ts = tokC s f' (k + (⟨2, ((s.take ((((k + rowF (runQ false) (s.drop k) : Nat) : Int)) : Int).toNat).drop ((k : Nat) : Int).toNat), IntKind.i64.wrap n, k⟩ : Tk).s.length) (ts ++ [⟨2, ((s.take ((((k + rowF (runQ false) (s.drop k) : Nat) : Int)) : Int).toNat).drop ((k : Nat) : Int).toNat), IntKind.i64.wrap n, k⟩]) := hstep
          have k0 : k + (⟨2, ((s.take ((((k + rowF (runQ false) (s.drop k) : Nat) : Int)) : Int).toNat).drop ((k : Nat) : Int).toNat), IntKind.i64.wrap n, k⟩ : Tk).s.length = (k + rowF numB (s.drop k)) := by omega
          rw [k0] at hstep
          rw [hstep] at ht
          rw [hc] at ht
          have k1 : (k + rowF numB (s.drop k)) ≤ s.length := by omega
          have k2 : s.length < (k + rowF numB (s.drop k)) + f' := by omega
          have k3 : N + 1 ≤ (k + rowF numB (s.drop k)) := by omega
          have k4 : s.length - (k + rowF numB (s.drop k)) < s.length - p := by omega
          have k5 : (ts ++ [(⟨2, ((s.take ((((k + rowF (runQ false) (s.drop k) : Nat) : Int)) : Int).toNat).drop ((k : Nat) : Int).toNat), IntKind.i64.wrap n, k⟩ : Tk)]).length = N + 1 := by rw [List.length_append, List.length_singleton]; omega
          refine ⟨((k + rowF numB (s.drop k)), N + 1, ts ++ [⟨2, ((s.take ((((k + rowF (runQ false) (s.drop k) : Nat) : Int)) : Int).toNat).drop ((k : Nat) : Int).toNat), IntKind.i64.wrap n, k⟩], ver + 1, f'), ⟨k1, k2, ht.symm, k3, k5⟩, k4, Eq.trans (b := SV.s s :: List.replicate 111 SV.dead) rfl rfl, ⟨⟨?_, rfl, rfl⟩, ⟨rfl, rfl, rfl⟩, trivial⟩, ⟨_, rfl⟩, ⟨bndTk, trivial⟩, rfl⟩
          exact hE
      have h6 : digB (cd s k) = false := h6
      refine OpC.callV rfl rfl rfl rfl rfl rfl rfl (fun _ => rletter_ok (cd s k)) ?_
      refine ⟨fun h8 => ?_, fun h8 => ?_⟩
      · have h8 : (letB (cd s k) || decide (cd s k = 95)) = true := h8
        have hr1 := rowF_le namB (s.drop k)
        have hr0 : 0 < rowF namB (s.drop k) := rowF_pos hne (by
          rw [c0]
          simp only [Bool.or_eq_true] at h8
          unfold namB
          rcases h8 with h8 | h8 <;> rw [h8] <;> simp)
        have hrq : rowF (runQ true) (s.drop k) = rowF namB (s.drop k) := rfl
        rw [List.length_drop] at hr1
        refine OpC.callV rfl rfl rfl rfl rfl rfl rfl (fun _ => rrun_ok s k true (by omega) (by omega)) ?_
        have hob : (0 : Int) ≤ (k : Int) ∧ (k : Int) ≤ ((k + rowF (runQ true) (s.drop k) : Nat) : Int) ∧ ((k + rowF (runQ true) (s.drop k) : Nat) : Int) ≤ (s.length : Int) := by rw [hrq]; omega
        have hE : SV.i .i64 ((k + rowF (runQ true) (s.drop k) : Nat) : Int) = SV.i .i64 ((k + rowF namB (s.drop k) : Nat) : Int) := rfl
        have hW : ((s.take ((((k + rowF (runQ true) (s.drop k) : Nat) : Int)) : Int).toNat).drop ((k : Nat) : Int).toNat) = (s.drop k).take (rowF namB (s.drop k)) := by rw [hrq]; exact htd _
        refine ⟨fun _ => hob, ?_⟩
        refine OpC.yld 0 rfl (yld_app_row tabOkF rfl rfl rfl rfl rfl rfl rfl rfl rfl (SrcA.sl rfl rfl rfl rfl (by decide) rfl) (Joins.arrN (y := ⟨1, ((s.take ((((k + rowF (runQ true) (s.drop k) : Nat) : Int)) : Int).toNat).drop ((k : Nat) : Int).toNat), 0, k⟩) hNt rfl tkenc_w) (by decide) ?_ ?_) (fun d hd => by cases hd; rfl) ?_
        · exact Nat.le_trans (show N + 1 ≤ 10000 by omega) (by decide)
        · show (N + 1) * 40 ≤ 140737488355328
          omega
        have hst : stepF (s.drop k) k = .tok ⟨1, ((s.take ((((k + rowF (runQ true) (s.drop k) : Nat) : Int)) : Int).toNat).drop ((k : Nat) : Int).toNat), 0, k⟩ := by
          unfold stepF
          rw [if_neg (by rw [c0, hbl]; decide)]
          rw [if_neg (by rw [hpr]; decide)]
          rw [if_neg (by rw [c0, h6]; decide)]
          rw [if_pos (by rw [c0]; exact h8)]
          rw [hW]
        have hlen : (⟨1, ((s.take ((((k + rowF (runQ true) (s.drop k) : Nat) : Int)) : Int).toNat).drop ((k : Nat) : Int).toNat), 0, k⟩ : Tk).s.length = (k + rowF namB (s.drop k)) - k := by
          show (List.drop _ (List.take _ _)).length = _
          rw [hW]
          simp
          omega
        rw [hst] at hstep
        have hstep : tokC s (f' + 1) k ts = tokC s f' (k + (⟨1, ((s.take ((((k + rowF (runQ true) (s.drop k) : Nat) : Int)) : Int).toNat).drop ((k : Nat) : Int).toNat), 0, k⟩ : Tk).s.length) (ts ++ [⟨1, ((s.take ((((k + rowF (runQ true) (s.drop k) : Nat) : Int)) : Int).toNat).drop ((k : Nat) : Int).toNat), 0, k⟩]) := hstep
        have k0 : k + (⟨1, ((s.take ((((k + rowF (runQ true) (s.drop k) : Nat) : Int)) : Int).toNat).drop ((k : Nat) : Int).toNat), 0, k⟩ : Tk).s.length = (k + rowF namB (s.drop k)) := by omega
        rw [k0] at hstep
        rw [hstep] at ht
        rw [hc] at ht
        have k1 : (k + rowF namB (s.drop k)) ≤ s.length := by omega
        have k2 : s.length < (k + rowF namB (s.drop k)) + f' := by omega
        have k3 : N + 1 ≤ (k + rowF namB (s.drop k)) := by omega
        have k4 : s.length - (k + rowF namB (s.drop k)) < s.length - p := by omega
        have k5 : (ts ++ [(⟨1, ((s.take ((((k + rowF (runQ true) (s.drop k) : Nat) : Int)) : Int).toNat).drop ((k : Nat) : Int).toNat), 0, k⟩ : Tk)]).length = N + 1 := by rw [List.length_append, List.length_singleton]; omega
        refine ⟨((k + rowF namB (s.drop k)), N + 1, ts ++ [⟨1, ((s.take ((((k + rowF (runQ true) (s.drop k) : Nat) : Int)) : Int).toNat).drop ((k : Nat) : Int).toNat), 0, k⟩], ver + 1, f'), ⟨k1, k2, ht.symm, k3, k5⟩, k4, Eq.trans (b := SV.s s :: List.replicate 111 SV.dead) rfl rfl, ⟨⟨?_, rfl, rfl⟩, ⟨rfl, rfl, rfl⟩, trivial⟩, ⟨_, rfl⟩, ⟨bndTk, trivial⟩, rfl⟩
        exact hE
      have h8 : (letB (cd s k) || decide (cd s k = 95)) = false := h8
      refine OpC.callV rfl rfl rfl rfl rfl rfl rfl (fun _ => rmark_ok (s.getD k 0)) ?_
      have hk0 : (s.drop k).getD 0 0 = s.getD k 0 := by simp [List.getD_eq_getElem?_getD]
      refine ⟨fun h10 => ?_, fun h10 => ?_⟩
      · have h10 : decide (s.getD k 0 ∈ marksL) = true := h10
        have hk : (s.drop k).getD 0 0 ∈ marksL := by rw [hk0]; exact of_decide_eq_true h10
        have hob2 : decide (IntKind.i64.wrap ((k : Int) + 1) < (s.length : Int)) = true → (0 : Int) ≤ IntKind.i64.wrap ((k : Int) + 1) ∧ IntKind.i64.wrap ((k : Int) + 1) < (s.length : Int) := fun h => by
          have h := of_decide_eq_true h
          rw [e1] at h ⊢
          omega
        refine ⟨fun hg => hob2 (gB_1 hg), ?_⟩
        refine ⟨fun hg => hob2 (gB_2 hg), ?_⟩
        have hp2 := pre_two (s := s) (k := k) hkl e1
        refine ⟨fun h9 => ?_, fun h9 => ?_⟩
        · have h9 := hp2.symm.trans h9
          have hl2 : k + 2 ≤ s.length := by
            simp only [Bool.or_eq_true] at h9
            rcases h9 with h9 | h9
            all_goals
              have := pre_len h9
              rw [List.length_drop] at this
              simp at this
              omega
          have hob : (0 : Int) ≤ (k : Int) ∧ (k : Int) ≤ IntKind.i64.wrap (IntKind.i64.wrap ((k : Int) + 1) + 1) ∧ IntKind.i64.wrap (IntKind.i64.wrap ((k : Int) + 1) + 1) ≤ (s.length : Int) := by rw [e2]; omega
          have hE : SV.i .i64 (IntKind.i64.wrap (IntKind.i64.wrap ((k : Int) + 1) + 1)) = SV.i .i64 ((k + 2 : Nat) : Int) := by rw [e2]
          have hW : ((s.take ((IntKind.i64.wrap (IntKind.i64.wrap ((k : Int) + 1) + 1)) : Int).toNat).drop ((k : Nat) : Int).toNat) = (s.drop k).take 2 := by rw [e2]; exact htd 2
          refine ⟨fun _ => hob, ?_⟩
          refine OpC.yld 0 rfl (yld_app_row tabOkF rfl rfl rfl rfl rfl rfl rfl rfl rfl (SrcA.sl rfl rfl rfl rfl (by decide) rfl) (Joins.arrN (y := ⟨3, ((s.take ((IntKind.i64.wrap (IntKind.i64.wrap ((k : Int) + 1) + 1)) : Int).toNat).drop ((k : Nat) : Int).toNat), 0, k⟩) hNt rfl tkenc_w) (by decide) ?_ ?_) (fun d hd => by cases hd; rfl) ?_
          · exact Nat.le_trans (show N + 1 ≤ 10000 by omega) (by decide)
          · show (N + 1) * 40 ≤ 140737488355328
            omega
          have hst : stepF (s.drop k) k = .tok ⟨3, ((s.take ((IntKind.i64.wrap (IntKind.i64.wrap ((k : Int) + 1) + 1)) : Int).toNat).drop ((k : Nat) : Int).toNat), 0, k⟩ := by
            unfold stepF
            rw [if_neg (by rw [c0, hbl]; decide)]
            rw [if_neg (by rw [hpr]; decide)]
            rw [if_neg (by rw [c0, h6]; decide)]
            rw [if_neg (by rw [c0, h8]; decide)]
            rw [if_pos h9]
            rw [hW]
          have hlen : (⟨3, ((s.take ((IntKind.i64.wrap (IntKind.i64.wrap ((k : Int) + 1) + 1)) : Int).toNat).drop ((k : Nat) : Int).toNat), 0, k⟩ : Tk).s.length = (k + 2) - k := by
            show (List.drop _ (List.take _ _)).length = _
            rw [hW]
            simp
            omega
          rw [hst] at hstep
          have hstep : tokC s (f' + 1) k ts = tokC s f' (k + (⟨3, ((s.take ((IntKind.i64.wrap (IntKind.i64.wrap ((k : Int) + 1) + 1)) : Int).toNat).drop ((k : Nat) : Int).toNat), 0, k⟩ : Tk).s.length) (ts ++ [⟨3, ((s.take ((IntKind.i64.wrap (IntKind.i64.wrap ((k : Int) + 1) + 1)) : Int).toNat).drop ((k : Nat) : Int).toNat), 0, k⟩]) := hstep
          have k0 : k + (⟨3, ((s.take ((IntKind.i64.wrap (IntKind.i64.wrap ((k : Int) + 1) + 1)) : Int).toNat).drop ((k : Nat) : Int).toNat), 0, k⟩ : Tk).s.length = (k + 2) := by omega
          rw [k0] at hstep
          rw [hstep] at ht
          rw [hc] at ht
          have k1 : (k + 2) ≤ s.length := by omega
          have k2 : s.length < (k + 2) + f' := by omega
          have k3 : N + 1 ≤ (k + 2) := by omega
          have k4 : s.length - (k + 2) < s.length - p := by omega
          have k5 : (ts ++ [(⟨3, ((s.take ((IntKind.i64.wrap (IntKind.i64.wrap ((k : Int) + 1) + 1)) : Int).toNat).drop ((k : Nat) : Int).toNat), 0, k⟩ : Tk)]).length = N + 1 := by rw [List.length_append, List.length_singleton]; omega
          refine ⟨((k + 2), N + 1, ts ++ [⟨3, ((s.take ((IntKind.i64.wrap (IntKind.i64.wrap ((k : Int) + 1) + 1)) : Int).toNat).drop ((k : Nat) : Int).toNat), 0, k⟩], ver + 1, f'), ⟨k1, k2, ht.symm, k3, k5⟩, k4, Eq.trans (b := SV.s s :: List.replicate 111 SV.dead) rfl rfl, ⟨⟨?_, rfl, rfl⟩, ⟨rfl, rfl, rfl⟩, trivial⟩, ⟨_, rfl⟩, ⟨bndTk, trivial⟩, rfl⟩
          exact hE
        · have h9 := hp2.symm.trans h9
          have hob : (0 : Int) ≤ (k : Int) ∧ (k : Int) ≤ IntKind.i64.wrap ((k : Int) + 1) ∧ IntKind.i64.wrap ((k : Int) + 1) ≤ (s.length : Int) := by rw [e1]; omega
          have hE : SV.i .i64 (IntKind.i64.wrap ((k : Int) + 1)) = SV.i .i64 ((k + 1 : Nat) : Int) := by rw [e1]
          have hW : ((s.take ((IntKind.i64.wrap ((k : Int) + 1)) : Int).toNat).drop ((k : Nat) : Int).toNat) = (s.drop k).take 1 := by rw [e1]; exact htd 1
          refine ⟨fun _ => hob, ?_⟩
          refine OpC.yld 0 rfl (yld_app_row tabOkF rfl rfl rfl rfl rfl rfl rfl rfl rfl (SrcA.sl rfl rfl rfl rfl (by decide) rfl) (Joins.arrN (y := ⟨3, ((s.take ((IntKind.i64.wrap ((k : Int) + 1)) : Int).toNat).drop ((k : Nat) : Int).toNat), 0, k⟩) hNt rfl tkenc_w) (by decide) ?_ ?_) (fun d hd => by cases hd; rfl) ?_
          · exact Nat.le_trans (show N + 1 ≤ 10000 by omega) (by decide)
          · show (N + 1) * 40 ≤ 140737488355328
            omega
          have hst : stepF (s.drop k) k = .tok ⟨3, ((s.take ((IntKind.i64.wrap ((k : Int) + 1)) : Int).toNat).drop ((k : Nat) : Int).toNat), 0, k⟩ := by
            unfold stepF
            rw [if_neg (by rw [c0, hbl]; decide)]
            rw [if_neg (by rw [hpr]; decide)]
            rw [if_neg (by rw [c0, h6]; decide)]
            rw [if_neg (by rw [c0, h8]; decide)]
            rw [if_neg (by rw [h9]; decide)]
            rw [if_pos hk]
            rw [hW]
          have hlen : (⟨3, ((s.take ((IntKind.i64.wrap ((k : Int) + 1)) : Int).toNat).drop ((k : Nat) : Int).toNat), 0, k⟩ : Tk).s.length = (k + 1) - k := by
            show (List.drop _ (List.take _ _)).length = _
            rw [hW]
            simp
            omega
          rw [hst] at hstep
          have hstep : tokC s (f' + 1) k ts = tokC s f' (k + (⟨3, ((s.take ((IntKind.i64.wrap ((k : Int) + 1)) : Int).toNat).drop ((k : Nat) : Int).toNat), 0, k⟩ : Tk).s.length) (ts ++ [⟨3, ((s.take ((IntKind.i64.wrap ((k : Int) + 1)) : Int).toNat).drop ((k : Nat) : Int).toNat), 0, k⟩]) := hstep
          have k0 : k + (⟨3, ((s.take ((IntKind.i64.wrap ((k : Int) + 1)) : Int).toNat).drop ((k : Nat) : Int).toNat), 0, k⟩ : Tk).s.length = (k + 1) := by omega
          rw [k0] at hstep
          rw [hstep] at ht
          rw [hc] at ht
          have k1 : (k + 1) ≤ s.length := by omega
          have k2 : s.length < (k + 1) + f' := by omega
          have k3 : N + 1 ≤ (k + 1) := by omega
          have k4 : s.length - (k + 1) < s.length - p := by omega
          have k5 : (ts ++ [(⟨3, ((s.take ((IntKind.i64.wrap ((k : Int) + 1)) : Int).toNat).drop ((k : Nat) : Int).toNat), 0, k⟩ : Tk)]).length = N + 1 := by rw [List.length_append, List.length_singleton]; omega
          refine ⟨((k + 1), N + 1, ts ++ [⟨3, ((s.take ((IntKind.i64.wrap ((k : Int) + 1)) : Int).toNat).drop ((k : Nat) : Int).toNat), 0, k⟩], ver + 1, f'), ⟨k1, k2, ht.symm, k3, k5⟩, k4, Eq.trans (b := SV.s s :: List.replicate 111 SV.dead) rfl rfl, ⟨⟨?_, rfl, rfl⟩, ⟨rfl, rfl, rfl⟩, trivial⟩, ⟨_, rfl⟩, ⟨bndTk, trivial⟩, rfl⟩
          exact hE
      · have h10 : decide (s.getD k 0 ∈ marksL) = false := h10
        have hk : ¬ (s.drop k).getD 0 0 ∈ marksL := by rw [hk0]; exact of_decide_eq_false h10
        have h9 : (pre (s.drop k) [47, 92] || pre (s.drop k) [92, 47]) = false := pre_nomark hk
        have hst : stepF (s.drop k) k = .err 20 := by
          unfold stepF
          rw [if_neg (by rw [c0, hbl]; decide)]
          rw [if_neg (by rw [hpr]; decide)]
          rw [if_neg (by rw [c0, h6]; decide)]
          rw [if_neg (by rw [c0, h8]; decide)]
          rw [if_neg (by rw [h9]; decide)]
          rw [if_neg hk]

        rw [hst] at hstep
        have hstep : tokC s (f' + 1) k ts = ([], 20, (k : Int)) := hstep
        rw [hstep] at ht
        rw [hc] at ht
        exact .inr ⟨20, k, ht, by decide, rfl⟩
  exact key.trim callX_m fun r H1 hk => by
    rcases hk with ⟨ts, ver, Y, h1, h2, h3⟩ | ⟨e, p, h1, h2, h3⟩
    · exact ⟨[rowK ts.length ts ver], Y, h3, Nat.zero_le _, ⟨bndTk, trivial⟩, by rw [h2]; rfl, .inl ⟨ts, ver, h1, h2, rfl⟩⟩
    · exact ⟨[], H1, rfl, Nat.zero_le _, trivial, by rw [h3]; rfl, .inr ⟨e, p, h1, h2, h3, rfl⟩⟩
end SX
end Go.Proofs.YthkedcneehdinaaGreatDoor

/- Is a text one name: the reference's answer. -/
set_option linter.unusedVariables false
set_option maxRecDepth 100000
namespace Go.Proofs.YthkedcneehdinaaGreatDoor
namespace SX
open Go Go.Proofs
theorem rtokensI_ok (s : List UInt8) : Ctr Tryz.prog 101 [.s s] [] (TokI s) := by
  refine Cp.row3 (α := Tk) (d := tk0) (enc := tkenc) (n := 4) (g := 3) (ty := 42) callX_m rfl tkw tkok ((rtokens_ok s).mono callX_m ?_)
  rintro r h (⟨ts, ver, h1, rfl, rfl⟩ | ⟨e, p, h1, he, rfl, rfl⟩)
  · exact .inl ⟨ts, ver, _, _, rfl, rfl, fun ad cap => .inl ⟨ts, ad, cap, ver, h1, rfl, rfl⟩⟩
  · exact .inr (.inr ⟨e, p, h1, he, rfl, rfl⟩)
set_option maxHeartbeats 1000000 in
theorem oneName_ok (s : List UInt8) : CtrV Tryz.prog 52 [.s s] (.b (namedF s)) := by
  refine Ctr.enterV tabOkF (fn := Tryz.f52) rfl rfl rfl rfl rfl rfl ?_
  refine OpC.callL rfl rfl rfl rfl [] 1 rfl rfl rfl (rtokensI_ok s) rfl rfl rfl rfl trivial rfl (fun r H' hk => ?_) ?_
  · rcases hk with ⟨ts, ad, cap, B, h1, rfl, rfl⟩ | ⟨e, p, h1, he, rfl, rfl⟩
    · exact ⟨Nat.zero_le _, Nat.le_refl _⟩
    · exact ⟨Nat.zero_le _, Nat.zero_le _⟩
  rintro r H' (⟨ts, ad, cap, B, h1, rfl, rfl⟩ | ⟨e, p, h1, he, rfl, rfl⟩)
  · have hob : ((decide ((0 : Int) = 0) && decide ((ts.length : Int) = 1)) == true) = true → (0 : Int) ≤ 0 ∧ (0 : Int) < (ts.length : Int) := by
      intro hg
      simp at hg
      omega
    refine ⟨hob, ?_⟩
    refine ⟨fun hg => ?_, ?_⟩
    · have hg : ((((decide ((0 : Int) = 0) && decide ((ts.length : Int) = 1)) && decide ((ts.getD 0 tk0).k = 1)) == true)) = true := hg
      simp at hg
      show (0 : Int) ≤ 0 ∧ (0 : Int) < (ts.length : Int)
      omega
    refine b_cg ?_
    show (((decide ((0 : Int) = 0) && decide ((ts.length : Int) = 1)) && decide ((ts.getD 0 tk0).k = 1)) && decide ((ts.getD 0 tk0).s = s)) = namedF s
    unfold namedF
    rw [h1]
    rcases ts with _ | ⟨t, _ | ⟨u, ts⟩⟩
    · simp
    · simp
    · simp
      omega
  · have hb : ((decide (e = 0) && decide ((0 : Int) = 1)) == true) = false := by rw [decide_eq_false he]; rfl
    have hb2 : (((decide (e = 0) && decide ((0 : Int) = 1)) && decide ((0 : Int) = 1)) == true) = false := by rw [decide_eq_false he]; rfl
    refine OpC.skipG rfl hb (.raw (.pointer none)) ?_
    refine OpC.skipG rfl hb (.raw (.pointer none)) ?_
    refine OpC.skipG rfl hb (.i .i64 0) ?_
    refine OpC.skipG rfl hb2 (.raw (.pointer none)) ?_
    refine OpC.skipG rfl hb2 (.raw (.pointer none)) ?_
    refine OpC.skipG rfl hb2 (.s []) ?_
    refine b_cg ?_
    show (((decide (e = 0) && decide ((0 : Int) = 1)) && decide ((0 : Int) = 1)) && decide ([] = s)) = namedF s
    unfold namedF
    rw [h1, decide_eq_false he]
    rfl
end SX
end Go.Proofs.YthkedcneehdinaaGreatDoor

/- Readers of words: rules; the cursor's functions. -/
set_option linter.unusedVariables false
set_option maxRecDepth 100000
namespace Go.Proofs.YthkedcneehdinaaGreatDoor
namespace SX
open Go Go.Proofs
section
variable {P : Program} {T : Tb}
variable {ops : Array Oper} {o : Oper}
end
section
variable (ts : List Tk) (ad : Option Addr) (cap : Nat)
end
variable {ts : List Tk} {ad : Option Addr} {cap : Nat}
end SX
end Go.Proofs.YthkedcneehdinaaGreatDoor

/- Readers of words: Take of one mark. -/
set_option linter.unusedVariables false
set_option maxRecDepth 100000
namespace Go.Proofs.YthkedcneehdinaaGreatDoor
namespace SX
open Go Go.Proofs
variable {ts : List Tk} {ad : Option Addr} {cap : Nat}
end SX
end Go.Proofs.YthkedcneehdinaaGreatDoor

/- Readers of words: the reader's small functions. -/
set_option linter.unusedVariables false
set_option maxRecDepth 100000
namespace Go.Proofs.YthkedcneehdinaaGreatDoor
namespace SX
open Go Go.Proofs
end SX
end Go.Proofs.YthkedcneehdinaaGreatDoor

/- Which register a name is. Cut from XRg. -/
set_option linter.unusedVariables false
set_option maxRecDepth 100000
namespace Go.Proofs.YthkedcneehdinaaGreatDoor
namespace SX
open Go Go.Proofs
set_option maxHeartbeats 1000000 in
theorem index_s (s0 s1 s2 s3 s4 s5 s6 s7 v : List UInt8) : Ctr Tryz.prog 102 [.sl 0 1 0 8 (some 8) 0, .s v] [rowS s0 s1 s2 s3 s4 s5 s6 s7] (fun r h => r = .i .i64 (idxF s0 s1 s2 s3 s4 s5 s6 s7 v) ∧ h = [rowS s0 s1 s2 s3 s4 s5 s6 s7]) := by
  refine Ctr.enterG tabOkF (fn := Tryz.f102) rfl rfl rfl rfl rfl rfl ⟨⟨rfl, rfl, rfl, rfl, rfl, rfl, rfl, rfl, trivial⟩, trivial⟩ ?_
  refine WpC.loop tabOkF (β := Nat) (fun k => k ≤ 8 ∧ (0 < k → v ≠ s0) ∧ (1 < k → v ≠ s1) ∧ (2 < k → v ≠ s2) ∧ (3 < k → v ≠ s3) ∧ (4 < k → v ≠ s4) ∧ (5 < k → v ≠ s5) ∧ (6 < k → v ≠ s6) ∧ (7 < k → v ≠ s7)) (fun k => [(8, .i .i64 k)]) (fun _ => [rowS s0 s1 s2 s3 s4 s5 s6 s7]) (fun k => 8 - k) 0 524080 ⟨by decide, fun h => absurd h (by decide), fun h => absurd h (by decide), fun h => absurd h (by decide), fun h => absurd h (by decide), fun h => absurd h (by decide), fun h => absurd h (by decide), fun h => absurd h (by decide), fun h => absurd h (by decide)⟩ ?_ ?_
  · exact ⟨rfl, ⟨⟨rfl, rfl, rfl⟩, trivial⟩, ⟨[], rfl⟩, ⟨⟨rfl, rfl, rfl, rfl, rfl, rfl, rfl, rfl, trivial⟩, trivial⟩, rfl⟩
  · rintro k ⟨hk, q0, q1, q2, q3, q4, q5, q6, q7⟩
    rcases (by omega : k = 0 ∨ k = 1 ∨ k = 2 ∨ k = 3 ∨ k = 4 ∨ k = 5 ∨ k = 6 ∨ k = 7 ∨ k = 8) with rfl | rfl | rfl | rfl | rfl | rfl | rfl | rfl | rfl
    · refine ⟨fun _ => ?_, fun h => absurd h (by decide)⟩
      refine ⟨fun _ => by decide, ?_⟩
      refine ⟨fun h => ?_, fun h => ?_⟩
      · have e : v = s0 := of_decide_eq_true h
        refine ⟨i_cg ?_, _, rfl⟩
        unfold idxF
        rw [if_pos e]
        rfl
      · have e0 : ¬ v = s0 := of_decide_eq_false h
        exact ⟨1, ⟨by decide, fun _ => e0, fun h => absurd h (by decide), fun h => absurd h (by decide), fun h => absurd h (by decide), fun h => absurd h (by decide), fun h => absurd h (by decide), fun h => absurd h (by decide), fun h => absurd h (by decide)⟩, by decide, rfl, ⟨⟨rfl, rfl, rfl⟩, trivial⟩, ⟨[], rfl⟩, ⟨⟨rfl, rfl, rfl, rfl, rfl, rfl, rfl, rfl, trivial⟩, trivial⟩, rfl⟩
    · have e0 := q0 (by decide)
      refine ⟨fun _ => ?_, fun h => absurd h (by decide)⟩
      refine ⟨fun _ => by decide, ?_⟩
      refine ⟨fun h => ?_, fun h => ?_⟩
      · have e : v = s1 := of_decide_eq_true h
        refine ⟨i_cg ?_, _, rfl⟩
        unfold idxF
        rw [if_neg e0]
        rw [if_pos e]
        rfl
      · have e1 : ¬ v = s1 := of_decide_eq_false h
        exact ⟨2, ⟨by decide, fun _ => e0, fun _ => e1, fun h => absurd h (by decide), fun h => absurd h (by decide), fun h => absurd h (by decide), fun h => absurd h (by decide), fun h => absurd h (by decide), fun h => absurd h (by decide)⟩, by decide, rfl, ⟨⟨rfl, rfl, rfl⟩, trivial⟩, ⟨[], rfl⟩, ⟨⟨rfl, rfl, rfl, rfl, rfl, rfl, rfl, rfl, trivial⟩, trivial⟩, rfl⟩
    · have e0 := q0 (by decide)
      have e1 := q1 (by decide)
      refine ⟨fun _ => ?_, fun h => absurd h (by decide)⟩
      refine ⟨fun _ => by decide, ?_⟩
      refine ⟨fun h => ?_, fun h => ?_⟩
      · have e : v = s2 := of_decide_eq_true h
        refine ⟨i_cg ?_, _, rfl⟩
        unfold idxF
        rw [if_neg e0]
        rw [if_neg e1]
        rw [if_pos e]
        rfl
      · have e2 : ¬ v = s2 := of_decide_eq_false h
        exact ⟨3, ⟨by decide, fun _ => e0, fun _ => e1, fun _ => e2, fun h => absurd h (by decide), fun h => absurd h (by decide), fun h => absurd h (by decide), fun h => absurd h (by decide), fun h => absurd h (by decide)⟩, by decide, rfl, ⟨⟨rfl, rfl, rfl⟩, trivial⟩, ⟨[], rfl⟩, ⟨⟨rfl, rfl, rfl, rfl, rfl, rfl, rfl, rfl, trivial⟩, trivial⟩, rfl⟩
    · have e0 := q0 (by decide)
      have e1 := q1 (by decide)
      have e2 := q2 (by decide)
      refine ⟨fun _ => ?_, fun h => absurd h (by decide)⟩
      refine ⟨fun _ => by decide, ?_⟩
      refine ⟨fun h => ?_, fun h => ?_⟩
      · have e : v = s3 := of_decide_eq_true h
        refine ⟨i_cg ?_, _, rfl⟩
        unfold idxF
        rw [if_neg e0]
        rw [if_neg e1]
        rw [if_neg e2]
        rw [if_pos e]
        rfl
      · have e3 : ¬ v = s3 := of_decide_eq_false h
        exact ⟨4, ⟨by decide, fun _ => e0, fun _ => e1, fun _ => e2, fun _ => e3, fun h => absurd h (by decide), fun h => absurd h (by decide), fun h => absurd h (by decide), fun h => absurd h (by decide)⟩, by decide, rfl, ⟨⟨rfl, rfl, rfl⟩, trivial⟩, ⟨[], rfl⟩, ⟨⟨rfl, rfl, rfl, rfl, rfl, rfl, rfl, rfl, trivial⟩, trivial⟩, rfl⟩
    · have e0 := q0 (by decide)
      have e1 := q1 (by decide)
      have e2 := q2 (by decide)
      have e3 := q3 (by decide)
      refine ⟨fun _ => ?_, fun h => absurd h (by decide)⟩
      refine ⟨fun _ => by decide, ?_⟩
      refine ⟨fun h => ?_, fun h => ?_⟩
      · have e : v = s4 := of_decide_eq_true h
        refine ⟨i_cg ?_, _, rfl⟩
        unfold idxF
        rw [if_neg e0]
        rw [if_neg e1]
        rw [if_neg e2]
        rw [if_neg e3]
        rw [if_pos e]
        rfl
      · have e4 : ¬ v = s4 := of_decide_eq_false h
        exact ⟨5, ⟨by decide, fun _ => e0, fun _ => e1, fun _ => e2, fun _ => e3, fun _ => e4, fun h => absurd h (by decide), fun h => absurd h (by decide), fun h => absurd h (by decide)⟩, by decide, rfl, ⟨⟨rfl, rfl, rfl⟩, trivial⟩, ⟨[], rfl⟩, ⟨⟨rfl, rfl, rfl, rfl, rfl, rfl, rfl, rfl, trivial⟩, trivial⟩, rfl⟩
    · have e0 := q0 (by decide)
      have e1 := q1 (by decide)
      have e2 := q2 (by decide)
      have e3 := q3 (by decide)
      have e4 := q4 (by decide)
      refine ⟨fun _ => ?_, fun h => absurd h (by decide)⟩
      refine ⟨fun _ => by decide, ?_⟩
      refine ⟨fun h => ?_, fun h => ?_⟩
      · have e : v = s5 := of_decide_eq_true h
        refine ⟨i_cg ?_, _, rfl⟩
        unfold idxF
        rw [if_neg e0]
        rw [if_neg e1]
        rw [if_neg e2]
        rw [if_neg e3]
        rw [if_neg e4]
        rw [if_pos e]
        rfl
      · have e5 : ¬ v = s5 := of_decide_eq_false h
        exact ⟨6, ⟨by decide, fun _ => e0, fun _ => e1, fun _ => e2, fun _ => e3, fun _ => e4, fun _ => e5, fun h => absurd h (by decide), fun h => absurd h (by decide)⟩, by decide, rfl, ⟨⟨rfl, rfl, rfl⟩, trivial⟩, ⟨[], rfl⟩, ⟨⟨rfl, rfl, rfl, rfl, rfl, rfl, rfl, rfl, trivial⟩, trivial⟩, rfl⟩
    · have e0 := q0 (by decide)
      have e1 := q1 (by decide)
      have e2 := q2 (by decide)
      have e3 := q3 (by decide)
      have e4 := q4 (by decide)
      have e5 := q5 (by decide)
      refine ⟨fun _ => ?_, fun h => absurd h (by decide)⟩
      refine ⟨fun _ => by decide, ?_⟩
      refine ⟨fun h => ?_, fun h => ?_⟩
      · have e : v = s6 := of_decide_eq_true h
        refine ⟨i_cg ?_, _, rfl⟩
        unfold idxF
        rw [if_neg e0]
        rw [if_neg e1]
        rw [if_neg e2]
        rw [if_neg e3]
        rw [if_neg e4]
        rw [if_neg e5]
        rw [if_pos e]
        rfl
      · have e6 : ¬ v = s6 := of_decide_eq_false h
        exact ⟨7, ⟨by decide, fun _ => e0, fun _ => e1, fun _ => e2, fun _ => e3, fun _ => e4, fun _ => e5, fun _ => e6, fun h => absurd h (by decide)⟩, by decide, rfl, ⟨⟨rfl, rfl, rfl⟩, trivial⟩, ⟨[], rfl⟩, ⟨⟨rfl, rfl, rfl, rfl, rfl, rfl, rfl, rfl, trivial⟩, trivial⟩, rfl⟩
    · have e0 := q0 (by decide)
      have e1 := q1 (by decide)
      have e2 := q2 (by decide)
      have e3 := q3 (by decide)
      have e4 := q4 (by decide)
      have e5 := q5 (by decide)
      have e6 := q6 (by decide)
      refine ⟨fun _ => ?_, fun h => absurd h (by decide)⟩
      refine ⟨fun _ => by decide, ?_⟩
      refine ⟨fun h => ?_, fun h => ?_⟩
      · have e : v = s7 := of_decide_eq_true h
        refine ⟨i_cg ?_, _, rfl⟩
        unfold idxF
        rw [if_neg e0]
        rw [if_neg e1]
        rw [if_neg e2]
        rw [if_neg e3]
        rw [if_neg e4]
        rw [if_neg e5]
        rw [if_neg e6]
        rw [if_pos e]
        rfl
      · have e7 : ¬ v = s7 := of_decide_eq_false h
        exact ⟨8, ⟨by decide, fun _ => e0, fun _ => e1, fun _ => e2, fun _ => e3, fun _ => e4, fun _ => e5, fun _ => e6, fun _ => e7⟩, by decide, rfl, ⟨⟨rfl, rfl, rfl⟩, trivial⟩, ⟨[], rfl⟩, ⟨⟨rfl, rfl, rfl, rfl, rfl, rfl, rfl, rfl, trivial⟩, trivial⟩, rfl⟩
    · have e0 := q0 (by decide)
      have e1 := q1 (by decide)
      have e2 := q2 (by decide)
      have e3 := q3 (by decide)
      have e4 := q4 (by decide)
      have e5 := q5 (by decide)
      have e6 := q6 (by decide)
      have e7 := q7 (by decide)
      refine ⟨fun h => absurd h (by decide), fun _ => ⟨i_cg ?_, _, rfl⟩⟩
      unfold idxF
      rw [if_neg e0, if_neg e1, if_neg e2, if_neg e3, if_neg e4, if_neg e5, if_neg e6, if_neg e7]
theorem lreg_ok (s0 s1 s2 s3 s4 s5 s6 s7 h v : List UInt8) (rd pr : Nat) : Ctr Tryz.prog 54 [.ptr 1 1 0 [], .s v] [rowS s0 s1 s2 s3 s4 s5 s6 s7, langB h rd pr] (fun r h' => r = .i .i64 (idxF s0 s1 s2 s3 s4 s5 s6 s7 v) ∧ h' = [rowS s0 s1 s2 s3 s4 s5 s6 s7, langB h rd pr]) := by
  refine Ctr.enterG tabOkF (fn := Tryz.f54) rfl rfl rfl rfl rfl rfl bndLang ?_
  refine OpC.callG rfl rfl rfl rfl rfl rfl (fun _ => Ctr.spread (index_s s0 s1 s2 s3 s4 s5 s6 s7 v) (fun ρ => rfl) _ [0] rfl rfl ⟨rfl, trivial⟩ rfl) ?_
  exact ⟨rfl, _, rfl⟩
end SX
end Go.Proofs.YthkedcneehdinaaGreatDoor

/- Readers of words: names of some, numbers, places of memory. -/
set_option linter.unusedVariables false
set_option maxRecDepth 100000
namespace Go.Proofs.YthkedcneehdinaaGreatDoor
namespace SX
open Go Go.Proofs
end SX
end Go.Proofs.YthkedcneehdinaaGreatDoor

/- Readers of words: a register or a number; a place of memory. Written by pwe.py. -/
set_option linter.unusedVariables false
set_option maxRecDepth 100000
namespace Go.Proofs.YthkedcneehdinaaGreatDoor
namespace SX
open Go Go.Proofs
end SX
end Go.Proofs.YthkedcneehdinaaGreatDoor

/- Readers of words: a new reader; names of functions, sizes. -/
set_option linter.unusedVariables false
set_option maxRecDepth 100000
namespace Go.Proofs.YthkedcneehdinaaGreatDoor
namespace SX
open Go Go.Proofs
end SX
end Go.Proofs.YthkedcneehdinaaGreatDoor

/- x86: functions' names. Cut from XPr. -/
set_option linter.unusedVariables false
set_option maxRecDepth 100000
namespace Go.Proofs.YthkedcneehdinaaGreatDoor
namespace SX
open Go Go.Proofs
end SX
end Go.Proofs.YthkedcneehdinaaGreatDoor

/- x86: an instruction read. Written by pwg.py. -/
set_option linter.unusedVariables false
set_option maxRecDepth 100000
namespace Go.Proofs.YthkedcneehdinaaGreatDoor
namespace SX
open Go Go.Proofs
end SX
end Go.Proofs.YthkedcneehdinaaGreatDoor

/- RISC-V: an instruction read. Written by pwi.py. -/
set_option linter.unusedVariables false
set_option maxRecDepth 100000
namespace Go.Proofs.YthkedcneehdinaaGreatDoor
namespace SX
open Go Go.Proofs
end SX
end Go.Proofs.YthkedcneehdinaaGreatDoor

/- Arm: names of memory operations, barriers. Written by pwk.py. -/
set_option linter.unusedVariables false
set_option maxRecDepth 100000
namespace Go.Proofs.YthkedcneehdinaaGreatDoor
namespace SX
open Go Go.Proofs
end SX
end Go.Proofs.YthkedcneehdinaaGreatDoor

/- arm: which of three barriers two sides are. -/
set_option linter.unusedVariables false
set_option maxRecDepth 100000
namespace Go.Proofs.YthkedcneehdinaaGreatDoor
namespace SX
open Go Go.Proofs
def barB : SB := .mem 190 [.i .i64 3, .i .i64 3, .i .i64 1, .i .i64 3, .i .i64 2, .i .i64 2] 1 0
def idxB (p s : Int) : Int := if p = 3 ∧ s = 3 then 0 else if p = 1 ∧ s = 3 then 1 else if p = 2 ∧ s = 2 then 2 else -1
theorem and_dec {p q : Prop} [Decidable p] [Decidable q] (h : (decide p && decide q) = true) : p ∧ q := by simpa using h
theorem and_decN {p q : Prop} [Decidable p] [Decidable q] (h : (decide p && decide q) = false) : ¬ (p ∧ q) := by
  intro hh; rw [decide_eq_true hh.1, decide_eq_true hh.2] at h; cases h
set_option maxHeartbeats 1000000 in
theorem idxB_ok (p s : Int) : Ctr Tryz.prog 177 [.sl 0 1 0 3 (some 3) 0, .agg [.i .i64 p, .i .i64 s]] [barB] (fun r h => r = .i .i64 (idxB p s) ∧ h = [barB]) := by
  refine Ctr.enterG tabOkF (fn := Tryz.f177) rfl rfl rfl rfl rfl rfl ⟨⟨rfl, rfl, rfl, rfl, rfl, rfl, trivial⟩, trivial⟩ ?_
  have hB : BndH 2 [barB, .mem 190 [.i .i64 p, .i .i64 s] 1 0] := ⟨⟨rfl, rfl, rfl, rfl, rfl, rfl, trivial⟩, ⟨rfl, rfl, trivial⟩, trivial⟩
  refine WpC.loop tabOkF (β := Nat) (fun k => k ≤ 3 ∧ (0 < k → ¬ (p = 3 ∧ s = 3)) ∧ (1 < k → ¬ (p = 1 ∧ s = 3)) ∧ (2 < k → ¬ (p = 2 ∧ s = 2))) (fun k => [(8, .i .i64 k)]) (fun _ => [barB, .mem 190 [.i .i64 p, .i .i64 s] 1 0]) (fun k => 3 - k) 0 524080 ⟨by decide, fun h => absurd h (by decide), fun h => absurd h (by decide), fun h => absurd h (by decide)⟩ ?_ ?_
  · exact ⟨rfl, ⟨⟨rfl, rfl, rfl⟩, trivial⟩, ⟨[], rfl⟩, hB, rfl⟩
  · rintro k ⟨hk, q0, q1, q2⟩
    rcases (by omega : k = 0 ∨ k = 1 ∨ k = 2 ∨ k = 3) with rfl | rfl | rfl | rfl
    · refine ⟨fun _ => ?_, fun h => absurd h (by decide)⟩
      refine WpC.dr tabOkF mixed 0 ?_
      refine ⟨fun _ => by decide, ?_⟩
      refine ⟨by kernel_rfl, ?_⟩
      refine ⟨fun h => ?_, fun h => ?_⟩
      · have e := and_dec (show (decide (p = 3) && decide (s = 3)) = true from h)
        refine ⟨i_cg ?_, _, rfl⟩
        unfold idxB
        rw [if_pos e]
        rfl
      · have e0 := and_decN (show (decide (p = 3) && decide (s = 3)) = false from h)
        exact ⟨1, ⟨by decide, fun _ => e0, fun h => absurd h (by decide), fun h => absurd h (by decide)⟩, by decide, rfl, ⟨⟨rfl, rfl, rfl⟩, trivial⟩, ⟨[], rfl⟩, hB, rfl⟩
    · have e0 := q0 (by decide)
      refine ⟨fun _ => ?_, fun h => absurd h (by decide)⟩
      refine WpC.dr tabOkF mixed 0 ?_
      refine ⟨fun _ => by decide, ?_⟩
      refine ⟨by kernel_rfl, ?_⟩
      refine ⟨fun h => ?_, fun h => ?_⟩
      · have e := and_dec (show (decide (p = 1) && decide (s = 3)) = true from h)
        refine ⟨i_cg ?_, _, rfl⟩
        unfold idxB
        rw [if_neg e0]
        rw [if_pos e]
        rfl
      · have e1 := and_decN (show (decide (p = 1) && decide (s = 3)) = false from h)
        exact ⟨2, ⟨by decide, fun _ => e0, fun _ => e1, fun h => absurd h (by decide)⟩, by decide, rfl, ⟨⟨rfl, rfl, rfl⟩, trivial⟩, ⟨[], rfl⟩, hB, rfl⟩
    · have e0 := q0 (by decide)
      have e1 := q1 (by decide)
      refine ⟨fun _ => ?_, fun h => absurd h (by decide)⟩
      refine WpC.dr tabOkF mixed 0 ?_
      refine ⟨fun _ => by decide, ?_⟩
      refine ⟨by kernel_rfl, ?_⟩
      refine ⟨fun h => ?_, fun h => ?_⟩
      · have e := and_dec (show (decide (p = 2) && decide (s = 2)) = true from h)
        refine ⟨i_cg ?_, _, rfl⟩
        unfold idxB
        rw [if_neg e0]
        rw [if_neg e1]
        rw [if_pos e]
        rfl
      · have e2 := and_decN (show (decide (p = 2) && decide (s = 2)) = false from h)
        exact ⟨3, ⟨by decide, fun _ => e0, fun _ => e1, fun _ => e2⟩, by decide, rfl, ⟨⟨rfl, rfl, rfl⟩, trivial⟩, ⟨[], rfl⟩, hB, rfl⟩
    · have e0 := q0 (by decide)
      have e1 := q1 (by decide)
      have e2 := q2 (by decide)
      refine ⟨fun h => absurd h (by decide), fun _ => ⟨i_cg ?_, _, rfl⟩⟩
      unfold idxB
      rw [if_neg e0, if_neg e1, if_neg e2]
end SX
end Go.Proofs.YthkedcneehdinaaGreatDoor

/- arm: texts of instructions, the program's. Printed by xpv.py. -/
set_option linter.unusedVariables false
set_option maxRecDepth 100000
namespace Go.Proofs.YthkedcneehdinaaGreatDoor
namespace SX
open Go Go.Proofs
def AH : List SB := [rowS [88, 48] [88, 49] [88, 50] [88, 51] [88, 52] [88, 53] [88, 54] [88, 55], langB [35] 103 104]
def AOne (i : In) (lb t : List UInt8) : Prop :=
  Ctr Tryz.prog 104 [.ptr 1 1 0 [], .agg (ienc i), .s lb] AH (fun r h' => r = .tup [.s t, .b (!decide (t = []))] ∧ h' = AH)
def AFnB : SB := .mem 9 [.s ([]), .s ([65, 68, 68]), .s ([83, 85, 66]), .s ([69, 79, 82]), .s ([65, 78, 68]), .s ([79, 82, 82])] 1 0
theorem Afns_ok : Ctr Tryz.prog 173 [] [] (fun r h => r = .sl 0 1 0 6 (some 6) 0 ∧ h = [AFnB]) :=
  memo_of (tr := treeF) (ft := ftree) (ms := []) (n := 40) (m := Memo.mk 173 [] [] (.sl 0 1 0 6 (some 6) 0) [AFnB]) tabOkF ftOk mixed (by intro m hm; cases hm) (by decide +kernel)
set_option maxHeartbeats 4000000 in
theorem arm_one (i : In) (lb : List UInt8) (hf : formP i = true) (hi : in64 i.imm) (hl : lb.length ≤ 90000) : AOne i lb (paT i lb) := by
  obtain ⟨op, dst, a, b, imm, loc, off, ix, sz, fn, acq, wk, rel, pr, su, to, ze⟩ := i
  have hi : in64 imm := hi
  have hsl : (endF sz [66] [72] [87] []).length ≤ 1 := sz_len 3 sz
  refine Ctr.enterG tabOkF (fn := Tryz.f104) rfl rfl rfl rfl rfl rfl bndLang ?_
  refine OpC.callG rfl rfl rfl rfl rfl rfl (fun _ => Ctr.spread (end_ok sz [66] [72] [87] []) (fun ρ => rfl) _ [3] rfl rfl ⟨rfl, trivial⟩ rfl) ?_
  refine OpC.callL rfl rfl rfl rfl [] 2 rfl rfl rfl (ArmBar_ok : Ctr Tryz.prog 174 [] [] _) rfl rfl rfl rfl trivial rfl (fun r H' hk => ?_) ?_
  · obtain ⟨rfl, rfl⟩ := hk; exact ⟨Nat.zero_le _, Nat.le_refl _⟩
  rintro r H' ⟨rfl, rfl⟩
  refine ⟨fun h1 => ?_, fun n1 => ?_⟩
  · have h1 : decide (op = 1) = true := h1
    have e : op = 1 := of_decide_eq_true h1
    refine WpC.dr tabOkF mixed 1 ?_
    refine OpD.callG [0, 1] rfl rfl rfl rfl rfl rfl (r := .s (nmF (regsL 3) dst)) (fun _ H1 hH => Ctr.spread (lname_ok [88, 48] [88, 49] [88, 50] [88, 51] [88, 52] [88, 53] [88, 54] [88, 55] [35] 103 104 dst) (fun ρ => rfl) H1 [0, 1] rfl rfl ⟨hH 0 (by simp), hH 1 (by simp), trivial⟩ rfl) ?_
    refine OpD.callG [0, 1] rfl rfl rfl rfl rfl rfl (r := .s (orF (regsL 3) [35] (-1) imm)) (fun _ H1 hH => Ctr.spread (lor_ok [88, 48] [88, 49] [88, 50] [88, 51] [88, 52] [88, 53] [88, 54] [88, 55] [35] 103 104 (-1) imm hi (by decide)) (fun ρ => rfl) H1 [0, 1] rfl rfl ⟨hH 0 (by simp), hH 1 (by simp), trivial⟩ rfl) ?_
    refine OpD.callG [6] rfl rfl rfl rfl rfl rfl (r := .s (lineF [77, 79, 86] [nmF (regsL 3) dst, orF (regsL 3) [35] (-1) imm])) (fun _ H1 hH => Ctr.spread (line_ok [77, 79, 86] [nmF (regsL 3) dst, orF (regsL 3) [35] (-1) imm] 2 rfl (by decide) (by decide) (by rw [jn2]; have := nm_len3 3 dst; have := or_len 3 (-1) imm [35] (by decide) hi; simp only [List.length_append, List.length_cons, List.length_nil]; omega) (by decide)) (fun ρ => rfl) H1 [6] rfl rfl ⟨hH 6 (by simp), trivial⟩ rfl) ?_
    refine ⟨by kernel_rfl, ?_⟩
    exact ⟨tup_line (paT_1 e), _, rfl⟩
  have n1 : decide (op = 1) = false := n1
  refine ⟨fun h2 => ?_, fun n2 => ?_⟩
  · have h2 : decide (op = 2) = true := h2
    have e : op = 2 := of_decide_eq_true h2
    refine WpC.dr tabOkF mixed 1 ?_
    refine OpD.callG [0, 1] rfl rfl rfl rfl rfl rfl (r := .s (nmF (regsL 3) dst)) (fun _ H1 hH => Ctr.spread (lname_ok [88, 48] [88, 49] [88, 50] [88, 51] [88, 52] [88, 53] [88, 54] [88, 55] [35] 103 104 dst) (fun ρ => rfl) H1 [0, 1] rfl rfl ⟨hH 0 (by simp), hH 1 (by simp), trivial⟩ rfl) ?_
    refine OpD.callG [0, 1] rfl rfl rfl rfl rfl rfl (r := .s (nmF (regsL 3) a)) (fun _ H1 hH => Ctr.spread (lname_ok [88, 48] [88, 49] [88, 50] [88, 51] [88, 52] [88, 53] [88, 54] [88, 55] [35] 103 104 a) (fun ρ => rfl) H1 [0, 1] rfl rfl ⟨hH 0 (by simp), hH 1 (by simp), trivial⟩ rfl) ?_
    refine OpD.callG [6] rfl rfl rfl rfl rfl rfl (r := .s (lineF [77, 79, 86] [nmF (regsL 3) dst, nmF (regsL 3) a])) (fun _ H1 hH => Ctr.spread (line_ok [77, 79, 86] [nmF (regsL 3) dst, nmF (regsL 3) a] 2 rfl (by decide) (by decide) (by rw [jn2]; have := nm_len3 3 dst; have := nm_len3 3 a; simp only [List.length_append, List.length_cons, List.length_nil]; omega) (by decide)) (fun ρ => rfl) H1 [6] rfl rfl ⟨hH 6 (by simp), trivial⟩ rfl) ?_
    refine ⟨by kernel_rfl, ?_⟩
    exact ⟨tup_line (paT_2 e), _, rfl⟩
  have n2 : decide (op = 2) = false := n2
  refine ⟨fun h3 => ?_, fun n3 => ?_⟩
  · have h3 : decide (op = 3) = true := h3
    have e : op = 3 := of_decide_eq_true h3
    have hfn := (fm3 hf e).2.2.1
    have hfn : fn = 1 ∨ fn = 2 ∨ fn = 3 ∨ fn = 4 ∨ fn = 5 := hfn
    rcases hfn with rfl | rfl | rfl | rfl | rfl
    · refine WpC.dr tabOkF mixed 2 ?_
      refine OpD.callL rfl rfl rfl rfl [] 1 rfl rfl Afns_ok rfl rfl rfl rfl trivial rfl rfl ?_
      refine ⟨fun _ => by show (0 : Int) ≤ 1 ∧ (1 : Int) < ((6 : Nat) : Int); decide, ?_⟩
      refine OpD.callG [0, 1] rfl rfl rfl rfl rfl rfl (r := .s (nmF (regsL 3) dst)) (fun _ H1 hH => Ctr.spread (lname_ok [88, 48] [88, 49] [88, 50] [88, 51] [88, 52] [88, 53] [88, 54] [88, 55] [35] 103 104 dst) (fun ρ => rfl) H1 [0, 1] rfl rfl ⟨hH 0 (by simp), hH 1 (by simp), trivial⟩ rfl) ?_
      refine OpD.callG [0, 1] rfl rfl rfl rfl rfl rfl (r := .s (nmF (regsL 3) a)) (fun _ H1 hH => Ctr.spread (lname_ok [88, 48] [88, 49] [88, 50] [88, 51] [88, 52] [88, 53] [88, 54] [88, 55] [35] 103 104 a) (fun ρ => rfl) H1 [0, 1] rfl rfl ⟨hH 0 (by simp), hH 1 (by simp), trivial⟩ rfl) ?_
      refine OpD.callG [0, 1] rfl rfl rfl rfl rfl rfl (r := .s (orF (regsL 3) [35] b imm)) (fun _ H1 hH => Ctr.spread (lor_ok [88, 48] [88, 49] [88, 50] [88, 51] [88, 52] [88, 53] [88, 54] [88, 55] [35] 103 104 b imm hi (by decide)) (fun ρ => rfl) H1 [0, 1] rfl rfl ⟨hH 0 (by simp), hH 1 (by simp), trivial⟩ rfl) ?_
      refine OpD.callG [7] rfl rfl rfl rfl rfl rfl (r := .s (lineF [65, 68, 68] [nmF (regsL 3) dst, nmF (regsL 3) a, orF (regsL 3) [35] b imm])) (fun _ H1 hH => Ctr.spread (line_ok [65, 68, 68] [nmF (regsL 3) dst, nmF (regsL 3) a, orF (regsL 3) [35] b imm] 3 rfl (by decide) (by decide) (by rw [jn3]; have := nm_len3 3 dst; have := nm_len3 3 a; have := or_len 3 b imm [35] (by decide) hi; simp only [List.length_append, List.length_cons, List.length_nil]; omega) (by decide)) (fun ρ => rfl) H1 [7] rfl rfl ⟨hH 7 (by simp), trivial⟩ rfl) ?_
      refine ⟨by kernel_rfl, ?_⟩
      exact ⟨tup_line (paT_3x e), _, rfl⟩
    · refine WpC.dr tabOkF mixed 2 ?_
      refine OpD.callL rfl rfl rfl rfl [] 1 rfl rfl Afns_ok rfl rfl rfl rfl trivial rfl rfl ?_
      refine ⟨fun _ => by show (0 : Int) ≤ 2 ∧ (2 : Int) < ((6 : Nat) : Int); decide, ?_⟩
      refine OpD.callG [0, 1] rfl rfl rfl rfl rfl rfl (r := .s (nmF (regsL 3) dst)) (fun _ H1 hH => Ctr.spread (lname_ok [88, 48] [88, 49] [88, 50] [88, 51] [88, 52] [88, 53] [88, 54] [88, 55] [35] 103 104 dst) (fun ρ => rfl) H1 [0, 1] rfl rfl ⟨hH 0 (by simp), hH 1 (by simp), trivial⟩ rfl) ?_
      refine OpD.callG [0, 1] rfl rfl rfl rfl rfl rfl (r := .s (nmF (regsL 3) a)) (fun _ H1 hH => Ctr.spread (lname_ok [88, 48] [88, 49] [88, 50] [88, 51] [88, 52] [88, 53] [88, 54] [88, 55] [35] 103 104 a) (fun ρ => rfl) H1 [0, 1] rfl rfl ⟨hH 0 (by simp), hH 1 (by simp), trivial⟩ rfl) ?_
      refine OpD.callG [0, 1] rfl rfl rfl rfl rfl rfl (r := .s (orF (regsL 3) [35] b imm)) (fun _ H1 hH => Ctr.spread (lor_ok [88, 48] [88, 49] [88, 50] [88, 51] [88, 52] [88, 53] [88, 54] [88, 55] [35] 103 104 b imm hi (by decide)) (fun ρ => rfl) H1 [0, 1] rfl rfl ⟨hH 0 (by simp), hH 1 (by simp), trivial⟩ rfl) ?_
      refine OpD.callG [7] rfl rfl rfl rfl rfl rfl (r := .s (lineF [83, 85, 66] [nmF (regsL 3) dst, nmF (regsL 3) a, orF (regsL 3) [35] b imm])) (fun _ H1 hH => Ctr.spread (line_ok [83, 85, 66] [nmF (regsL 3) dst, nmF (regsL 3) a, orF (regsL 3) [35] b imm] 3 rfl (by decide) (by decide) (by rw [jn3]; have := nm_len3 3 dst; have := nm_len3 3 a; have := or_len 3 b imm [35] (by decide) hi; simp only [List.length_append, List.length_cons, List.length_nil]; omega) (by decide)) (fun ρ => rfl) H1 [7] rfl rfl ⟨hH 7 (by simp), trivial⟩ rfl) ?_
      refine ⟨by kernel_rfl, ?_⟩
      exact ⟨tup_line (paT_3x e), _, rfl⟩
    · refine WpC.dr tabOkF mixed 2 ?_
      refine OpD.callL rfl rfl rfl rfl [] 1 rfl rfl Afns_ok rfl rfl rfl rfl trivial rfl rfl ?_
      refine ⟨fun _ => by show (0 : Int) ≤ 3 ∧ (3 : Int) < ((6 : Nat) : Int); decide, ?_⟩
      refine OpD.callG [0, 1] rfl rfl rfl rfl rfl rfl (r := .s (nmF (regsL 3) dst)) (fun _ H1 hH => Ctr.spread (lname_ok [88, 48] [88, 49] [88, 50] [88, 51] [88, 52] [88, 53] [88, 54] [88, 55] [35] 103 104 dst) (fun ρ => rfl) H1 [0, 1] rfl rfl ⟨hH 0 (by simp), hH 1 (by simp), trivial⟩ rfl) ?_
      refine OpD.callG [0, 1] rfl rfl rfl rfl rfl rfl (r := .s (nmF (regsL 3) a)) (fun _ H1 hH => Ctr.spread (lname_ok [88, 48] [88, 49] [88, 50] [88, 51] [88, 52] [88, 53] [88, 54] [88, 55] [35] 103 104 a) (fun ρ => rfl) H1 [0, 1] rfl rfl ⟨hH 0 (by simp), hH 1 (by simp), trivial⟩ rfl) ?_
      refine OpD.callG [0, 1] rfl rfl rfl rfl rfl rfl (r := .s (orF (regsL 3) [35] b imm)) (fun _ H1 hH => Ctr.spread (lor_ok [88, 48] [88, 49] [88, 50] [88, 51] [88, 52] [88, 53] [88, 54] [88, 55] [35] 103 104 b imm hi (by decide)) (fun ρ => rfl) H1 [0, 1] rfl rfl ⟨hH 0 (by simp), hH 1 (by simp), trivial⟩ rfl) ?_
      refine OpD.callG [7] rfl rfl rfl rfl rfl rfl (r := .s (lineF [69, 79, 82] [nmF (regsL 3) dst, nmF (regsL 3) a, orF (regsL 3) [35] b imm])) (fun _ H1 hH => Ctr.spread (line_ok [69, 79, 82] [nmF (regsL 3) dst, nmF (regsL 3) a, orF (regsL 3) [35] b imm] 3 rfl (by decide) (by decide) (by rw [jn3]; have := nm_len3 3 dst; have := nm_len3 3 a; have := or_len 3 b imm [35] (by decide) hi; simp only [List.length_append, List.length_cons, List.length_nil]; omega) (by decide)) (fun ρ => rfl) H1 [7] rfl rfl ⟨hH 7 (by simp), trivial⟩ rfl) ?_
      refine ⟨by kernel_rfl, ?_⟩
      exact ⟨tup_line (paT_3x e), _, rfl⟩
    · refine WpC.dr tabOkF mixed 2 ?_
      refine OpD.callL rfl rfl rfl rfl [] 1 rfl rfl Afns_ok rfl rfl rfl rfl trivial rfl rfl ?_
      refine ⟨fun _ => by show (0 : Int) ≤ 4 ∧ (4 : Int) < ((6 : Nat) : Int); decide, ?_⟩
      refine OpD.callG [0, 1] rfl rfl rfl rfl rfl rfl (r := .s (nmF (regsL 3) dst)) (fun _ H1 hH => Ctr.spread (lname_ok [88, 48] [88, 49] [88, 50] [88, 51] [88, 52] [88, 53] [88, 54] [88, 55] [35] 103 104 dst) (fun ρ => rfl) H1 [0, 1] rfl rfl ⟨hH 0 (by simp), hH 1 (by simp), trivial⟩ rfl) ?_
      refine OpD.callG [0, 1] rfl rfl rfl rfl rfl rfl (r := .s (nmF (regsL 3) a)) (fun _ H1 hH => Ctr.spread (lname_ok [88, 48] [88, 49] [88, 50] [88, 51] [88, 52] [88, 53] [88, 54] [88, 55] [35] 103 104 a) (fun ρ => rfl) H1 [0, 1] rfl rfl ⟨hH 0 (by simp), hH 1 (by simp), trivial⟩ rfl) ?_
      refine OpD.callG [0, 1] rfl rfl rfl rfl rfl rfl (r := .s (orF (regsL 3) [35] b imm)) (fun _ H1 hH => Ctr.spread (lor_ok [88, 48] [88, 49] [88, 50] [88, 51] [88, 52] [88, 53] [88, 54] [88, 55] [35] 103 104 b imm hi (by decide)) (fun ρ => rfl) H1 [0, 1] rfl rfl ⟨hH 0 (by simp), hH 1 (by simp), trivial⟩ rfl) ?_
      refine OpD.callG [7] rfl rfl rfl rfl rfl rfl (r := .s (lineF [65, 78, 68] [nmF (regsL 3) dst, nmF (regsL 3) a, orF (regsL 3) [35] b imm])) (fun _ H1 hH => Ctr.spread (line_ok [65, 78, 68] [nmF (regsL 3) dst, nmF (regsL 3) a, orF (regsL 3) [35] b imm] 3 rfl (by decide) (by decide) (by rw [jn3]; have := nm_len3 3 dst; have := nm_len3 3 a; have := or_len 3 b imm [35] (by decide) hi; simp only [List.length_append, List.length_cons, List.length_nil]; omega) (by decide)) (fun ρ => rfl) H1 [7] rfl rfl ⟨hH 7 (by simp), trivial⟩ rfl) ?_
      refine ⟨by kernel_rfl, ?_⟩
      exact ⟨tup_line (paT_3x e), _, rfl⟩
    · refine WpC.dr tabOkF mixed 2 ?_
      refine OpD.callL rfl rfl rfl rfl [] 1 rfl rfl Afns_ok rfl rfl rfl rfl trivial rfl rfl ?_
      refine ⟨fun _ => by show (0 : Int) ≤ 5 ∧ (5 : Int) < ((6 : Nat) : Int); decide, ?_⟩
      refine OpD.callG [0, 1] rfl rfl rfl rfl rfl rfl (r := .s (nmF (regsL 3) dst)) (fun _ H1 hH => Ctr.spread (lname_ok [88, 48] [88, 49] [88, 50] [88, 51] [88, 52] [88, 53] [88, 54] [88, 55] [35] 103 104 dst) (fun ρ => rfl) H1 [0, 1] rfl rfl ⟨hH 0 (by simp), hH 1 (by simp), trivial⟩ rfl) ?_
      refine OpD.callG [0, 1] rfl rfl rfl rfl rfl rfl (r := .s (nmF (regsL 3) a)) (fun _ H1 hH => Ctr.spread (lname_ok [88, 48] [88, 49] [88, 50] [88, 51] [88, 52] [88, 53] [88, 54] [88, 55] [35] 103 104 a) (fun ρ => rfl) H1 [0, 1] rfl rfl ⟨hH 0 (by simp), hH 1 (by simp), trivial⟩ rfl) ?_
      refine OpD.callG [0, 1] rfl rfl rfl rfl rfl rfl (r := .s (orF (regsL 3) [35] b imm)) (fun _ H1 hH => Ctr.spread (lor_ok [88, 48] [88, 49] [88, 50] [88, 51] [88, 52] [88, 53] [88, 54] [88, 55] [35] 103 104 b imm hi (by decide)) (fun ρ => rfl) H1 [0, 1] rfl rfl ⟨hH 0 (by simp), hH 1 (by simp), trivial⟩ rfl) ?_
      refine OpD.callG [7] rfl rfl rfl rfl rfl rfl (r := .s (lineF [79, 82, 82] [nmF (regsL 3) dst, nmF (regsL 3) a, orF (regsL 3) [35] b imm])) (fun _ H1 hH => Ctr.spread (line_ok [79, 82, 82] [nmF (regsL 3) dst, nmF (regsL 3) a, orF (regsL 3) [35] b imm] 3 rfl (by decide) (by decide) (by rw [jn3]; have := nm_len3 3 dst; have := nm_len3 3 a; have := or_len 3 b imm [35] (by decide) hi; simp only [List.length_append, List.length_cons, List.length_nil]; omega) (by decide)) (fun ρ => rfl) H1 [7] rfl rfl ⟨hH 7 (by simp), trivial⟩ rfl) ?_
      refine ⟨by kernel_rfl, ?_⟩
      exact ⟨tup_line (paT_3x e), _, rfl⟩
  have n3 : decide (op = 3) = false := n3
  refine ⟨fun h4 => ?_, fun n4 => ?_⟩
  · have h4 : decide (op = 4) = true := h4
    have e : op = 4 := of_decide_eq_true h4
    have ha := (fm4 hf e).2.1
    refine ⟨fun hq => ?_, fun hq => ?_⟩
    · have hq : acq = true := hq
      refine ⟨fun hw => ?_, fun hw => ?_⟩
      · have hw : wk = true := hw
        refine WpC.dr tabOkF mixed 1 ?_
        refine ⟨fun _ => ?_, ?_⟩
        · show ([76, 68, 65, 80, 82] : List UInt8).length + (endF sz [66] [72] [87] []).length ≤ 9223372036854775807
          simp only [List.length_append, List.length_cons, List.length_nil]; omega
        refine OpD.callG [0, 1] rfl rfl rfl rfl rfl rfl (r := .s (nmF (regsL 3) dst)) (fun _ H1 hH => Ctr.spread (lname_ok [88, 48] [88, 49] [88, 50] [88, 51] [88, 52] [88, 53] [88, 54] [88, 55] [35] 103 104 dst) (fun ρ => rfl) H1 [0, 1] rfl rfl ⟨hH 0 (by simp), hH 1 (by simp), trivial⟩ rfl) ?_
        refine OpD.callG [0, 1] rfl rfl rfl rfl rfl rfl (r := .s (atF (regsL 3) ⟨op, dst, a, b, imm, loc, off, ix, sz, fn, acq, wk, rel, pr, su, to, ze⟩)) (fun _ H1 hH => Ctr.spread (lat_ok [88, 48] [88, 49] [88, 50] [88, 51] [88, 52] [88, 53] [88, 54] [88, 55] [35] 103 104 (nm_len3 3) ⟨op, dst, a, b, imm, loc, off, ix, sz, fn, acq, wk, rel, pr, su, to, ze⟩ ha) (fun ρ => rfl) H1 [0, 1] rfl rfl ⟨hH 0 (by simp), hH 1 (by simp), trivial⟩ rfl) ?_
        refine OpD.callG [6] rfl rfl rfl rfl rfl rfl (r := .s (lineF (([76, 68, 65, 80, 82] : List UInt8) ++ (endF sz [66] [72] [87] [])) [nmF (regsL 3) dst, atF (regsL 3) ⟨op, dst, a, b, imm, loc, off, ix, sz, fn, acq, wk, rel, pr, su, to, ze⟩])) (fun _ H1 hH => Ctr.spread (line_ok (([76, 68, 65, 80, 82] : List UInt8) ++ (endF sz [66] [72] [87] [])) [nmF (regsL 3) dst, atF (regsL 3) ⟨op, dst, a, b, imm, loc, off, ix, sz, fn, acq, wk, rel, pr, su, to, ze⟩] 2 rfl (by decide) (by decide) (by rw [jn2]; have := nm_len3 3 dst; have := at_len (a := 3) ha; simp only [List.length_append, List.length_cons, List.length_nil]; omega) (by simp only [List.length_append, List.length_cons, List.length_nil]; omega)) (fun ρ => rfl) H1 [6] rfl rfl ⟨hH 6 (by simp), trivial⟩ rfl) ?_
        refine ⟨by kernel_rfl, ?_⟩
        exact ⟨tup_line (paT_4w e hw), _, rfl⟩
      · have hw : wk = false := hw
        refine WpC.dr tabOkF mixed 1 ?_
        refine ⟨fun _ => ?_, ?_⟩
        · show ([76, 68, 65, 82] : List UInt8).length + (endF sz [66] [72] [87] []).length ≤ 9223372036854775807
          simp only [List.length_append, List.length_cons, List.length_nil]; omega
        refine OpD.callG [0, 1] rfl rfl rfl rfl rfl rfl (r := .s (nmF (regsL 3) dst)) (fun _ H1 hH => Ctr.spread (lname_ok [88, 48] [88, 49] [88, 50] [88, 51] [88, 52] [88, 53] [88, 54] [88, 55] [35] 103 104 dst) (fun ρ => rfl) H1 [0, 1] rfl rfl ⟨hH 0 (by simp), hH 1 (by simp), trivial⟩ rfl) ?_
        refine OpD.callG [0, 1] rfl rfl rfl rfl rfl rfl (r := .s (atF (regsL 3) ⟨op, dst, a, b, imm, loc, off, ix, sz, fn, acq, wk, rel, pr, su, to, ze⟩)) (fun _ H1 hH => Ctr.spread (lat_ok [88, 48] [88, 49] [88, 50] [88, 51] [88, 52] [88, 53] [88, 54] [88, 55] [35] 103 104 (nm_len3 3) ⟨op, dst, a, b, imm, loc, off, ix, sz, fn, acq, wk, rel, pr, su, to, ze⟩ ha) (fun ρ => rfl) H1 [0, 1] rfl rfl ⟨hH 0 (by simp), hH 1 (by simp), trivial⟩ rfl) ?_
        refine OpD.callG [6] rfl rfl rfl rfl rfl rfl (r := .s (lineF (([76, 68, 65, 82] : List UInt8) ++ (endF sz [66] [72] [87] [])) [nmF (regsL 3) dst, atF (regsL 3) ⟨op, dst, a, b, imm, loc, off, ix, sz, fn, acq, wk, rel, pr, su, to, ze⟩])) (fun _ H1 hH => Ctr.spread (line_ok (([76, 68, 65, 82] : List UInt8) ++ (endF sz [66] [72] [87] [])) [nmF (regsL 3) dst, atF (regsL 3) ⟨op, dst, a, b, imm, loc, off, ix, sz, fn, acq, wk, rel, pr, su, to, ze⟩] 2 rfl (by decide) (by decide) (by rw [jn2]; have := nm_len3 3 dst; have := at_len (a := 3) ha; simp only [List.length_append, List.length_cons, List.length_nil]; omega) (by simp only [List.length_append, List.length_cons, List.length_nil]; omega)) (fun ρ => rfl) H1 [6] rfl rfl ⟨hH 6 (by simp), trivial⟩ rfl) ?_
        refine ⟨by kernel_rfl, ?_⟩
        exact ⟨tup_line (paT_4a e hw hq), _, rfl⟩
    · have hq : acq = false := hq
      refine ⟨fun hw => ?_, fun hw => ?_⟩
      · have hw : wk = true := hw
        refine WpC.dr tabOkF mixed 1 ?_
        refine ⟨fun _ => ?_, ?_⟩
        · show ([76, 68, 65, 80, 82] : List UInt8).length + (endF sz [66] [72] [87] []).length ≤ 9223372036854775807
          simp only [List.length_append, List.length_cons, List.length_nil]; omega
        refine OpD.callG [0, 1] rfl rfl rfl rfl rfl rfl (r := .s (nmF (regsL 3) dst)) (fun _ H1 hH => Ctr.spread (lname_ok [88, 48] [88, 49] [88, 50] [88, 51] [88, 52] [88, 53] [88, 54] [88, 55] [35] 103 104 dst) (fun ρ => rfl) H1 [0, 1] rfl rfl ⟨hH 0 (by simp), hH 1 (by simp), trivial⟩ rfl) ?_
        refine OpD.callG [0, 1] rfl rfl rfl rfl rfl rfl (r := .s (atF (regsL 3) ⟨op, dst, a, b, imm, loc, off, ix, sz, fn, acq, wk, rel, pr, su, to, ze⟩)) (fun _ H1 hH => Ctr.spread (lat_ok [88, 48] [88, 49] [88, 50] [88, 51] [88, 52] [88, 53] [88, 54] [88, 55] [35] 103 104 (nm_len3 3) ⟨op, dst, a, b, imm, loc, off, ix, sz, fn, acq, wk, rel, pr, su, to, ze⟩ ha) (fun ρ => rfl) H1 [0, 1] rfl rfl ⟨hH 0 (by simp), hH 1 (by simp), trivial⟩ rfl) ?_
        refine OpD.callG [6] rfl rfl rfl rfl rfl rfl (r := .s (lineF (([76, 68, 65, 80, 82] : List UInt8) ++ (endF sz [66] [72] [87] [])) [nmF (regsL 3) dst, atF (regsL 3) ⟨op, dst, a, b, imm, loc, off, ix, sz, fn, acq, wk, rel, pr, su, to, ze⟩])) (fun _ H1 hH => Ctr.spread (line_ok (([76, 68, 65, 80, 82] : List UInt8) ++ (endF sz [66] [72] [87] [])) [nmF (regsL 3) dst, atF (regsL 3) ⟨op, dst, a, b, imm, loc, off, ix, sz, fn, acq, wk, rel, pr, su, to, ze⟩] 2 rfl (by decide) (by decide) (by rw [jn2]; have := nm_len3 3 dst; have := at_len (a := 3) ha; simp only [List.length_append, List.length_cons, List.length_nil]; omega) (by simp only [List.length_append, List.length_cons, List.length_nil]; omega)) (fun ρ => rfl) H1 [6] rfl rfl ⟨hH 6 (by simp), trivial⟩ rfl) ?_
        refine ⟨by kernel_rfl, ?_⟩
        exact ⟨tup_line (paT_4w e hw), _, rfl⟩
      · have hw : wk = false := hw
        refine WpC.dr tabOkF mixed 1 ?_
        refine ⟨fun _ => ?_, ?_⟩
        · show ([76, 68, 82] : List UInt8).length + (endF sz [66] [72] [87] []).length ≤ 9223372036854775807
          simp only [List.length_append, List.length_cons, List.length_nil]; omega
        refine OpD.callG [0, 1] rfl rfl rfl rfl rfl rfl (r := .s (nmF (regsL 3) dst)) (fun _ H1 hH => Ctr.spread (lname_ok [88, 48] [88, 49] [88, 50] [88, 51] [88, 52] [88, 53] [88, 54] [88, 55] [35] 103 104 dst) (fun ρ => rfl) H1 [0, 1] rfl rfl ⟨hH 0 (by simp), hH 1 (by simp), trivial⟩ rfl) ?_
        refine OpD.callG [0, 1] rfl rfl rfl rfl rfl rfl (r := .s (atF (regsL 3) ⟨op, dst, a, b, imm, loc, off, ix, sz, fn, acq, wk, rel, pr, su, to, ze⟩)) (fun _ H1 hH => Ctr.spread (lat_ok [88, 48] [88, 49] [88, 50] [88, 51] [88, 52] [88, 53] [88, 54] [88, 55] [35] 103 104 (nm_len3 3) ⟨op, dst, a, b, imm, loc, off, ix, sz, fn, acq, wk, rel, pr, su, to, ze⟩ ha) (fun ρ => rfl) H1 [0, 1] rfl rfl ⟨hH 0 (by simp), hH 1 (by simp), trivial⟩ rfl) ?_
        refine OpD.callG [6] rfl rfl rfl rfl rfl rfl (r := .s (lineF (([76, 68, 82] : List UInt8) ++ (endF sz [66] [72] [87] [])) [nmF (regsL 3) dst, atF (regsL 3) ⟨op, dst, a, b, imm, loc, off, ix, sz, fn, acq, wk, rel, pr, su, to, ze⟩])) (fun _ H1 hH => Ctr.spread (line_ok (([76, 68, 82] : List UInt8) ++ (endF sz [66] [72] [87] [])) [nmF (regsL 3) dst, atF (regsL 3) ⟨op, dst, a, b, imm, loc, off, ix, sz, fn, acq, wk, rel, pr, su, to, ze⟩] 2 rfl (by decide) (by decide) (by rw [jn2]; have := nm_len3 3 dst; have := at_len (a := 3) ha; simp only [List.length_append, List.length_cons, List.length_nil]; omega) (by simp only [List.length_append, List.length_cons, List.length_nil]; omega)) (fun ρ => rfl) H1 [6] rfl rfl ⟨hH 6 (by simp), trivial⟩ rfl) ?_
        refine ⟨by kernel_rfl, ?_⟩
        exact ⟨tup_line (paT_4n e hw hq), _, rfl⟩
  have n4 : decide (op = 4) = false := n4
  refine ⟨fun h5 => ?_, fun n5 => ?_⟩
  · have h5 : (decide (op = 5) && decide (0 ≤ a)) = true := h5
    have e : op = 5 := by simp at h5; exact h5.1
    have hb : ¬ a < 0 := by simp at h5; omega
    have ha := (fm5 hf e).1
    refine ⟨fun hr => ?_, fun hr => ?_⟩
    · have hr : rel = true := hr
      refine WpC.dr tabOkF mixed 1 ?_
      refine ⟨fun _ => ?_, ?_⟩
      · show ([83, 84, 76, 82] : List UInt8).length + (endF sz [66] [72] [87] []).length ≤ 9223372036854775807
        simp only [List.length_append, List.length_cons, List.length_nil]; omega
      refine OpD.callG [0, 1] rfl rfl rfl rfl rfl rfl (r := .s (nmF (regsL 3) a)) (fun _ H1 hH => Ctr.spread (lname_ok [88, 48] [88, 49] [88, 50] [88, 51] [88, 52] [88, 53] [88, 54] [88, 55] [35] 103 104 a) (fun ρ => rfl) H1 [0, 1] rfl rfl ⟨hH 0 (by simp), hH 1 (by simp), trivial⟩ rfl) ?_
      refine OpD.callG [0, 1] rfl rfl rfl rfl rfl rfl (r := .s (atF (regsL 3) ⟨op, dst, a, b, imm, loc, off, ix, sz, fn, acq, wk, rel, pr, su, to, ze⟩)) (fun _ H1 hH => Ctr.spread (lat_ok [88, 48] [88, 49] [88, 50] [88, 51] [88, 52] [88, 53] [88, 54] [88, 55] [35] 103 104 (nm_len3 3) ⟨op, dst, a, b, imm, loc, off, ix, sz, fn, acq, wk, rel, pr, su, to, ze⟩ ha) (fun ρ => rfl) H1 [0, 1] rfl rfl ⟨hH 0 (by simp), hH 1 (by simp), trivial⟩ rfl) ?_
      refine OpD.callG [6] rfl rfl rfl rfl rfl rfl (r := .s (lineF (([83, 84, 76, 82] : List UInt8) ++ (endF sz [66] [72] [87] [])) [nmF (regsL 3) a, atF (regsL 3) ⟨op, dst, a, b, imm, loc, off, ix, sz, fn, acq, wk, rel, pr, su, to, ze⟩])) (fun _ H1 hH => Ctr.spread (line_ok (([83, 84, 76, 82] : List UInt8) ++ (endF sz [66] [72] [87] [])) [nmF (regsL 3) a, atF (regsL 3) ⟨op, dst, a, b, imm, loc, off, ix, sz, fn, acq, wk, rel, pr, su, to, ze⟩] 2 rfl (by decide) (by decide) (by rw [jn2]; have := nm_len3 3 a; have := at_len (a := 3) ha; simp only [List.length_append, List.length_cons, List.length_nil]; omega) (by simp only [List.length_append, List.length_cons, List.length_nil]; omega)) (fun ρ => rfl) H1 [6] rfl rfl ⟨hH 6 (by simp), trivial⟩ rfl) ?_
      refine ⟨by kernel_rfl, ?_⟩
      exact ⟨tup_line (paT_5r e hb hr), _, rfl⟩
    · have hr : rel = false := hr
      refine WpC.dr tabOkF mixed 1 ?_
      refine ⟨fun _ => ?_, ?_⟩
      · show ([83, 84, 82] : List UInt8).length + (endF sz [66] [72] [87] []).length ≤ 9223372036854775807
        simp only [List.length_append, List.length_cons, List.length_nil]; omega
      refine OpD.callG [0, 1] rfl rfl rfl rfl rfl rfl (r := .s (nmF (regsL 3) a)) (fun _ H1 hH => Ctr.spread (lname_ok [88, 48] [88, 49] [88, 50] [88, 51] [88, 52] [88, 53] [88, 54] [88, 55] [35] 103 104 a) (fun ρ => rfl) H1 [0, 1] rfl rfl ⟨hH 0 (by simp), hH 1 (by simp), trivial⟩ rfl) ?_
      refine OpD.callG [0, 1] rfl rfl rfl rfl rfl rfl (r := .s (atF (regsL 3) ⟨op, dst, a, b, imm, loc, off, ix, sz, fn, acq, wk, rel, pr, su, to, ze⟩)) (fun _ H1 hH => Ctr.spread (lat_ok [88, 48] [88, 49] [88, 50] [88, 51] [88, 52] [88, 53] [88, 54] [88, 55] [35] 103 104 (nm_len3 3) ⟨op, dst, a, b, imm, loc, off, ix, sz, fn, acq, wk, rel, pr, su, to, ze⟩ ha) (fun ρ => rfl) H1 [0, 1] rfl rfl ⟨hH 0 (by simp), hH 1 (by simp), trivial⟩ rfl) ?_
      refine OpD.callG [6] rfl rfl rfl rfl rfl rfl (r := .s (lineF (([83, 84, 82] : List UInt8) ++ (endF sz [66] [72] [87] [])) [nmF (regsL 3) a, atF (regsL 3) ⟨op, dst, a, b, imm, loc, off, ix, sz, fn, acq, wk, rel, pr, su, to, ze⟩])) (fun _ H1 hH => Ctr.spread (line_ok (([83, 84, 82] : List UInt8) ++ (endF sz [66] [72] [87] [])) [nmF (regsL 3) a, atF (regsL 3) ⟨op, dst, a, b, imm, loc, off, ix, sz, fn, acq, wk, rel, pr, su, to, ze⟩] 2 rfl (by decide) (by decide) (by rw [jn2]; have := nm_len3 3 a; have := at_len (a := 3) ha; simp only [List.length_append, List.length_cons, List.length_nil]; omega) (by simp only [List.length_append, List.length_cons, List.length_nil]; omega)) (fun ρ => rfl) H1 [6] rfl rfl ⟨hH 6 (by simp), trivial⟩ rfl) ?_
      refine ⟨by kernel_rfl, ?_⟩
      exact ⟨tup_line (paT_5n e hb hr), _, rfl⟩
  have n5 : (decide (op = 5) && decide (0 ≤ a)) = false := n5
  refine ⟨fun h6 => ?_, fun n6 => ?_⟩
  · have h6 : decide (op = 6) = true := h6
    have e : op = 6 := of_decide_eq_true h6
    have ha := (fm6 hf e).2.2.1
    refine ⟨fun hfn => ?_, fun hfn => ?_⟩
    · have hfn : fn = 1 := of_decide_eq_true hfn
      refine ⟨fun hq => ?_, fun hq => ?_⟩
      · have hq : acq = true := hq
        refine ⟨fun _ => ?_, ?_⟩
        · show ([76, 68, 65, 68, 68] : List UInt8).length + ([65] : List UInt8).length ≤ 9223372036854775807
          simp only [List.length_append, List.length_cons, List.length_nil]; omega
        refine ⟨fun hr => ?_, fun hr => ?_⟩
        · have hr : rel = true := hr
          refine ⟨fun _ => ?_, ?_⟩
          · show (([76, 68, 65, 68, 68] : List UInt8) ++ ([65] : List UInt8)).length + ([76] : List UInt8).length ≤ 9223372036854775807
            simp only [List.length_append, List.length_cons, List.length_nil]; omega
          refine WpC.dr tabOkF mixed 1 ?_
          refine ⟨fun _ => ?_, ?_⟩
          · show ((([76, 68, 65, 68, 68] : List UInt8) ++ ([65] : List UInt8)) ++ ([76] : List UInt8)).length + (endF sz [66] [72] [87] []).length ≤ 9223372036854775807
            simp only [List.length_append, List.length_cons, List.length_nil]; omega
          refine OpD.callG [0, 1] rfl rfl rfl rfl rfl rfl (r := .s (nmF (regsL 3) a)) (fun _ H1 hH => Ctr.spread (lname_ok [88, 48] [88, 49] [88, 50] [88, 51] [88, 52] [88, 53] [88, 54] [88, 55] [35] 103 104 a) (fun ρ => rfl) H1 [0, 1] rfl rfl ⟨hH 0 (by simp), hH 1 (by simp), trivial⟩ rfl) ?_
          refine OpD.callG [0, 1] rfl rfl rfl rfl rfl rfl (r := .s (nmF (regsL 3) dst)) (fun _ H1 hH => Ctr.spread (lname_ok [88, 48] [88, 49] [88, 50] [88, 51] [88, 52] [88, 53] [88, 54] [88, 55] [35] 103 104 dst) (fun ρ => rfl) H1 [0, 1] rfl rfl ⟨hH 0 (by simp), hH 1 (by simp), trivial⟩ rfl) ?_
          refine OpD.callG [0, 1] rfl rfl rfl rfl rfl rfl (r := .s (atF (regsL 3) ⟨op, dst, a, b, imm, loc, off, ix, sz, fn, acq, wk, rel, pr, su, to, ze⟩)) (fun _ H1 hH => Ctr.spread (lat_ok [88, 48] [88, 49] [88, 50] [88, 51] [88, 52] [88, 53] [88, 54] [88, 55] [35] 103 104 (nm_len3 3) ⟨op, dst, a, b, imm, loc, off, ix, sz, fn, acq, wk, rel, pr, su, to, ze⟩ ha) (fun ρ => rfl) H1 [0, 1] rfl rfl ⟨hH 0 (by simp), hH 1 (by simp), trivial⟩ rfl) ?_
          refine OpD.callG [6] rfl rfl rfl rfl rfl rfl (r := .s (lineF (((([76, 68, 65, 68, 68] : List UInt8) ++ ([65] : List UInt8)) ++ ([76] : List UInt8)) ++ (endF sz [66] [72] [87] [])) [nmF (regsL 3) a, nmF (regsL 3) dst, atF (regsL 3) ⟨op, dst, a, b, imm, loc, off, ix, sz, fn, acq, wk, rel, pr, su, to, ze⟩])) (fun _ H1 hH => Ctr.spread (line_ok (((([76, 68, 65, 68, 68] : List UInt8) ++ ([65] : List UInt8)) ++ ([76] : List UInt8)) ++ (endF sz [66] [72] [87] [])) [nmF (regsL 3) a, nmF (regsL 3) dst, atF (regsL 3) ⟨op, dst, a, b, imm, loc, off, ix, sz, fn, acq, wk, rel, pr, su, to, ze⟩] 3 rfl (by decide) (by decide) (by rw [jn3]; have := nm_len3 3 a; have := nm_len3 3 dst; have := at_len (a := 3) ha; simp only [List.length_append, List.length_cons, List.length_nil]; omega) (by simp only [List.length_append, List.length_cons, List.length_nil]; omega)) (fun ρ => rfl) H1 [6] rfl rfl ⟨hH 6 (by simp), trivial⟩ rfl) ?_
          refine ⟨by kernel_rfl, ?_⟩
          exact ⟨tup_line (paT_6_111 e hfn hq hr), _, rfl⟩
        · have hr : rel = false := hr
          refine WpC.dr tabOkF mixed 1 ?_
          refine ⟨fun _ => ?_, ?_⟩
          · show (([76, 68, 65, 68, 68] : List UInt8) ++ ([65] : List UInt8)).length + (endF sz [66] [72] [87] []).length ≤ 9223372036854775807
            simp only [List.length_append, List.length_cons, List.length_nil]; omega
          refine OpD.callG [0, 1] rfl rfl rfl rfl rfl rfl (r := .s (nmF (regsL 3) a)) (fun _ H1 hH => Ctr.spread (lname_ok [88, 48] [88, 49] [88, 50] [88, 51] [88, 52] [88, 53] [88, 54] [88, 55] [35] 103 104 a) (fun ρ => rfl) H1 [0, 1] rfl rfl ⟨hH 0 (by simp), hH 1 (by simp), trivial⟩ rfl) ?_
          refine OpD.callG [0, 1] rfl rfl rfl rfl rfl rfl (r := .s (nmF (regsL 3) dst)) (fun _ H1 hH => Ctr.spread (lname_ok [88, 48] [88, 49] [88, 50] [88, 51] [88, 52] [88, 53] [88, 54] [88, 55] [35] 103 104 dst) (fun ρ => rfl) H1 [0, 1] rfl rfl ⟨hH 0 (by simp), hH 1 (by simp), trivial⟩ rfl) ?_
          refine OpD.callG [0, 1] rfl rfl rfl rfl rfl rfl (r := .s (atF (regsL 3) ⟨op, dst, a, b, imm, loc, off, ix, sz, fn, acq, wk, rel, pr, su, to, ze⟩)) (fun _ H1 hH => Ctr.spread (lat_ok [88, 48] [88, 49] [88, 50] [88, 51] [88, 52] [88, 53] [88, 54] [88, 55] [35] 103 104 (nm_len3 3) ⟨op, dst, a, b, imm, loc, off, ix, sz, fn, acq, wk, rel, pr, su, to, ze⟩ ha) (fun ρ => rfl) H1 [0, 1] rfl rfl ⟨hH 0 (by simp), hH 1 (by simp), trivial⟩ rfl) ?_
          refine OpD.callG [6] rfl rfl rfl rfl rfl rfl (r := .s (lineF ((([76, 68, 65, 68, 68] : List UInt8) ++ ([65] : List UInt8)) ++ (endF sz [66] [72] [87] [])) [nmF (regsL 3) a, nmF (regsL 3) dst, atF (regsL 3) ⟨op, dst, a, b, imm, loc, off, ix, sz, fn, acq, wk, rel, pr, su, to, ze⟩])) (fun _ H1 hH => Ctr.spread (line_ok ((([76, 68, 65, 68, 68] : List UInt8) ++ ([65] : List UInt8)) ++ (endF sz [66] [72] [87] [])) [nmF (regsL 3) a, nmF (regsL 3) dst, atF (regsL 3) ⟨op, dst, a, b, imm, loc, off, ix, sz, fn, acq, wk, rel, pr, su, to, ze⟩] 3 rfl (by decide) (by decide) (by rw [jn3]; have := nm_len3 3 a; have := nm_len3 3 dst; have := at_len (a := 3) ha; simp only [List.length_append, List.length_cons, List.length_nil]; omega) (by simp only [List.length_append, List.length_cons, List.length_nil]; omega)) (fun ρ => rfl) H1 [6] rfl rfl ⟨hH 6 (by simp), trivial⟩ rfl) ?_
          refine ⟨by kernel_rfl, ?_⟩
          exact ⟨tup_line (paT_6_110 e hfn hq hr), _, rfl⟩
      · have hq : acq = false := hq
        refine ⟨fun hr => ?_, fun hr => ?_⟩
        · have hr : rel = true := hr
          refine ⟨fun _ => ?_, ?_⟩
          · show ([76, 68, 65, 68, 68] : List UInt8).length + ([76] : List UInt8).length ≤ 9223372036854775807
            simp only [List.length_append, List.length_cons, List.length_nil]; omega
          refine WpC.dr tabOkF mixed 1 ?_
          refine ⟨fun _ => ?_, ?_⟩
          · show (([76, 68, 65, 68, 68] : List UInt8) ++ ([76] : List UInt8)).length + (endF sz [66] [72] [87] []).length ≤ 9223372036854775807
            simp only [List.length_append, List.length_cons, List.length_nil]; omega
          refine OpD.callG [0, 1] rfl rfl rfl rfl rfl rfl (r := .s (nmF (regsL 3) a)) (fun _ H1 hH => Ctr.spread (lname_ok [88, 48] [88, 49] [88, 50] [88, 51] [88, 52] [88, 53] [88, 54] [88, 55] [35] 103 104 a) (fun ρ => rfl) H1 [0, 1] rfl rfl ⟨hH 0 (by simp), hH 1 (by simp), trivial⟩ rfl) ?_
          refine OpD.callG [0, 1] rfl rfl rfl rfl rfl rfl (r := .s (nmF (regsL 3) dst)) (fun _ H1 hH => Ctr.spread (lname_ok [88, 48] [88, 49] [88, 50] [88, 51] [88, 52] [88, 53] [88, 54] [88, 55] [35] 103 104 dst) (fun ρ => rfl) H1 [0, 1] rfl rfl ⟨hH 0 (by simp), hH 1 (by simp), trivial⟩ rfl) ?_
          refine OpD.callG [0, 1] rfl rfl rfl rfl rfl rfl (r := .s (atF (regsL 3) ⟨op, dst, a, b, imm, loc, off, ix, sz, fn, acq, wk, rel, pr, su, to, ze⟩)) (fun _ H1 hH => Ctr.spread (lat_ok [88, 48] [88, 49] [88, 50] [88, 51] [88, 52] [88, 53] [88, 54] [88, 55] [35] 103 104 (nm_len3 3) ⟨op, dst, a, b, imm, loc, off, ix, sz, fn, acq, wk, rel, pr, su, to, ze⟩ ha) (fun ρ => rfl) H1 [0, 1] rfl rfl ⟨hH 0 (by simp), hH 1 (by simp), trivial⟩ rfl) ?_
          refine OpD.callG [6] rfl rfl rfl rfl rfl rfl (r := .s (lineF ((([76, 68, 65, 68, 68] : List UInt8) ++ ([76] : List UInt8)) ++ (endF sz [66] [72] [87] [])) [nmF (regsL 3) a, nmF (regsL 3) dst, atF (regsL 3) ⟨op, dst, a, b, imm, loc, off, ix, sz, fn, acq, wk, rel, pr, su, to, ze⟩])) (fun _ H1 hH => Ctr.spread (line_ok ((([76, 68, 65, 68, 68] : List UInt8) ++ ([76] : List UInt8)) ++ (endF sz [66] [72] [87] [])) [nmF (regsL 3) a, nmF (regsL 3) dst, atF (regsL 3) ⟨op, dst, a, b, imm, loc, off, ix, sz, fn, acq, wk, rel, pr, su, to, ze⟩] 3 rfl (by decide) (by decide) (by rw [jn3]; have := nm_len3 3 a; have := nm_len3 3 dst; have := at_len (a := 3) ha; simp only [List.length_append, List.length_cons, List.length_nil]; omega) (by simp only [List.length_append, List.length_cons, List.length_nil]; omega)) (fun ρ => rfl) H1 [6] rfl rfl ⟨hH 6 (by simp), trivial⟩ rfl) ?_
          refine ⟨by kernel_rfl, ?_⟩
          exact ⟨tup_line (paT_6_101 e hfn hq hr), _, rfl⟩
        · have hr : rel = false := hr
          refine WpC.dr tabOkF mixed 1 ?_
          refine ⟨fun _ => ?_, ?_⟩
          · show ([76, 68, 65, 68, 68] : List UInt8).length + (endF sz [66] [72] [87] []).length ≤ 9223372036854775807
            simp only [List.length_append, List.length_cons, List.length_nil]; omega
          refine OpD.callG [0, 1] rfl rfl rfl rfl rfl rfl (r := .s (nmF (regsL 3) a)) (fun _ H1 hH => Ctr.spread (lname_ok [88, 48] [88, 49] [88, 50] [88, 51] [88, 52] [88, 53] [88, 54] [88, 55] [35] 103 104 a) (fun ρ => rfl) H1 [0, 1] rfl rfl ⟨hH 0 (by simp), hH 1 (by simp), trivial⟩ rfl) ?_
          refine OpD.callG [0, 1] rfl rfl rfl rfl rfl rfl (r := .s (nmF (regsL 3) dst)) (fun _ H1 hH => Ctr.spread (lname_ok [88, 48] [88, 49] [88, 50] [88, 51] [88, 52] [88, 53] [88, 54] [88, 55] [35] 103 104 dst) (fun ρ => rfl) H1 [0, 1] rfl rfl ⟨hH 0 (by simp), hH 1 (by simp), trivial⟩ rfl) ?_
          refine OpD.callG [0, 1] rfl rfl rfl rfl rfl rfl (r := .s (atF (regsL 3) ⟨op, dst, a, b, imm, loc, off, ix, sz, fn, acq, wk, rel, pr, su, to, ze⟩)) (fun _ H1 hH => Ctr.spread (lat_ok [88, 48] [88, 49] [88, 50] [88, 51] [88, 52] [88, 53] [88, 54] [88, 55] [35] 103 104 (nm_len3 3) ⟨op, dst, a, b, imm, loc, off, ix, sz, fn, acq, wk, rel, pr, su, to, ze⟩ ha) (fun ρ => rfl) H1 [0, 1] rfl rfl ⟨hH 0 (by simp), hH 1 (by simp), trivial⟩ rfl) ?_
          refine OpD.callG [6] rfl rfl rfl rfl rfl rfl (r := .s (lineF (([76, 68, 65, 68, 68] : List UInt8) ++ (endF sz [66] [72] [87] [])) [nmF (regsL 3) a, nmF (regsL 3) dst, atF (regsL 3) ⟨op, dst, a, b, imm, loc, off, ix, sz, fn, acq, wk, rel, pr, su, to, ze⟩])) (fun _ H1 hH => Ctr.spread (line_ok (([76, 68, 65, 68, 68] : List UInt8) ++ (endF sz [66] [72] [87] [])) [nmF (regsL 3) a, nmF (regsL 3) dst, atF (regsL 3) ⟨op, dst, a, b, imm, loc, off, ix, sz, fn, acq, wk, rel, pr, su, to, ze⟩] 3 rfl (by decide) (by decide) (by rw [jn3]; have := nm_len3 3 a; have := nm_len3 3 dst; have := at_len (a := 3) ha; simp only [List.length_append, List.length_cons, List.length_nil]; omega) (by simp only [List.length_append, List.length_cons, List.length_nil]; omega)) (fun ρ => rfl) H1 [6] rfl rfl ⟨hH 6 (by simp), trivial⟩ rfl) ?_
          refine ⟨by kernel_rfl, ?_⟩
          exact ⟨tup_line (paT_6_100 e hfn hq hr), _, rfl⟩
    · have hfn : ¬ fn = 1 := of_decide_eq_false hfn
      refine ⟨fun hq => ?_, fun hq => ?_⟩
      · have hq : acq = true := hq
        refine ⟨fun _ => ?_, ?_⟩
        · show ([83, 87, 80] : List UInt8).length + ([65] : List UInt8).length ≤ 9223372036854775807
          simp only [List.length_append, List.length_cons, List.length_nil]; omega
        refine ⟨fun hr => ?_, fun hr => ?_⟩
        · have hr : rel = true := hr
          refine ⟨fun _ => ?_, ?_⟩
          · show (([83, 87, 80] : List UInt8) ++ ([65] : List UInt8)).length + ([76] : List UInt8).length ≤ 9223372036854775807
            simp only [List.length_append, List.length_cons, List.length_nil]; omega
          refine WpC.dr tabOkF mixed 1 ?_
          refine ⟨fun _ => ?_, ?_⟩
          · show ((([83, 87, 80] : List UInt8) ++ ([65] : List UInt8)) ++ ([76] : List UInt8)).length + (endF sz [66] [72] [87] []).length ≤ 9223372036854775807
            simp only [List.length_append, List.length_cons, List.length_nil]; omega
          refine OpD.callG [0, 1] rfl rfl rfl rfl rfl rfl (r := .s (nmF (regsL 3) a)) (fun _ H1 hH => Ctr.spread (lname_ok [88, 48] [88, 49] [88, 50] [88, 51] [88, 52] [88, 53] [88, 54] [88, 55] [35] 103 104 a) (fun ρ => rfl) H1 [0, 1] rfl rfl ⟨hH 0 (by simp), hH 1 (by simp), trivial⟩ rfl) ?_
          refine OpD.callG [0, 1] rfl rfl rfl rfl rfl rfl (r := .s (nmF (regsL 3) dst)) (fun _ H1 hH => Ctr.spread (lname_ok [88, 48] [88, 49] [88, 50] [88, 51] [88, 52] [88, 53] [88, 54] [88, 55] [35] 103 104 dst) (fun ρ => rfl) H1 [0, 1] rfl rfl ⟨hH 0 (by simp), hH 1 (by simp), trivial⟩ rfl) ?_
          refine OpD.callG [0, 1] rfl rfl rfl rfl rfl rfl (r := .s (atF (regsL 3) ⟨op, dst, a, b, imm, loc, off, ix, sz, fn, acq, wk, rel, pr, su, to, ze⟩)) (fun _ H1 hH => Ctr.spread (lat_ok [88, 48] [88, 49] [88, 50] [88, 51] [88, 52] [88, 53] [88, 54] [88, 55] [35] 103 104 (nm_len3 3) ⟨op, dst, a, b, imm, loc, off, ix, sz, fn, acq, wk, rel, pr, su, to, ze⟩ ha) (fun ρ => rfl) H1 [0, 1] rfl rfl ⟨hH 0 (by simp), hH 1 (by simp), trivial⟩ rfl) ?_
          refine OpD.callG [6] rfl rfl rfl rfl rfl rfl (r := .s (lineF (((([83, 87, 80] : List UInt8) ++ ([65] : List UInt8)) ++ ([76] : List UInt8)) ++ (endF sz [66] [72] [87] [])) [nmF (regsL 3) a, nmF (regsL 3) dst, atF (regsL 3) ⟨op, dst, a, b, imm, loc, off, ix, sz, fn, acq, wk, rel, pr, su, to, ze⟩])) (fun _ H1 hH => Ctr.spread (line_ok (((([83, 87, 80] : List UInt8) ++ ([65] : List UInt8)) ++ ([76] : List UInt8)) ++ (endF sz [66] [72] [87] [])) [nmF (regsL 3) a, nmF (regsL 3) dst, atF (regsL 3) ⟨op, dst, a, b, imm, loc, off, ix, sz, fn, acq, wk, rel, pr, su, to, ze⟩] 3 rfl (by decide) (by decide) (by rw [jn3]; have := nm_len3 3 a; have := nm_len3 3 dst; have := at_len (a := 3) ha; simp only [List.length_append, List.length_cons, List.length_nil]; omega) (by simp only [List.length_append, List.length_cons, List.length_nil]; omega)) (fun ρ => rfl) H1 [6] rfl rfl ⟨hH 6 (by simp), trivial⟩ rfl) ?_
          refine ⟨by kernel_rfl, ?_⟩
          exact ⟨tup_line (paT_6_011 e hfn hq hr), _, rfl⟩
        · have hr : rel = false := hr
          refine WpC.dr tabOkF mixed 1 ?_
          refine ⟨fun _ => ?_, ?_⟩
          · show (([83, 87, 80] : List UInt8) ++ ([65] : List UInt8)).length + (endF sz [66] [72] [87] []).length ≤ 9223372036854775807
            simp only [List.length_append, List.length_cons, List.length_nil]; omega
          refine OpD.callG [0, 1] rfl rfl rfl rfl rfl rfl (r := .s (nmF (regsL 3) a)) (fun _ H1 hH => Ctr.spread (lname_ok [88, 48] [88, 49] [88, 50] [88, 51] [88, 52] [88, 53] [88, 54] [88, 55] [35] 103 104 a) (fun ρ => rfl) H1 [0, 1] rfl rfl ⟨hH 0 (by simp), hH 1 (by simp), trivial⟩ rfl) ?_
          refine OpD.callG [0, 1] rfl rfl rfl rfl rfl rfl (r := .s (nmF (regsL 3) dst)) (fun _ H1 hH => Ctr.spread (lname_ok [88, 48] [88, 49] [88, 50] [88, 51] [88, 52] [88, 53] [88, 54] [88, 55] [35] 103 104 dst) (fun ρ => rfl) H1 [0, 1] rfl rfl ⟨hH 0 (by simp), hH 1 (by simp), trivial⟩ rfl) ?_
          refine OpD.callG [0, 1] rfl rfl rfl rfl rfl rfl (r := .s (atF (regsL 3) ⟨op, dst, a, b, imm, loc, off, ix, sz, fn, acq, wk, rel, pr, su, to, ze⟩)) (fun _ H1 hH => Ctr.spread (lat_ok [88, 48] [88, 49] [88, 50] [88, 51] [88, 52] [88, 53] [88, 54] [88, 55] [35] 103 104 (nm_len3 3) ⟨op, dst, a, b, imm, loc, off, ix, sz, fn, acq, wk, rel, pr, su, to, ze⟩ ha) (fun ρ => rfl) H1 [0, 1] rfl rfl ⟨hH 0 (by simp), hH 1 (by simp), trivial⟩ rfl) ?_
          refine OpD.callG [6] rfl rfl rfl rfl rfl rfl (r := .s (lineF ((([83, 87, 80] : List UInt8) ++ ([65] : List UInt8)) ++ (endF sz [66] [72] [87] [])) [nmF (regsL 3) a, nmF (regsL 3) dst, atF (regsL 3) ⟨op, dst, a, b, imm, loc, off, ix, sz, fn, acq, wk, rel, pr, su, to, ze⟩])) (fun _ H1 hH => Ctr.spread (line_ok ((([83, 87, 80] : List UInt8) ++ ([65] : List UInt8)) ++ (endF sz [66] [72] [87] [])) [nmF (regsL 3) a, nmF (regsL 3) dst, atF (regsL 3) ⟨op, dst, a, b, imm, loc, off, ix, sz, fn, acq, wk, rel, pr, su, to, ze⟩] 3 rfl (by decide) (by decide) (by rw [jn3]; have := nm_len3 3 a; have := nm_len3 3 dst; have := at_len (a := 3) ha; simp only [List.length_append, List.length_cons, List.length_nil]; omega) (by simp only [List.length_append, List.length_cons, List.length_nil]; omega)) (fun ρ => rfl) H1 [6] rfl rfl ⟨hH 6 (by simp), trivial⟩ rfl) ?_
          refine ⟨by kernel_rfl, ?_⟩
          exact ⟨tup_line (paT_6_010 e hfn hq hr), _, rfl⟩
      · have hq : acq = false := hq
        refine ⟨fun hr => ?_, fun hr => ?_⟩
        · have hr : rel = true := hr
          refine ⟨fun _ => ?_, ?_⟩
          · show ([83, 87, 80] : List UInt8).length + ([76] : List UInt8).length ≤ 9223372036854775807
            simp only [List.length_append, List.length_cons, List.length_nil]; omega
          refine WpC.dr tabOkF mixed 1 ?_
          refine ⟨fun _ => ?_, ?_⟩
          · show (([83, 87, 80] : List UInt8) ++ ([76] : List UInt8)).length + (endF sz [66] [72] [87] []).length ≤ 9223372036854775807
            simp only [List.length_append, List.length_cons, List.length_nil]; omega
          refine OpD.callG [0, 1] rfl rfl rfl rfl rfl rfl (r := .s (nmF (regsL 3) a)) (fun _ H1 hH => Ctr.spread (lname_ok [88, 48] [88, 49] [88, 50] [88, 51] [88, 52] [88, 53] [88, 54] [88, 55] [35] 103 104 a) (fun ρ => rfl) H1 [0, 1] rfl rfl ⟨hH 0 (by simp), hH 1 (by simp), trivial⟩ rfl) ?_
          refine OpD.callG [0, 1] rfl rfl rfl rfl rfl rfl (r := .s (nmF (regsL 3) dst)) (fun _ H1 hH => Ctr.spread (lname_ok [88, 48] [88, 49] [88, 50] [88, 51] [88, 52] [88, 53] [88, 54] [88, 55] [35] 103 104 dst) (fun ρ => rfl) H1 [0, 1] rfl rfl ⟨hH 0 (by simp), hH 1 (by simp), trivial⟩ rfl) ?_
          refine OpD.callG [0, 1] rfl rfl rfl rfl rfl rfl (r := .s (atF (regsL 3) ⟨op, dst, a, b, imm, loc, off, ix, sz, fn, acq, wk, rel, pr, su, to, ze⟩)) (fun _ H1 hH => Ctr.spread (lat_ok [88, 48] [88, 49] [88, 50] [88, 51] [88, 52] [88, 53] [88, 54] [88, 55] [35] 103 104 (nm_len3 3) ⟨op, dst, a, b, imm, loc, off, ix, sz, fn, acq, wk, rel, pr, su, to, ze⟩ ha) (fun ρ => rfl) H1 [0, 1] rfl rfl ⟨hH 0 (by simp), hH 1 (by simp), trivial⟩ rfl) ?_
          refine OpD.callG [6] rfl rfl rfl rfl rfl rfl (r := .s (lineF ((([83, 87, 80] : List UInt8) ++ ([76] : List UInt8)) ++ (endF sz [66] [72] [87] [])) [nmF (regsL 3) a, nmF (regsL 3) dst, atF (regsL 3) ⟨op, dst, a, b, imm, loc, off, ix, sz, fn, acq, wk, rel, pr, su, to, ze⟩])) (fun _ H1 hH => Ctr.spread (line_ok ((([83, 87, 80] : List UInt8) ++ ([76] : List UInt8)) ++ (endF sz [66] [72] [87] [])) [nmF (regsL 3) a, nmF (regsL 3) dst, atF (regsL 3) ⟨op, dst, a, b, imm, loc, off, ix, sz, fn, acq, wk, rel, pr, su, to, ze⟩] 3 rfl (by decide) (by decide) (by rw [jn3]; have := nm_len3 3 a; have := nm_len3 3 dst; have := at_len (a := 3) ha; simp only [List.length_append, List.length_cons, List.length_nil]; omega) (by simp only [List.length_append, List.length_cons, List.length_nil]; omega)) (fun ρ => rfl) H1 [6] rfl rfl ⟨hH 6 (by simp), trivial⟩ rfl) ?_
          refine ⟨by kernel_rfl, ?_⟩
          exact ⟨tup_line (paT_6_001 e hfn hq hr), _, rfl⟩
        · have hr : rel = false := hr
          refine WpC.dr tabOkF mixed 1 ?_
          refine ⟨fun _ => ?_, ?_⟩
          · show ([83, 87, 80] : List UInt8).length + (endF sz [66] [72] [87] []).length ≤ 9223372036854775807
            simp only [List.length_append, List.length_cons, List.length_nil]; omega
          refine OpD.callG [0, 1] rfl rfl rfl rfl rfl rfl (r := .s (nmF (regsL 3) a)) (fun _ H1 hH => Ctr.spread (lname_ok [88, 48] [88, 49] [88, 50] [88, 51] [88, 52] [88, 53] [88, 54] [88, 55] [35] 103 104 a) (fun ρ => rfl) H1 [0, 1] rfl rfl ⟨hH 0 (by simp), hH 1 (by simp), trivial⟩ rfl) ?_
          refine OpD.callG [0, 1] rfl rfl rfl rfl rfl rfl (r := .s (nmF (regsL 3) dst)) (fun _ H1 hH => Ctr.spread (lname_ok [88, 48] [88, 49] [88, 50] [88, 51] [88, 52] [88, 53] [88, 54] [88, 55] [35] 103 104 dst) (fun ρ => rfl) H1 [0, 1] rfl rfl ⟨hH 0 (by simp), hH 1 (by simp), trivial⟩ rfl) ?_
          refine OpD.callG [0, 1] rfl rfl rfl rfl rfl rfl (r := .s (atF (regsL 3) ⟨op, dst, a, b, imm, loc, off, ix, sz, fn, acq, wk, rel, pr, su, to, ze⟩)) (fun _ H1 hH => Ctr.spread (lat_ok [88, 48] [88, 49] [88, 50] [88, 51] [88, 52] [88, 53] [88, 54] [88, 55] [35] 103 104 (nm_len3 3) ⟨op, dst, a, b, imm, loc, off, ix, sz, fn, acq, wk, rel, pr, su, to, ze⟩ ha) (fun ρ => rfl) H1 [0, 1] rfl rfl ⟨hH 0 (by simp), hH 1 (by simp), trivial⟩ rfl) ?_
          refine OpD.callG [6] rfl rfl rfl rfl rfl rfl (r := .s (lineF (([83, 87, 80] : List UInt8) ++ (endF sz [66] [72] [87] [])) [nmF (regsL 3) a, nmF (regsL 3) dst, atF (regsL 3) ⟨op, dst, a, b, imm, loc, off, ix, sz, fn, acq, wk, rel, pr, su, to, ze⟩])) (fun _ H1 hH => Ctr.spread (line_ok (([83, 87, 80] : List UInt8) ++ (endF sz [66] [72] [87] [])) [nmF (regsL 3) a, nmF (regsL 3) dst, atF (regsL 3) ⟨op, dst, a, b, imm, loc, off, ix, sz, fn, acq, wk, rel, pr, su, to, ze⟩] 3 rfl (by decide) (by decide) (by rw [jn3]; have := nm_len3 3 a; have := nm_len3 3 dst; have := at_len (a := 3) ha; simp only [List.length_append, List.length_cons, List.length_nil]; omega) (by simp only [List.length_append, List.length_cons, List.length_nil]; omega)) (fun ρ => rfl) H1 [6] rfl rfl ⟨hH 6 (by simp), trivial⟩ rfl) ?_
          refine ⟨by kernel_rfl, ?_⟩
          exact ⟨tup_line (paT_6_000 e hfn hq hr), _, rfl⟩
  have n6 : decide (op = 6) = false := n6
  refine ⟨fun h7 => ?_, fun n7 => ?_⟩
  · have h7 : decide (op = 7) = true := h7
    have e : op = 7 := of_decide_eq_true h7
    obtain ⟨hp, hs, _⟩ := fm7 hf e
    have hp : pr = 1 ∨ pr = 2 ∨ pr = 3 := hp
    have hs : su = 1 ∨ su = 2 ∨ su = 3 := hs
    rcases hp with rfl | rfl | rfl <;> rcases hs with rfl | rfl | rfl
    · refine OpC.callG rfl rfl rfl rfl rfl rfl (r := .i .i64 (-1)) (fun _ => Ctr.spread (idxB_ok 1 1) (fun ρ => rfl) _ [5] rfl rfl ⟨rfl, trivial⟩ rfl) ?_
      refine ⟨fun h => absurd (show decide ((0 : Int) ≤ -1) = true from h) (by decide), fun _ => ?_⟩
      exact ⟨tup_none (paT_7n e (by decide)), _, rfl⟩
    · refine OpC.callG rfl rfl rfl rfl rfl rfl (r := .i .i64 (-1)) (fun _ => Ctr.spread (idxB_ok 1 2) (fun ρ => rfl) _ [5] rfl rfl ⟨rfl, trivial⟩ rfl) ?_
      refine ⟨fun h => absurd (show decide ((0 : Int) ≤ -1) = true from h) (by decide), fun _ => ?_⟩
      exact ⟨tup_none (paT_7n e (by decide)), _, rfl⟩
    · refine OpC.callG rfl rfl rfl rfl rfl rfl (r := .i .i64 (1)) (fun _ => Ctr.spread (idxB_ok 1 3) (fun ρ => rfl) _ [5] rfl rfl ⟨rfl, trivial⟩ rfl) ?_
      refine ⟨fun _ => ?_, fun h => absurd (show decide ((0 : Int) ≤ 1) = false from h) (by decide)⟩
      refine ⟨fun _ => by show (0 : Int) ≤ 1 ∧ (1 : Int) < ((3 : Nat) : Int); decide, ?_⟩
      refine OpC.callG rfl rfl rfl rfl rfl rfl (fun _ => Ctr.spread (line_ok [68, 77, 66] [[76, 68]] 1 rfl (by decide) (by decide) (by decide) (by decide)) (fun ρ => rfl) _ [6] rfl rfl ⟨rfl, trivial⟩ rfl) ?_
      exact ⟨tup_line (paT_7ld e rfl rfl), _, rfl⟩
    · refine OpC.callG rfl rfl rfl rfl rfl rfl (r := .i .i64 (-1)) (fun _ => Ctr.spread (idxB_ok 2 1) (fun ρ => rfl) _ [5] rfl rfl ⟨rfl, trivial⟩ rfl) ?_
      refine ⟨fun h => absurd (show decide ((0 : Int) ≤ -1) = true from h) (by decide), fun _ => ?_⟩
      exact ⟨tup_none (paT_7n e (by decide)), _, rfl⟩
    · refine OpC.callG rfl rfl rfl rfl rfl rfl (r := .i .i64 (2)) (fun _ => Ctr.spread (idxB_ok 2 2) (fun ρ => rfl) _ [5] rfl rfl ⟨rfl, trivial⟩ rfl) ?_
      refine ⟨fun _ => ?_, fun h => absurd (show decide ((0 : Int) ≤ 2) = false from h) (by decide)⟩
      refine ⟨fun _ => by show (0 : Int) ≤ 2 ∧ (2 : Int) < ((3 : Nat) : Int); decide, ?_⟩
      refine OpC.callG rfl rfl rfl rfl rfl rfl (fun _ => Ctr.spread (line_ok [68, 77, 66] [[83, 84]] 1 rfl (by decide) (by decide) (by decide) (by decide)) (fun ρ => rfl) _ [6] rfl rfl ⟨rfl, trivial⟩ rfl) ?_
      exact ⟨tup_line (paT_7st e rfl rfl), _, rfl⟩
    · refine OpC.callG rfl rfl rfl rfl rfl rfl (r := .i .i64 (-1)) (fun _ => Ctr.spread (idxB_ok 2 3) (fun ρ => rfl) _ [5] rfl rfl ⟨rfl, trivial⟩ rfl) ?_
      refine ⟨fun h => absurd (show decide ((0 : Int) ≤ -1) = true from h) (by decide), fun _ => ?_⟩
      exact ⟨tup_none (paT_7n e (by decide)), _, rfl⟩
    · refine OpC.callG rfl rfl rfl rfl rfl rfl (r := .i .i64 (-1)) (fun _ => Ctr.spread (idxB_ok 3 1) (fun ρ => rfl) _ [5] rfl rfl ⟨rfl, trivial⟩ rfl) ?_
      refine ⟨fun h => absurd (show decide ((0 : Int) ≤ -1) = true from h) (by decide), fun _ => ?_⟩
      exact ⟨tup_none (paT_7n e (by decide)), _, rfl⟩
    · refine OpC.callG rfl rfl rfl rfl rfl rfl (r := .i .i64 (-1)) (fun _ => Ctr.spread (idxB_ok 3 2) (fun ρ => rfl) _ [5] rfl rfl ⟨rfl, trivial⟩ rfl) ?_
      refine ⟨fun h => absurd (show decide ((0 : Int) ≤ -1) = true from h) (by decide), fun _ => ?_⟩
      exact ⟨tup_none (paT_7n e (by decide)), _, rfl⟩
    · refine OpC.callG rfl rfl rfl rfl rfl rfl (r := .i .i64 (0)) (fun _ => Ctr.spread (idxB_ok 3 3) (fun ρ => rfl) _ [5] rfl rfl ⟨rfl, trivial⟩ rfl) ?_
      refine ⟨fun _ => ?_, fun h => absurd (show decide ((0 : Int) ≤ 0) = false from h) (by decide)⟩
      refine ⟨fun _ => by show (0 : Int) ≤ 0 ∧ (0 : Int) < ((3 : Nat) : Int); decide, ?_⟩
      refine OpC.callG rfl rfl rfl rfl rfl rfl (fun _ => Ctr.spread (line_ok [68, 77, 66] [[83, 89]] 1 rfl (by decide) (by decide) (by decide) (by decide)) (fun ρ => rfl) _ [6] rfl rfl ⟨rfl, trivial⟩ rfl) ?_
      exact ⟨tup_line (paT_7sy e rfl rfl), _, rfl⟩
  have n7 : decide (op = 7) = false := n7
  refine ⟨fun h8 => ?_, fun n8 => ?_⟩
  · have h8 : decide (op = 8) = true := h8
    have e : op = 8 := of_decide_eq_true h8
    exact ⟨tup_word (paT_8 e) (by decide), _, rfl⟩
  have n8 : decide (op = 8) = false := n8
  refine ⟨fun h9 => ?_, fun n9 => ?_⟩
  · have h9 : (decide (op = 9) && ze) = true := h9
    have e : op = 9 := by simp at h9; exact h9.1
    have hz : ze = true := by simp at h9; exact h9.2
    refine OpC.callG rfl rfl rfl rfl rfl rfl (fun _ => Ctr.spread (lname_ok [88, 48] [88, 49] [88, 50] [88, 51] [88, 52] [88, 53] [88, 54] [88, 55] [35] 103 104 a) (fun ρ => rfl) _ [0, 1] rfl rfl ⟨rfl, rfl, trivial⟩ rfl) ?_
    refine OpC.callG rfl rfl rfl rfl rfl rfl (fun _ => Ctr.spread (line_ok [67, 66, 90] [nmF (regsL 3) a, lb] 2 rfl (by decide) (by decide) (by rw [jn2]; have := nm_len3 3 a; simp only [List.length_append, List.length_cons, List.length_nil]; omega) (by decide)) (fun ρ => rfl) _ [6] rfl rfl ⟨rfl, trivial⟩ rfl) ?_
    exact ⟨tup_line (paT_9z e hz), _, rfl⟩
  have n9 : (decide (op = 9) && ze) = false := n9
  refine ⟨fun h90 => ?_, fun n90 => ?_⟩
  · have h90 : decide (op = 9) = true := h90
    have e : op = 9 := of_decide_eq_true h90
    have hz : ze = false := by rw [decide_eq_true e] at n9; simpa using n9
    refine OpC.callG rfl rfl rfl rfl rfl rfl (fun _ => Ctr.spread (lname_ok [88, 48] [88, 49] [88, 50] [88, 51] [88, 52] [88, 53] [88, 54] [88, 55] [35] 103 104 a) (fun ρ => rfl) _ [0, 1] rfl rfl ⟨rfl, rfl, trivial⟩ rfl) ?_
    refine OpC.callG rfl rfl rfl rfl rfl rfl (fun _ => Ctr.spread (line_ok [67, 66, 78, 90] [nmF (regsL 3) a, lb] 2 rfl (by decide) (by decide) (by rw [jn2]; have := nm_len3 3 a; simp only [List.length_append, List.length_cons, List.length_nil]; omega) (by decide)) (fun ρ => rfl) _ [6] rfl rfl ⟨rfl, trivial⟩ rfl) ?_
    exact ⟨tup_line (paT_9n e hz), _, rfl⟩
  have n90 : decide (op = 9) = false := n90
  refine ⟨tup_none (paT_0 ?_), _, rfl⟩
  have e1 := of_decide_eq_false n1; have e2 := of_decide_eq_false n2; have e3 := of_decide_eq_false n3; have e4 := of_decide_eq_false n4; have e6 := of_decide_eq_false n6; have e7 := of_decide_eq_false n7; have e8 := of_decide_eq_false n8; have e9 := of_decide_eq_false n90
  refine ⟨e1, e2, e3, e4, e6, e7, e8, e9, fun e => ?_⟩
  rw [decide_eq_true e] at n5
  have n5 : decide (0 ≤ a) = false := n5
  have := of_decide_eq_false n5; omega
end SX
end Go.Proofs.YthkedcneehdinaaGreatDoor

/- What a writer of instructions answers. -/
set_option linter.unusedVariables false
set_option maxRecDepth 100000
namespace Go.Proofs.YthkedcneehdinaaGreatDoor
namespace SX
open Go Go.Proofs
theorem rgt_no {i : In} {lo hi : Int} (h : formP i = false) : rgtF i lo hi = 34 := by unfold rgtF; rw [h]; rfl
theorem rgt_yes {i : In} {lo hi : Int} (h : formP i = true) : rgtF i lo hi = if toX i lo hi = true then 35 else 0 := by unfold rgtF; rw [h]; rfl
/-- What is answered: a text, an error's number. -/
def ansF (i : In) (lb t : List UInt8) : SV :=
  if formP i = false then .tup [.s [], .i .i64 34] else if t = [] then .tup [.s [], .i .i64 36] else if i.op = 9 ∧ namedF lb = false then .tup [.s [], .i .i64 37] else .tup [.s t, .i .i64 0]
theorem ansF_any {p : SV → Prop} {i : In} {lb t : List UInt8} (h : ∀ (x : List UInt8) (n : Int), p (.tup [.s x, .i .i64 n])) : p (ansF i lb t) := by
  unfold ansF
  split
  · exact h _ _
  · split
    · exact h _ _
    · split <;> exact h _ _
end SX
end Go.Proofs.YthkedcneehdinaaGreatDoor

/- arm.Print, with its text told. Printed by vpx.py. -/
set_option linter.unusedVariables false
set_option maxRecDepth 100000
namespace Go.Proofs.YthkedcneehdinaaGreatDoor
namespace SX
open Go Go.Proofs
set_option maxHeartbeats 1000000 in
theorem Atext_ok (i : In) (lb t : List UInt8) (hb : formP i = true → AOne i lb t) : Ctr Tryz.prog 38 [.ptr 1 1 0 [], .agg (ienc i), .s lb] AH (fun r h' => r = ansF i lb t ∧ h' = AH) := by
  refine Ctr.enterG tabOkF (fn := Tryz.f38) rfl rfl rfl rfl rfl (ansF_any fun _ _ => rfl) bndLang ?_
  refine OpC.callV rfl rfl rfl rfl rfl rfl rfl (fun _ => uright_ok i 0 1) ?_
  unfold ansF
  cases hf : formP i with
  | false =>
    refine ⟨fun _ => ⟨rfl, _, rfl⟩, fun h => absurd (rgt_no hf) (of_decide_eq_false h)⟩
  | true =>
    have hb := hb hf
    refine ⟨fun h => ?_, fun _ => ?_⟩
    · have h : rgtF i 0 1 = 34 := of_decide_eq_true h
      rw [rgt_yes hf] at h
      split at h <;> omega
    refine WpC.dr tabOkF mixed 0 ?_
    refine OpD.callG [0, 1] rfl rfl rfl rfl rfl rfl (r := .tup [.s t, .b (!decide (t = []))]) (fun _ H1 hH => Ctr.spread hb (fun ρ => rfl) H1 [0, 1] rfl rfl ⟨hH 0 (by simp), hH 1 (by simp), trivial⟩ rfl) ?_
    refine ⟨by kernel_rfl, ?_⟩
    rw [if_neg (by decide)]
    refine ⟨fun h => ?_, fun h => ?_⟩
    · have h : (!(!decide (t = []))) = true := h
      have h : t = [] := by simpa using h
      rw [if_pos h]
      exact ⟨rfl, _, rfl⟩
    · have h : (!(!decide (t = []))) = false := h
      have h : ¬ t = [] := by simpa using h
      rw [if_neg h]
      refine OpC.callV rfl rfl rfl rfl rfl rfl rfl (fun _ => named_ok lb) ?_
      refine ⟨fun h2 => ?_, fun h2 => ?_⟩
      · have h2 : (decide (i.op = 9) && !namedF lb) = true := h2
        rw [if_pos (by simpa using h2)]
        exact ⟨rfl, _, rfl⟩
      · have h2 : (decide (i.op = 9) && !namedF lb) = false := h2
        rw [if_neg (by intro hh; rw [hh.2, decide_eq_true hh.1] at h2; cases h2)]
        exact ⟨rfl, _, rfl⟩
theorem armPrint_ok (i : In) (lb t : List UInt8) (hb : formP i = true → AOne i lb t) : CtrV Tryz.prog 26 [.agg (ienc i), .s lb] (ansF i lb t) := by
  have ht := Atext_ok i lb t hb
  obtain ⟨x, n, hx⟩ : ∃ x n, ansF i lb t = .tup [.s x, .i .i64 n] := ansF_any (p := fun r => ∃ x n, r = .tup [.s x, .i .i64 n]) fun x n => ⟨x, n, rfl⟩
  rw [hx] at ht ⊢
  refine Ctr.enterV tabOkF (fn := Tryz.f26) rfl rfl rfl rfl rfl rfl ?_
  refine WpC.dr tabOkF mixed 2 ?_
  refine OpD.callL rfl rfl rfl rfl [] 2 rfl rfl arm_lang rfl rfl rfl rfl trivial rfl rfl ?_
  refine OpD.callG [1, 2] rfl rfl rfl rfl rfl rfl (r := .tup [.s x, .i .i64 n]) (fun _ H1 hH => Ctr.spread ht (fun ρ => rfl) H1 [1, 2] rfl rfl ⟨hH 1 (by simp), hH 2 (by simp), trivial⟩ rfl) ?_
  refine ⟨by kernel_rfl, ?_⟩
  exact rfl
theorem armPrintT (i : In) (lb : List UInt8) (hi : in64 i.imm) (hl : lb.length ≤ 90000) : CtrV Tryz.prog 26 [.agg (ienc i), .s lb] (ansF i lb (paT i lb)) := armPrint_ok i lb (paT i lb) fun h => arm_one i lb h hi hl
end SX
end Go.Proofs.YthkedcneehdinaaGreatDoor

/- The reference's texts of instructions, machine 3. Printed by rfv.py. -/
set_option linter.unusedVariables false
set_option linter.unusedSimpArgs false
set_option maxRecDepth 100000
namespace Go.Proofs.YthkedcneehdinaaGreatDoor
namespace SX
open Go Go.Proofs
set_option maxHeartbeats 2000000 in
theorem Armw_ok (op dst a b imm loc off ix sz fn pr su to : Int) (acq wk rel ze : Bool) (lb t m : List UInt8) (htl : t.length ≤ 1) (hml : m.length ≤ 40) (ht : t = szT 3 sz) (hm : m = atF (regsL 3) ⟨op, dst, a, b, imm, loc, off, ix, sz, fn, acq, wk, rel, pr, su, to, ze⟩) (e : op = 6) : CtrV Tryz.prog 166 [.i .i64 3, .agg (ienc ⟨op, dst, a, b, imm, loc, off, ix, sz, fn, acq, wk, rel, pr, su, to, ze⟩), .s (nameF 3 dst), .s (nameF 3 a), .s t, .s m] (.s (paT ⟨op, dst, a, b, imm, loc, off, ix, sz, fn, acq, wk, rel, pr, su, to, ze⟩ lb)) := by
  have hdl : (nameF 3 dst).length ≤ 3 := nameF_len 3 dst
  have hal : (nameF 3 a).length ≤ 3 := nameF_len 3 a
  refine Ctr.enterV tabOkF (fn := Tryz.f166) rfl rfl rfl rfl rfl rfl ?_
  refine ⟨fun h => no_ft h, fun _ => ?_⟩
  refine ⟨fun h => no_ft h, fun _ => ?_⟩
  refine ⟨fun hfn => ?_, fun hfn => ?_⟩
  · have hfn : fn = 1 := of_decide_eq_true hfn
    refine ⟨fun hq => ?_, fun hq => ?_⟩
    · have hq : acq = true := hq
      refine ⟨fun _ => by show (([76, 68, 65, 68, 68] : List UInt8)).length + (([65] : List UInt8)).length ≤ 9223372036854775807; simp only [List.length_append, List.length_cons, List.length_nil]; omega, ?_⟩
      refine ⟨fun hr => ?_, fun hr => ?_⟩
      · have hr : rel = true := hr
        refine ⟨fun _ => by show ((([76, 68, 65, 68, 68] : List UInt8) ++ ([65] : List UInt8))).length + (([76] : List UInt8)).length ≤ 9223372036854775807; simp only [List.length_append, List.length_cons, List.length_nil]; omega, ?_⟩
        refine ⟨fun _ => by show (((([76, 68, 65, 68, 68] : List UInt8) ++ ([65] : List UInt8)) ++ ([76] : List UInt8))).length + (t).length ≤ 9223372036854775807; simp only [List.length_append, List.length_cons, List.length_nil]; omega, ?_⟩
        refine ⟨fun _ => by show ((((([76, 68, 65, 68, 68] : List UInt8) ++ ([65] : List UInt8)) ++ ([76] : List UInt8)) ++ t)).length + (([32] : List UInt8)).length ≤ 9223372036854775807; simp only [List.length_append, List.length_cons, List.length_nil]; omega, ?_⟩
        refine ⟨fun _ => by show (((((([76, 68, 65, 68, 68] : List UInt8) ++ ([65] : List UInt8)) ++ ([76] : List UInt8)) ++ t) ++ ([32] : List UInt8))).length + (nameF 3 a).length ≤ 9223372036854775807; simp only [List.length_append, List.length_cons, List.length_nil]; omega, ?_⟩
        refine ⟨fun _ => by show ((((((([76, 68, 65, 68, 68] : List UInt8) ++ ([65] : List UInt8)) ++ ([76] : List UInt8)) ++ t) ++ ([32] : List UInt8)) ++ nameF 3 a)).length + (([44] : List UInt8)).length ≤ 9223372036854775807; simp only [List.length_append, List.length_cons, List.length_nil]; omega, ?_⟩
        refine ⟨fun _ => by show (((((((([76, 68, 65, 68, 68] : List UInt8) ++ ([65] : List UInt8)) ++ ([76] : List UInt8)) ++ t) ++ ([32] : List UInt8)) ++ nameF 3 a) ++ ([44] : List UInt8))).length + (nameF 3 dst).length ≤ 9223372036854775807; simp only [List.length_append, List.length_cons, List.length_nil]; omega, ?_⟩
        refine ⟨fun _ => by show ((((((((([76, 68, 65, 68, 68] : List UInt8) ++ ([65] : List UInt8)) ++ ([76] : List UInt8)) ++ t) ++ ([32] : List UInt8)) ++ nameF 3 a) ++ ([44] : List UInt8)) ++ nameF 3 dst)).length + (([44] : List UInt8)).length ≤ 9223372036854775807; simp only [List.length_append, List.length_cons, List.length_nil]; omega, ?_⟩
        refine ⟨fun _ => by show (((((((((([76, 68, 65, 68, 68] : List UInt8) ++ ([65] : List UInt8)) ++ ([76] : List UInt8)) ++ t) ++ ([32] : List UInt8)) ++ nameF 3 a) ++ ([44] : List UInt8)) ++ nameF 3 dst) ++ ([44] : List UInt8))).length + (m).length ≤ 9223372036854775807; simp only [List.length_append, List.length_cons, List.length_nil]; omega, ?_⟩
        subst ht; subst hm
        refine s_cg (Eq.trans ?_ (paT_6_111 e hfn hq hr).symm)
        simp [lineF, jn3, nm_name]
      · have hr : rel = false := hr
        refine ⟨fun _ => by show ((([76, 68, 65, 68, 68] : List UInt8) ++ ([65] : List UInt8))).length + (t).length ≤ 9223372036854775807; simp only [List.length_append, List.length_cons, List.length_nil]; omega, ?_⟩
        refine ⟨fun _ => by show (((([76, 68, 65, 68, 68] : List UInt8) ++ ([65] : List UInt8)) ++ t)).length + (([32] : List UInt8)).length ≤ 9223372036854775807; simp only [List.length_append, List.length_cons, List.length_nil]; omega, ?_⟩
        refine ⟨fun _ => by show ((((([76, 68, 65, 68, 68] : List UInt8) ++ ([65] : List UInt8)) ++ t) ++ ([32] : List UInt8))).length + (nameF 3 a).length ≤ 9223372036854775807; simp only [List.length_append, List.length_cons, List.length_nil]; omega, ?_⟩
        refine ⟨fun _ => by show (((((([76, 68, 65, 68, 68] : List UInt8) ++ ([65] : List UInt8)) ++ t) ++ ([32] : List UInt8)) ++ nameF 3 a)).length + (([44] : List UInt8)).length ≤ 9223372036854775807; simp only [List.length_append, List.length_cons, List.length_nil]; omega, ?_⟩
        refine ⟨fun _ => by show ((((((([76, 68, 65, 68, 68] : List UInt8) ++ ([65] : List UInt8)) ++ t) ++ ([32] : List UInt8)) ++ nameF 3 a) ++ ([44] : List UInt8))).length + (nameF 3 dst).length ≤ 9223372036854775807; simp only [List.length_append, List.length_cons, List.length_nil]; omega, ?_⟩
        refine ⟨fun _ => by show (((((((([76, 68, 65, 68, 68] : List UInt8) ++ ([65] : List UInt8)) ++ t) ++ ([32] : List UInt8)) ++ nameF 3 a) ++ ([44] : List UInt8)) ++ nameF 3 dst)).length + (([44] : List UInt8)).length ≤ 9223372036854775807; simp only [List.length_append, List.length_cons, List.length_nil]; omega, ?_⟩
        refine ⟨fun _ => by show ((((((((([76, 68, 65, 68, 68] : List UInt8) ++ ([65] : List UInt8)) ++ t) ++ ([32] : List UInt8)) ++ nameF 3 a) ++ ([44] : List UInt8)) ++ nameF 3 dst) ++ ([44] : List UInt8))).length + (m).length ≤ 9223372036854775807; simp only [List.length_append, List.length_cons, List.length_nil]; omega, ?_⟩
        subst ht; subst hm
        refine s_cg (Eq.trans ?_ (paT_6_110 e hfn hq hr).symm)
        simp [lineF, jn3, nm_name]
    · have hq : acq = false := hq
      refine ⟨fun hr => ?_, fun hr => ?_⟩
      · have hr : rel = true := hr
        refine ⟨fun _ => by show (([76, 68, 65, 68, 68] : List UInt8)).length + (([76] : List UInt8)).length ≤ 9223372036854775807; simp only [List.length_append, List.length_cons, List.length_nil]; omega, ?_⟩
        refine ⟨fun _ => by show ((([76, 68, 65, 68, 68] : List UInt8) ++ ([76] : List UInt8))).length + (t).length ≤ 9223372036854775807; simp only [List.length_append, List.length_cons, List.length_nil]; omega, ?_⟩
        refine ⟨fun _ => by show (((([76, 68, 65, 68, 68] : List UInt8) ++ ([76] : List UInt8)) ++ t)).length + (([32] : List UInt8)).length ≤ 9223372036854775807; simp only [List.length_append, List.length_cons, List.length_nil]; omega, ?_⟩
        refine ⟨fun _ => by show ((((([76, 68, 65, 68, 68] : List UInt8) ++ ([76] : List UInt8)) ++ t) ++ ([32] : List UInt8))).length + (nameF 3 a).length ≤ 9223372036854775807; simp only [List.length_append, List.length_cons, List.length_nil]; omega, ?_⟩
        refine ⟨fun _ => by show (((((([76, 68, 65, 68, 68] : List UInt8) ++ ([76] : List UInt8)) ++ t) ++ ([32] : List UInt8)) ++ nameF 3 a)).length + (([44] : List UInt8)).length ≤ 9223372036854775807; simp only [List.length_append, List.length_cons, List.length_nil]; omega, ?_⟩
        refine ⟨fun _ => by show ((((((([76, 68, 65, 68, 68] : List UInt8) ++ ([76] : List UInt8)) ++ t) ++ ([32] : List UInt8)) ++ nameF 3 a) ++ ([44] : List UInt8))).length + (nameF 3 dst).length ≤ 9223372036854775807; simp only [List.length_append, List.length_cons, List.length_nil]; omega, ?_⟩
        refine ⟨fun _ => by show (((((((([76, 68, 65, 68, 68] : List UInt8) ++ ([76] : List UInt8)) ++ t) ++ ([32] : List UInt8)) ++ nameF 3 a) ++ ([44] : List UInt8)) ++ nameF 3 dst)).length + (([44] : List UInt8)).length ≤ 9223372036854775807; simp only [List.length_append, List.length_cons, List.length_nil]; omega, ?_⟩
        refine ⟨fun _ => by show ((((((((([76, 68, 65, 68, 68] : List UInt8) ++ ([76] : List UInt8)) ++ t) ++ ([32] : List UInt8)) ++ nameF 3 a) ++ ([44] : List UInt8)) ++ nameF 3 dst) ++ ([44] : List UInt8))).length + (m).length ≤ 9223372036854775807; simp only [List.length_append, List.length_cons, List.length_nil]; omega, ?_⟩
        subst ht; subst hm
        refine s_cg (Eq.trans ?_ (paT_6_101 e hfn hq hr).symm)
        simp [lineF, jn3, nm_name]
      · have hr : rel = false := hr
        refine ⟨fun _ => by show (([76, 68, 65, 68, 68] : List UInt8)).length + (t).length ≤ 9223372036854775807; simp only [List.length_append, List.length_cons, List.length_nil]; omega, ?_⟩
        refine ⟨fun _ => by show ((([76, 68, 65, 68, 68] : List UInt8) ++ t)).length + (([32] : List UInt8)).length ≤ 9223372036854775807; simp only [List.length_append, List.length_cons, List.length_nil]; omega, ?_⟩
        refine ⟨fun _ => by show (((([76, 68, 65, 68, 68] : List UInt8) ++ t) ++ ([32] : List UInt8))).length + (nameF 3 a).length ≤ 9223372036854775807; simp only [List.length_append, List.length_cons, List.length_nil]; omega, ?_⟩
        refine ⟨fun _ => by show ((((([76, 68, 65, 68, 68] : List UInt8) ++ t) ++ ([32] : List UInt8)) ++ nameF 3 a)).length + (([44] : List UInt8)).length ≤ 9223372036854775807; simp only [List.length_append, List.length_cons, List.length_nil]; omega, ?_⟩
        refine ⟨fun _ => by show (((((([76, 68, 65, 68, 68] : List UInt8) ++ t) ++ ([32] : List UInt8)) ++ nameF 3 a) ++ ([44] : List UInt8))).length + (nameF 3 dst).length ≤ 9223372036854775807; simp only [List.length_append, List.length_cons, List.length_nil]; omega, ?_⟩
        refine ⟨fun _ => by show ((((((([76, 68, 65, 68, 68] : List UInt8) ++ t) ++ ([32] : List UInt8)) ++ nameF 3 a) ++ ([44] : List UInt8)) ++ nameF 3 dst)).length + (([44] : List UInt8)).length ≤ 9223372036854775807; simp only [List.length_append, List.length_cons, List.length_nil]; omega, ?_⟩
        refine ⟨fun _ => by show (((((((([76, 68, 65, 68, 68] : List UInt8) ++ t) ++ ([32] : List UInt8)) ++ nameF 3 a) ++ ([44] : List UInt8)) ++ nameF 3 dst) ++ ([44] : List UInt8))).length + (m).length ≤ 9223372036854775807; simp only [List.length_append, List.length_cons, List.length_nil]; omega, ?_⟩
        subst ht; subst hm
        refine s_cg (Eq.trans ?_ (paT_6_100 e hfn hq hr).symm)
        simp [lineF, jn3, nm_name]
  · have hfn : ¬ fn = 1 := of_decide_eq_false hfn
    refine ⟨fun hq => ?_, fun hq => ?_⟩
    · have hq : acq = true := hq
      refine ⟨fun _ => by show (([83, 87, 80] : List UInt8)).length + (([65] : List UInt8)).length ≤ 9223372036854775807; simp only [List.length_append, List.length_cons, List.length_nil]; omega, ?_⟩
      refine ⟨fun hr => ?_, fun hr => ?_⟩
      · have hr : rel = true := hr
        refine ⟨fun _ => by show ((([83, 87, 80] : List UInt8) ++ ([65] : List UInt8))).length + (([76] : List UInt8)).length ≤ 9223372036854775807; simp only [List.length_append, List.length_cons, List.length_nil]; omega, ?_⟩
        refine ⟨fun _ => by show (((([83, 87, 80] : List UInt8) ++ ([65] : List UInt8)) ++ ([76] : List UInt8))).length + (t).length ≤ 9223372036854775807; simp only [List.length_append, List.length_cons, List.length_nil]; omega, ?_⟩
        refine ⟨fun _ => by show ((((([83, 87, 80] : List UInt8) ++ ([65] : List UInt8)) ++ ([76] : List UInt8)) ++ t)).length + (([32] : List UInt8)).length ≤ 9223372036854775807; simp only [List.length_append, List.length_cons, List.length_nil]; omega, ?_⟩
        refine ⟨fun _ => by show (((((([83, 87, 80] : List UInt8) ++ ([65] : List UInt8)) ++ ([76] : List UInt8)) ++ t) ++ ([32] : List UInt8))).length + (nameF 3 a).length ≤ 9223372036854775807; simp only [List.length_append, List.length_cons, List.length_nil]; omega, ?_⟩
        refine ⟨fun _ => by show ((((((([83, 87, 80] : List UInt8) ++ ([65] : List UInt8)) ++ ([76] : List UInt8)) ++ t) ++ ([32] : List UInt8)) ++ nameF 3 a)).length + (([44] : List UInt8)).length ≤ 9223372036854775807; simp only [List.length_append, List.length_cons, List.length_nil]; omega, ?_⟩
        refine ⟨fun _ => by show (((((((([83, 87, 80] : List UInt8) ++ ([65] : List UInt8)) ++ ([76] : List UInt8)) ++ t) ++ ([32] : List UInt8)) ++ nameF 3 a) ++ ([44] : List UInt8))).length + (nameF 3 dst).length ≤ 9223372036854775807; simp only [List.length_append, List.length_cons, List.length_nil]; omega, ?_⟩
        refine ⟨fun _ => by show ((((((((([83, 87, 80] : List UInt8) ++ ([65] : List UInt8)) ++ ([76] : List UInt8)) ++ t) ++ ([32] : List UInt8)) ++ nameF 3 a) ++ ([44] : List UInt8)) ++ nameF 3 dst)).length + (([44] : List UInt8)).length ≤ 9223372036854775807; simp only [List.length_append, List.length_cons, List.length_nil]; omega, ?_⟩
        refine ⟨fun _ => by show (((((((((([83, 87, 80] : List UInt8) ++ ([65] : List UInt8)) ++ ([76] : List UInt8)) ++ t) ++ ([32] : List UInt8)) ++ nameF 3 a) ++ ([44] : List UInt8)) ++ nameF 3 dst) ++ ([44] : List UInt8))).length + (m).length ≤ 9223372036854775807; simp only [List.length_append, List.length_cons, List.length_nil]; omega, ?_⟩
        subst ht; subst hm
        refine s_cg (Eq.trans ?_ (paT_6_011 e hfn hq hr).symm)
        simp [lineF, jn3, nm_name]
      · have hr : rel = false := hr
        refine ⟨fun _ => by show ((([83, 87, 80] : List UInt8) ++ ([65] : List UInt8))).length + (t).length ≤ 9223372036854775807; simp only [List.length_append, List.length_cons, List.length_nil]; omega, ?_⟩
        refine ⟨fun _ => by show (((([83, 87, 80] : List UInt8) ++ ([65] : List UInt8)) ++ t)).length + (([32] : List UInt8)).length ≤ 9223372036854775807; simp only [List.length_append, List.length_cons, List.length_nil]; omega, ?_⟩
        refine ⟨fun _ => by show ((((([83, 87, 80] : List UInt8) ++ ([65] : List UInt8)) ++ t) ++ ([32] : List UInt8))).length + (nameF 3 a).length ≤ 9223372036854775807; simp only [List.length_append, List.length_cons, List.length_nil]; omega, ?_⟩
        refine ⟨fun _ => by show (((((([83, 87, 80] : List UInt8) ++ ([65] : List UInt8)) ++ t) ++ ([32] : List UInt8)) ++ nameF 3 a)).length + (([44] : List UInt8)).length ≤ 9223372036854775807; simp only [List.length_append, List.length_cons, List.length_nil]; omega, ?_⟩
        refine ⟨fun _ => by show ((((((([83, 87, 80] : List UInt8) ++ ([65] : List UInt8)) ++ t) ++ ([32] : List UInt8)) ++ nameF 3 a) ++ ([44] : List UInt8))).length + (nameF 3 dst).length ≤ 9223372036854775807; simp only [List.length_append, List.length_cons, List.length_nil]; omega, ?_⟩
        refine ⟨fun _ => by show (((((((([83, 87, 80] : List UInt8) ++ ([65] : List UInt8)) ++ t) ++ ([32] : List UInt8)) ++ nameF 3 a) ++ ([44] : List UInt8)) ++ nameF 3 dst)).length + (([44] : List UInt8)).length ≤ 9223372036854775807; simp only [List.length_append, List.length_cons, List.length_nil]; omega, ?_⟩
        refine ⟨fun _ => by show ((((((((([83, 87, 80] : List UInt8) ++ ([65] : List UInt8)) ++ t) ++ ([32] : List UInt8)) ++ nameF 3 a) ++ ([44] : List UInt8)) ++ nameF 3 dst) ++ ([44] : List UInt8))).length + (m).length ≤ 9223372036854775807; simp only [List.length_append, List.length_cons, List.length_nil]; omega, ?_⟩
        subst ht; subst hm
        refine s_cg (Eq.trans ?_ (paT_6_010 e hfn hq hr).symm)
        simp [lineF, jn3, nm_name]
    · have hq : acq = false := hq
      refine ⟨fun hr => ?_, fun hr => ?_⟩
      · have hr : rel = true := hr
        refine ⟨fun _ => by show (([83, 87, 80] : List UInt8)).length + (([76] : List UInt8)).length ≤ 9223372036854775807; simp only [List.length_append, List.length_cons, List.length_nil]; omega, ?_⟩
        refine ⟨fun _ => by show ((([83, 87, 80] : List UInt8) ++ ([76] : List UInt8))).length + (t).length ≤ 9223372036854775807; simp only [List.length_append, List.length_cons, List.length_nil]; omega, ?_⟩
        refine ⟨fun _ => by show (((([83, 87, 80] : List UInt8) ++ ([76] : List UInt8)) ++ t)).length + (([32] : List UInt8)).length ≤ 9223372036854775807; simp only [List.length_append, List.length_cons, List.length_nil]; omega, ?_⟩
        refine ⟨fun _ => by show ((((([83, 87, 80] : List UInt8) ++ ([76] : List UInt8)) ++ t) ++ ([32] : List UInt8))).length + (nameF 3 a).length ≤ 9223372036854775807; simp only [List.length_append, List.length_cons, List.length_nil]; omega, ?_⟩
        refine ⟨fun _ => by show (((((([83, 87, 80] : List UInt8) ++ ([76] : List UInt8)) ++ t) ++ ([32] : List UInt8)) ++ nameF 3 a)).length + (([44] : List UInt8)).length ≤ 9223372036854775807; simp only [List.length_append, List.length_cons, List.length_nil]; omega, ?_⟩
        refine ⟨fun _ => by show ((((((([83, 87, 80] : List UInt8) ++ ([76] : List UInt8)) ++ t) ++ ([32] : List UInt8)) ++ nameF 3 a) ++ ([44] : List UInt8))).length + (nameF 3 dst).length ≤ 9223372036854775807; simp only [List.length_append, List.length_cons, List.length_nil]; omega, ?_⟩
        refine ⟨fun _ => by show (((((((([83, 87, 80] : List UInt8) ++ ([76] : List UInt8)) ++ t) ++ ([32] : List UInt8)) ++ nameF 3 a) ++ ([44] : List UInt8)) ++ nameF 3 dst)).length + (([44] : List UInt8)).length ≤ 9223372036854775807; simp only [List.length_append, List.length_cons, List.length_nil]; omega, ?_⟩
        refine ⟨fun _ => by show ((((((((([83, 87, 80] : List UInt8) ++ ([76] : List UInt8)) ++ t) ++ ([32] : List UInt8)) ++ nameF 3 a) ++ ([44] : List UInt8)) ++ nameF 3 dst) ++ ([44] : List UInt8))).length + (m).length ≤ 9223372036854775807; simp only [List.length_append, List.length_cons, List.length_nil]; omega, ?_⟩
        subst ht; subst hm
        refine s_cg (Eq.trans ?_ (paT_6_001 e hfn hq hr).symm)
        simp [lineF, jn3, nm_name]
      · have hr : rel = false := hr
        refine ⟨fun _ => by show (([83, 87, 80] : List UInt8)).length + (t).length ≤ 9223372036854775807; simp only [List.length_append, List.length_cons, List.length_nil]; omega, ?_⟩
        refine ⟨fun _ => by show ((([83, 87, 80] : List UInt8) ++ t)).length + (([32] : List UInt8)).length ≤ 9223372036854775807; simp only [List.length_append, List.length_cons, List.length_nil]; omega, ?_⟩
        refine ⟨fun _ => by show (((([83, 87, 80] : List UInt8) ++ t) ++ ([32] : List UInt8))).length + (nameF 3 a).length ≤ 9223372036854775807; simp only [List.length_append, List.length_cons, List.length_nil]; omega, ?_⟩
        refine ⟨fun _ => by show ((((([83, 87, 80] : List UInt8) ++ t) ++ ([32] : List UInt8)) ++ nameF 3 a)).length + (([44] : List UInt8)).length ≤ 9223372036854775807; simp only [List.length_append, List.length_cons, List.length_nil]; omega, ?_⟩
        refine ⟨fun _ => by show (((((([83, 87, 80] : List UInt8) ++ t) ++ ([32] : List UInt8)) ++ nameF 3 a) ++ ([44] : List UInt8))).length + (nameF 3 dst).length ≤ 9223372036854775807; simp only [List.length_append, List.length_cons, List.length_nil]; omega, ?_⟩
        refine ⟨fun _ => by show ((((((([83, 87, 80] : List UInt8) ++ t) ++ ([32] : List UInt8)) ++ nameF 3 a) ++ ([44] : List UInt8)) ++ nameF 3 dst)).length + (([44] : List UInt8)).length ≤ 9223372036854775807; simp only [List.length_append, List.length_cons, List.length_nil]; omega, ?_⟩
        refine ⟨fun _ => by show (((((((([83, 87, 80] : List UInt8) ++ t) ++ ([32] : List UInt8)) ++ nameF 3 a) ++ ([44] : List UInt8)) ++ nameF 3 dst) ++ ([44] : List UInt8))).length + (m).length ≤ 9223372036854775807; simp only [List.length_append, List.length_cons, List.length_nil]; omega, ?_⟩
        subst ht; subst hm
        refine s_cg (Eq.trans ?_ (paT_6_000 e hfn hq hr).symm)
        simp [lineF, jn3, nm_name]
set_option maxHeartbeats 2000000 in
theorem Aacc_ok (i : In) (lb : List UInt8) (hf : formP i = true) (hop : i.op = 4 ∨ i.op = 5 ∨ i.op = 6) : CtrV Tryz.prog 100 [.i .i64 3, .agg (ienc i), .s (nameF 3 i.dst), .s (nameF 3 i.a)] (.s (paT i lb)) := by
  have ha : accB i = true := by
    rcases hop with e | e | e
    · exact (fm4 hf e).2.1
    · exact (fm5 hf e).1
    · exact (fm6 hf e).2.2.1
  obtain ⟨op, dst, a, b, imm, loc, off, ix, sz, fn, acq, wk, rel, pr, su, to, ze⟩ := i
  have hop : op = 4 ∨ op = 5 ∨ op = 6 := hop
  have hdl : (nameF 3 dst).length ≤ 3 := nameF_len 3 dst
  have hal : (nameF 3 a).length ≤ 3 := nameF_len 3 a
  obtain ⟨_, _, _, hz⟩ := accB_ok ha
  have hsl := sz_len 3 sz
  have hml := at_len (a := 3) ha
  refine Ctr.enterV tabOkF (fn := Tryz.f100) rfl rfl rfl rfl rfl rfl ?_
  refine OpC.callV rfl rfl rfl rfl rfl rfl rfl (fun _ => tail5_ok 3 sz (by decide) hz) ?_
  refine OpC.callV rfl rfl rfl rfl rfl rfl rfl (fun _ => mem5_ok 3 ⟨op, dst, a, b, imm, loc, off, ix, sz, fn, acq, wk, rel, pr, su, to, ze⟩ ha) ?_
  refine ⟨fun h1 => ?_, fun n1 => ?_⟩
  · have h1 : (decide (op = 4) && decide ((3 : Int) = 3)) = true := h1
    have e : op = 4 := by simp at h1; exact h1
    refine ⟨fun hq => ?_, fun hq => ?_⟩
    · have hq : acq = true := hq
      refine ⟨fun hw => ?_, fun hw => ?_⟩
      · have hw : wk = true := hw
        refine ⟨fun _ => by show (([76, 68, 65, 80, 82] : List UInt8)).length + (szT 3 sz).length ≤ 9223372036854775807; simp only [List.length_append, List.length_cons, List.length_nil]; omega, ?_⟩
        refine ⟨fun _ => by show ((([76, 68, 65, 80, 82] : List UInt8) ++ szT 3 sz)).length + (([32] : List UInt8)).length ≤ 9223372036854775807; simp only [List.length_append, List.length_cons, List.length_nil]; omega, ?_⟩
        refine ⟨fun _ => by show (((([76, 68, 65, 80, 82] : List UInt8) ++ szT 3 sz) ++ ([32] : List UInt8))).length + (nameF 3 dst).length ≤ 9223372036854775807; simp only [List.length_append, List.length_cons, List.length_nil]; omega, ?_⟩
        refine ⟨fun _ => by show ((((([76, 68, 65, 80, 82] : List UInt8) ++ szT 3 sz) ++ ([32] : List UInt8)) ++ nameF 3 dst)).length + (([44] : List UInt8)).length ≤ 9223372036854775807; simp only [List.length_append, List.length_cons, List.length_nil]; omega, ?_⟩
        refine ⟨fun _ => by show (((((([76, 68, 65, 80, 82] : List UInt8) ++ szT 3 sz) ++ ([32] : List UInt8)) ++ nameF 3 dst) ++ ([44] : List UInt8))).length + (atF (regsL 3) ⟨op, dst, a, b, imm, loc, off, ix, sz, fn, acq, wk, rel, pr, su, to, ze⟩).length ≤ 9223372036854775807; simp only [List.length_append, List.length_cons, List.length_nil]; omega, ?_⟩
        refine s_cg (Eq.trans ?_ (paT_4w e hw).symm)
        show (((((([76, 68, 65, 80, 82] : List UInt8) ++ szT 3 sz) ++ ([32] : List UInt8)) ++ nameF 3 dst) ++ ([44] : List UInt8)) ++ atF (regsL 3) ⟨op, dst, a, b, imm, loc, off, ix, sz, fn, acq, wk, rel, pr, su, to, ze⟩) = _
        simp [lineF, jn1, jn2, jn3, regT, numT, orF, nm_name]
      · have hw : wk = false := hw
        refine ⟨fun _ => by show (([76, 68, 65, 82] : List UInt8)).length + (szT 3 sz).length ≤ 9223372036854775807; simp only [List.length_append, List.length_cons, List.length_nil]; omega, ?_⟩
        refine ⟨fun _ => by show ((([76, 68, 65, 82] : List UInt8) ++ szT 3 sz)).length + (([32] : List UInt8)).length ≤ 9223372036854775807; simp only [List.length_append, List.length_cons, List.length_nil]; omega, ?_⟩
        refine ⟨fun _ => by show (((([76, 68, 65, 82] : List UInt8) ++ szT 3 sz) ++ ([32] : List UInt8))).length + (nameF 3 dst).length ≤ 9223372036854775807; simp only [List.length_append, List.length_cons, List.length_nil]; omega, ?_⟩
        refine ⟨fun _ => by show ((((([76, 68, 65, 82] : List UInt8) ++ szT 3 sz) ++ ([32] : List UInt8)) ++ nameF 3 dst)).length + (([44] : List UInt8)).length ≤ 9223372036854775807; simp only [List.length_append, List.length_cons, List.length_nil]; omega, ?_⟩
        refine ⟨fun _ => by show (((((([76, 68, 65, 82] : List UInt8) ++ szT 3 sz) ++ ([32] : List UInt8)) ++ nameF 3 dst) ++ ([44] : List UInt8))).length + (atF (regsL 3) ⟨op, dst, a, b, imm, loc, off, ix, sz, fn, acq, wk, rel, pr, su, to, ze⟩).length ≤ 9223372036854775807; simp only [List.length_append, List.length_cons, List.length_nil]; omega, ?_⟩
        refine s_cg (Eq.trans ?_ (paT_4a e hw hq).symm)
        show (((((([76, 68, 65, 82] : List UInt8) ++ szT 3 sz) ++ ([32] : List UInt8)) ++ nameF 3 dst) ++ ([44] : List UInt8)) ++ atF (regsL 3) ⟨op, dst, a, b, imm, loc, off, ix, sz, fn, acq, wk, rel, pr, su, to, ze⟩) = _
        simp [lineF, jn1, jn2, jn3, regT, numT, orF, nm_name]
    · have hq : acq = false := hq
      refine ⟨fun hw => ?_, fun hw => ?_⟩
      · have hw : wk = true := hw
        refine ⟨fun _ => by show (([76, 68, 65, 80, 82] : List UInt8)).length + (szT 3 sz).length ≤ 9223372036854775807; simp only [List.length_append, List.length_cons, List.length_nil]; omega, ?_⟩
        refine ⟨fun _ => by show ((([76, 68, 65, 80, 82] : List UInt8) ++ szT 3 sz)).length + (([32] : List UInt8)).length ≤ 9223372036854775807; simp only [List.length_append, List.length_cons, List.length_nil]; omega, ?_⟩
        refine ⟨fun _ => by show (((([76, 68, 65, 80, 82] : List UInt8) ++ szT 3 sz) ++ ([32] : List UInt8))).length + (nameF 3 dst).length ≤ 9223372036854775807; simp only [List.length_append, List.length_cons, List.length_nil]; omega, ?_⟩
        refine ⟨fun _ => by show ((((([76, 68, 65, 80, 82] : List UInt8) ++ szT 3 sz) ++ ([32] : List UInt8)) ++ nameF 3 dst)).length + (([44] : List UInt8)).length ≤ 9223372036854775807; simp only [List.length_append, List.length_cons, List.length_nil]; omega, ?_⟩
        refine ⟨fun _ => by show (((((([76, 68, 65, 80, 82] : List UInt8) ++ szT 3 sz) ++ ([32] : List UInt8)) ++ nameF 3 dst) ++ ([44] : List UInt8))).length + (atF (regsL 3) ⟨op, dst, a, b, imm, loc, off, ix, sz, fn, acq, wk, rel, pr, su, to, ze⟩).length ≤ 9223372036854775807; simp only [List.length_append, List.length_cons, List.length_nil]; omega, ?_⟩
        refine s_cg (Eq.trans ?_ (paT_4w e hw).symm)
        show (((((([76, 68, 65, 80, 82] : List UInt8) ++ szT 3 sz) ++ ([32] : List UInt8)) ++ nameF 3 dst) ++ ([44] : List UInt8)) ++ atF (regsL 3) ⟨op, dst, a, b, imm, loc, off, ix, sz, fn, acq, wk, rel, pr, su, to, ze⟩) = _
        simp [lineF, jn1, jn2, jn3, regT, numT, orF, nm_name]
      · have hw : wk = false := hw
        refine ⟨fun _ => by show (([76, 68, 82] : List UInt8)).length + (szT 3 sz).length ≤ 9223372036854775807; simp only [List.length_append, List.length_cons, List.length_nil]; omega, ?_⟩
        refine ⟨fun _ => by show ((([76, 68, 82] : List UInt8) ++ szT 3 sz)).length + (([32] : List UInt8)).length ≤ 9223372036854775807; simp only [List.length_append, List.length_cons, List.length_nil]; omega, ?_⟩
        refine ⟨fun _ => by show (((([76, 68, 82] : List UInt8) ++ szT 3 sz) ++ ([32] : List UInt8))).length + (nameF 3 dst).length ≤ 9223372036854775807; simp only [List.length_append, List.length_cons, List.length_nil]; omega, ?_⟩
        refine ⟨fun _ => by show ((((([76, 68, 82] : List UInt8) ++ szT 3 sz) ++ ([32] : List UInt8)) ++ nameF 3 dst)).length + (([44] : List UInt8)).length ≤ 9223372036854775807; simp only [List.length_append, List.length_cons, List.length_nil]; omega, ?_⟩
        refine ⟨fun _ => by show (((((([76, 68, 82] : List UInt8) ++ szT 3 sz) ++ ([32] : List UInt8)) ++ nameF 3 dst) ++ ([44] : List UInt8))).length + (atF (regsL 3) ⟨op, dst, a, b, imm, loc, off, ix, sz, fn, acq, wk, rel, pr, su, to, ze⟩).length ≤ 9223372036854775807; simp only [List.length_append, List.length_cons, List.length_nil]; omega, ?_⟩
        refine s_cg (Eq.trans ?_ (paT_4n e hw hq).symm)
        show (((((([76, 68, 82] : List UInt8) ++ szT 3 sz) ++ ([32] : List UInt8)) ++ nameF 3 dst) ++ ([44] : List UInt8)) ++ atF (regsL 3) ⟨op, dst, a, b, imm, loc, off, ix, sz, fn, acq, wk, rel, pr, su, to, ze⟩) = _
        simp [lineF, jn1, jn2, jn3, regT, numT, orF, nm_name]
  have n1 : (decide (op = 4) && decide ((3 : Int) = 3)) = false := n1
  refine ⟨fun h2 => ?_, fun n2 => ?_⟩
  · have h2 : (decide (op = 4) && (acq || wk)) = true := h2
    exfalso; simp at h2; try simp_all
  have n2 : (decide (op = 4) && (acq || wk)) = false := n2
  refine ⟨fun h3 => ?_, fun n3 => ?_⟩
  · have h3 : (decide (op = 4) && decide ((3 : Int) = 2)) = true := h3
    exfalso; simp at h3; try simp_all
  have n3 : (decide (op = 4) && decide ((3 : Int) = 2)) = false := n3
  refine ⟨fun h4 => ?_, fun n4 => ?_⟩
  · have h4 : decide (op = 4) = true := h4
    exfalso; simp at h4; try simp_all
  have n4 : decide (op = 4) = false := n4
  refine ⟨fun h5 => ?_, fun n5 => ?_⟩
  · have h5 : (decide (op = 5) && decide ((3 : Int) = 1)) = true := h5
    exfalso; simp at h5; try simp_all
  have n5 : (decide (op = 5) && decide ((3 : Int) = 1)) = false := n5
  refine ⟨fun h6 => ?_, fun n6 => ?_⟩
  · have h6 : (decide (op = 5) && decide (a < 0)) = true := h6
    have e : op = 5 := by simp at h6; exact h6.1
    have hq : a < 0 := by simp at h6; exact h6.2
    exact s_cg (paT_5x e hq).symm
  have n6 : (decide (op = 5) && decide (a < 0)) = false := n6
  refine ⟨fun h7 => ?_, fun n7 => ?_⟩
  · have h7 : (decide (op = 5) && decide ((3 : Int) = 2)) = true := h7
    exfalso; simp at h7; try simp_all
  have n7 : (decide (op = 5) && decide ((3 : Int) = 2)) = false := n7
  refine ⟨fun h8 => ?_, fun n8 => ?_⟩
  · have h8 : decide (op = 5) = true := h8
    have e : op = 5 := of_decide_eq_true h8
    have hb : ¬ a < 0 := by rw [decide_eq_true e] at n6; simpa using n6
    refine ⟨fun hr => ?_, fun hr => ?_⟩
    · have hr : rel = true := hr
      refine ⟨fun _ => by show (([83, 84, 76, 82] : List UInt8)).length + (szT 3 sz).length ≤ 9223372036854775807; simp only [List.length_append, List.length_cons, List.length_nil]; omega, ?_⟩
      refine ⟨fun _ => by show ((([83, 84, 76, 82] : List UInt8) ++ szT 3 sz)).length + (([32] : List UInt8)).length ≤ 9223372036854775807; simp only [List.length_append, List.length_cons, List.length_nil]; omega, ?_⟩
      refine ⟨fun _ => by show (((([83, 84, 76, 82] : List UInt8) ++ szT 3 sz) ++ ([32] : List UInt8))).length + (nameF 3 a).length ≤ 9223372036854775807; simp only [List.length_append, List.length_cons, List.length_nil]; omega, ?_⟩
      refine ⟨fun _ => by show ((((([83, 84, 76, 82] : List UInt8) ++ szT 3 sz) ++ ([32] : List UInt8)) ++ nameF 3 a)).length + (([44] : List UInt8)).length ≤ 9223372036854775807; simp only [List.length_append, List.length_cons, List.length_nil]; omega, ?_⟩
      refine ⟨fun _ => by show (((((([83, 84, 76, 82] : List UInt8) ++ szT 3 sz) ++ ([32] : List UInt8)) ++ nameF 3 a) ++ ([44] : List UInt8))).length + (atF (regsL 3) ⟨op, dst, a, b, imm, loc, off, ix, sz, fn, acq, wk, rel, pr, su, to, ze⟩).length ≤ 9223372036854775807; simp only [List.length_append, List.length_cons, List.length_nil]; omega, ?_⟩
      refine s_cg (Eq.trans ?_ (paT_5r e hb hr).symm)
      show (((((([83, 84, 76, 82] : List UInt8) ++ szT 3 sz) ++ ([32] : List UInt8)) ++ nameF 3 a) ++ ([44] : List UInt8)) ++ atF (regsL 3) ⟨op, dst, a, b, imm, loc, off, ix, sz, fn, acq, wk, rel, pr, su, to, ze⟩) = _
      simp [lineF, jn1, jn2, jn3, regT, numT, orF, nm_name]
    · have hr : rel = false := hr
      refine ⟨fun _ => by show (([83, 84, 82] : List UInt8)).length + (szT 3 sz).length ≤ 9223372036854775807; simp only [List.length_append, List.length_cons, List.length_nil]; omega, ?_⟩
      refine ⟨fun _ => by show ((([83, 84, 82] : List UInt8) ++ szT 3 sz)).length + (([32] : List UInt8)).length ≤ 9223372036854775807; simp only [List.length_append, List.length_cons, List.length_nil]; omega, ?_⟩
      refine ⟨fun _ => by show (((([83, 84, 82] : List UInt8) ++ szT 3 sz) ++ ([32] : List UInt8))).length + (nameF 3 a).length ≤ 9223372036854775807; simp only [List.length_append, List.length_cons, List.length_nil]; omega, ?_⟩
      refine ⟨fun _ => by show ((((([83, 84, 82] : List UInt8) ++ szT 3 sz) ++ ([32] : List UInt8)) ++ nameF 3 a)).length + (([44] : List UInt8)).length ≤ 9223372036854775807; simp only [List.length_append, List.length_cons, List.length_nil]; omega, ?_⟩
      refine ⟨fun _ => by show (((((([83, 84, 82] : List UInt8) ++ szT 3 sz) ++ ([32] : List UInt8)) ++ nameF 3 a) ++ ([44] : List UInt8))).length + (atF (regsL 3) ⟨op, dst, a, b, imm, loc, off, ix, sz, fn, acq, wk, rel, pr, su, to, ze⟩).length ≤ 9223372036854775807; simp only [List.length_append, List.length_cons, List.length_nil]; omega, ?_⟩
      refine s_cg (Eq.trans ?_ (paT_5n e hb hr).symm)
      show (((((([83, 84, 82] : List UInt8) ++ szT 3 sz) ++ ([32] : List UInt8)) ++ nameF 3 a) ++ ([44] : List UInt8)) ++ atF (regsL 3) ⟨op, dst, a, b, imm, loc, off, ix, sz, fn, acq, wk, rel, pr, su, to, ze⟩) = _
      simp [lineF, jn1, jn2, jn3, regT, numT, orF, nm_name]
  have n8 : decide (op = 5) = false := n8
  have e : op = 6 := by
    rcases hop with e | e | e
    · exact absurd e (of_decide_eq_false n4)
    · exact absurd e (of_decide_eq_false n8)
    · exact e
  refine OpC.callV rfl rfl rfl rfl rfl rfl rfl (fun _ => Armw_ok op dst a b imm loc off ix sz fn pr su to acq wk rel ze lb _ _ hsl hml rfl rfl e) ?_
  exact rfl
set_option maxHeartbeats 2000000 in
theorem Afen_ok (i : In) (lb : List UInt8) (hf : formP i = true) (hop : i.op = 7 ∨ i.op = 8) : CtrV Tryz.prog 99 [.i .i64 3, .agg (ienc i)] (.s (paT i lb)) := by
  obtain ⟨op, dst, a, b, imm, loc, off, ix, sz, fn, acq, wk, rel, pr, su, to, ze⟩ := i
  have hop : op = 7 ∨ op = 8 := hop
  refine Ctr.enterV tabOkF (fn := Tryz.f99) rfl rfl rfl rfl rfl rfl ?_
  refine ⟨fun h1 => ?_, fun n1 => ?_⟩
  · have h1 : (decide (op = 8) && decide ((3 : Int) = 3)) = true := h1
    have e : op = 8 := by simp at h1; exact h1
    exact s_cg (paT_8 e).symm
  have n1 : (decide (op = 8) && decide ((3 : Int) = 3)) = false := n1
  refine ⟨fun h2 => ?_, fun n2 => ?_⟩
  · have h2 : decide (op = 8) = true := h2
    exfalso; simp at h2; try simp_all
  have n2 : decide (op = 8) = false := n2
  have e : op = 7 := hop.resolve_right (of_decide_eq_false n2)
  refine ⟨fun h => no_ft h, fun _ => ?_⟩
  refine ⟨fun h3 => ?_, fun n3 => ?_⟩
  · have h3 : ((decide ((3 : Int) = 1) && decide (pr = 3)) && decide (su = 3)) = true := h3
    exfalso; simp at h3; try simp_all
  have n3 : ((decide ((3 : Int) = 1) && decide (pr = 3)) && decide (su = 3)) = false := n3
  refine ⟨fun h4 => ?_, fun n4 => ?_⟩
  · have h4 : ((decide ((3 : Int) = 3) && decide (pr = 3)) && decide (su = 3)) = true := h4
    have hp : pr = 3 ∧ su = 3 := by simp at h4; exact h4
    refine s_cg (Eq.trans ?_ (paT_7sy e hp.1 hp.2).symm)
    show ([68, 77, 66, 32, 83, 89] : List UInt8) = _
    simp [lineF, jn1, jn2, jn3, regT, numT, orF, nm_name]
  have n4 : ((decide ((3 : Int) = 3) && decide (pr = 3)) && decide (su = 3)) = false := n4
  refine ⟨fun h5 => ?_, fun n5 => ?_⟩
  · have h5 : ((decide ((3 : Int) = 3) && decide (pr = 1)) && decide (su = 3)) = true := h5
    have hp : pr = 1 ∧ su = 3 := by simp at h5; exact h5
    refine s_cg (Eq.trans ?_ (paT_7ld e hp.1 hp.2).symm)
    show ([68, 77, 66, 32, 76, 68] : List UInt8) = _
    simp [lineF, jn1, jn2, jn3, regT, numT, orF, nm_name]
  have n5 : ((decide ((3 : Int) = 3) && decide (pr = 1)) && decide (su = 3)) = false := n5
  refine ⟨fun h6 => ?_, fun n6 => ?_⟩
  · have h6 : ((decide ((3 : Int) = 3) && decide (pr = 2)) && decide (su = 2)) = true := h6
    have hp : pr = 2 ∧ su = 2 := by simp at h6; exact h6
    refine s_cg (Eq.trans ?_ (paT_7st e hp.1 hp.2).symm)
    show ([68, 77, 66, 32, 83, 84] : List UInt8) = _
    simp [lineF, jn1, jn2, jn3, regT, numT, orF, nm_name]
  have n6 : ((decide ((3 : Int) = 3) && decide (pr = 2)) && decide (su = 2)) = false := n6
  exact s_cg (paT_7n e ⟨fun h => by simp [h.1, h.2] at n4, fun h => by simp [h.1, h.2] at n5, fun h => by simp [h.1, h.2] at n6⟩).symm
set_option maxHeartbeats 2000000 in
theorem Atx_ok (i : In) (lb : List UInt8) (hf : formP i = true) (hi : in64 i.imm) (hl : lb.length ≤ 90000) : CtrV Tryz.prog 51 [.i .i64 3, .agg (ienc i), .s lb] (.s (paT i lb)) := by
  obtain ⟨op, dst, a, b, imm, loc, off, ix, sz, fn, acq, wk, rel, pr, su, to, ze⟩ := i
  have hi : in64 imm := hi
  have hnl := itoa_len hi
  have hdl : (nameF 3 dst).length ≤ 3 := nameF_len 3 dst
  have hal : (nameF 3 a).length ≤ 3 := nameF_len 3 a
  refine Ctr.enterV tabOkF (fn := Tryz.f51) rfl rfl rfl rfl rfl rfl ?_
  refine OpC.callV rfl rfl rfl rfl rfl rfl rfl (fun _ => rname_ok 3 dst) ?_
  refine OpC.callV rfl rfl rfl rfl rfl rfl rfl (fun _ => rname_ok 3 a) ?_
  refine ⟨fun h1 => ?_, fun n1 => ?_⟩
  · have h1 : decide (op = 1) = true := h1
    have e : op = 1 := of_decide_eq_true h1
    refine ⟨fun h => no_ft h, fun _ => ?_⟩
    refine ⟨fun _ => by show (([77, 79, 86, 32] : List UInt8)).length + (nameF 3 dst).length ≤ 9223372036854775807; simp only [List.length_append, List.length_cons, List.length_nil]; omega, ?_⟩
    refine ⟨fun _ => by show ((([77, 79, 86, 32] : List UInt8) ++ nameF 3 dst)).length + (([44] : List UInt8)).length ≤ 9223372036854775807; simp only [List.length_append, List.length_cons, List.length_nil]; omega, ?_⟩
    have hnl := numT_len (a := 3) hi
    refine OpC.callV rfl rfl rfl rfl rfl rfl rfl (fun _ => number5_ok 3 imm hi) ?_
    refine ⟨fun _ => by show (((([77, 79, 86, 32] : List UInt8) ++ nameF 3 dst) ++ ([44] : List UInt8))).length + (numT 3 imm).length ≤ 9223372036854775807; simp only [List.length_append, List.length_cons, List.length_nil]; omega, ?_⟩
    refine s_cg (Eq.trans ?_ (paT_1 e).symm)
    show (((([77, 79, 86, 32] : List UInt8) ++ nameF 3 dst) ++ ([44] : List UInt8)) ++ numT 3 imm) = _
    simp [lineF, jn1, jn2, jn3, regT, numT, orF, nm_name]
  have n1 : decide (op = 1) = false := n1
  refine ⟨fun h2 => ?_, fun n2 => ?_⟩
  · have h2 : decide (op = 2) = true := h2
    have e : op = 2 := of_decide_eq_true h2
    refine ⟨fun h => no_ft h, fun _ => ?_⟩
    refine ⟨fun _ => by show (([77, 79, 86, 32] : List UInt8)).length + (nameF 3 dst).length ≤ 9223372036854775807; simp only [List.length_append, List.length_cons, List.length_nil]; omega, ?_⟩
    refine ⟨fun _ => by show ((([77, 79, 86, 32] : List UInt8) ++ nameF 3 dst)).length + (([44] : List UInt8)).length ≤ 9223372036854775807; simp only [List.length_append, List.length_cons, List.length_nil]; omega, ?_⟩
    refine ⟨fun _ => by show (((([77, 79, 86, 32] : List UInt8) ++ nameF 3 dst) ++ ([44] : List UInt8))).length + (nameF 3 a).length ≤ 9223372036854775807; simp only [List.length_append, List.length_cons, List.length_nil]; omega, ?_⟩
    refine s_cg (Eq.trans ?_ (paT_2 e).symm)
    show (((([77, 79, 86, 32] : List UInt8) ++ nameF 3 dst) ++ ([44] : List UInt8)) ++ nameF 3 a) = _
    simp [lineF, jn1, jn2, jn3, regT, numT, orF, nm_name]
  have n2 : decide (op = 2) = false := n2
  refine ⟨fun h3 => ?_, fun n3 => ?_⟩
  · have h3 : decide (op = 3) = true := h3
    have e : op = 3 := of_decide_eq_true h3
    have hfn : fn = 1 ∨ fn = 2 ∨ fn = 3 ∨ fn = 4 ∨ fn = 5 := (fm3 hf e).2.2.1
    have hfl := fn_len 3 fn
    have hrl := regT_len (a := 3) (r := b) hi
    refine OpC.callV rfl rfl rfl rfl rfl rfl rfl (fun _ => fn5_ok 3 fn (by decide) hfn) ?_
    refine ⟨fun h => no_ft h, fun _ => ?_⟩
    refine ⟨fun h31 => ?_, fun n31 => ?_⟩
    · have h31 : (decide ((3 : Int) = 2) && decide (b < 0)) = true := h31
      exfalso; simp at h31; try simp_all
    have n31 : (decide ((3 : Int) = 2) && decide (b < 0)) = false := n31
    refine ⟨fun _ => by show (fnT 3 fn).length + (([32] : List UInt8)).length ≤ 9223372036854775807; simp only [List.length_append, List.length_cons, List.length_nil]; omega, ?_⟩
    refine ⟨fun _ => by show ((fnT 3 fn ++ ([32] : List UInt8))).length + (nameF 3 dst).length ≤ 9223372036854775807; simp only [List.length_append, List.length_cons, List.length_nil]; omega, ?_⟩
    refine ⟨fun _ => by show (((fnT 3 fn ++ ([32] : List UInt8)) ++ nameF 3 dst)).length + (([44] : List UInt8)).length ≤ 9223372036854775807; simp only [List.length_append, List.length_cons, List.length_nil]; omega, ?_⟩
    refine ⟨fun _ => by show ((((fnT 3 fn ++ ([32] : List UInt8)) ++ nameF 3 dst) ++ ([44] : List UInt8))).length + (nameF 3 a).length ≤ 9223372036854775807; simp only [List.length_append, List.length_cons, List.length_nil]; omega, ?_⟩
    refine ⟨fun _ => by show (((((fnT 3 fn ++ ([32] : List UInt8)) ++ nameF 3 dst) ++ ([44] : List UInt8)) ++ nameF 3 a)).length + (([44] : List UInt8)).length ≤ 9223372036854775807; simp only [List.length_append, List.length_cons, List.length_nil]; omega, ?_⟩
    refine OpC.callV rfl rfl rfl rfl rfl rfl rfl (fun _ => regOr5_ok 3 b imm hi) ?_
    refine ⟨fun _ => by show ((((((fnT 3 fn ++ ([32] : List UInt8)) ++ nameF 3 dst) ++ ([44] : List UInt8)) ++ nameF 3 a) ++ ([44] : List UInt8))).length + (regT 3 b imm).length ≤ 9223372036854775807; simp only [List.length_append, List.length_cons, List.length_nil]; omega, ?_⟩
    refine s_cg (Eq.trans ?_ (paT_3x e).symm)
    show ((((((fnT 3 fn ++ ([32] : List UInt8)) ++ nameF 3 dst) ++ ([44] : List UInt8)) ++ nameF 3 a) ++ ([44] : List UInt8)) ++ regT 3 b imm) = _
    by_cases hb0 : b < 0
    · have hb1 : ¬ 0 ≤ b := by omega
      simp [lineF, jn3, regT, numT, orF, nm_name, hb0, hb1]
    · have hb1 : 0 ≤ b := by omega
      simp [lineF, jn3, regT, numT, orF, nm_name, hb0, hb1]
  have n3 : decide (op = 3) = false := n3
  refine ⟨fun h9 => ?_, fun n9 => ?_⟩
  · have h9 : decide (op = 9) = true := h9
    have e : op = 9 := of_decide_eq_true h9
    have hbl := br_len 3 ze
    refine OpC.callV rfl rfl rfl rfl rfl rfl rfl (fun _ => br5_ok 3 ze (by decide)) ?_
    refine ⟨fun _ => by show (brT 3 ze).length + (([32] : List UInt8)).length ≤ 9223372036854775807; simp only [List.length_append, List.length_cons, List.length_nil]; omega, ?_⟩
    refine ⟨fun _ => by show ((brT 3 ze ++ ([32] : List UInt8))).length + (nameF 3 a).length ≤ 9223372036854775807; simp only [List.length_append, List.length_cons, List.length_nil]; omega, ?_⟩
    refine ⟨fun _ => by show (((brT 3 ze ++ ([32] : List UInt8)) ++ nameF 3 a)).length + (([44] : List UInt8)).length ≤ 9223372036854775807; simp only [List.length_append, List.length_cons, List.length_nil]; omega, ?_⟩
    refine ⟨fun _ => by show ((((brT 3 ze ++ ([32] : List UInt8)) ++ nameF 3 a) ++ ([44] : List UInt8))).length + (lb).length ≤ 9223372036854775807; simp only [List.length_append, List.length_cons, List.length_nil]; omega, ?_⟩
    refine s_cg ?_
    show ((((brT 3 ze ++ ([32] : List UInt8)) ++ nameF 3 a) ++ ([44] : List UInt8)) ++ lb) = _
    have hz : ze = true ∨ ze = false := by cases ze <;> simp
    rcases hz with hz | hz
    · rw [paT_9z e hz, hz]; simp [lineF, jn2, nm_name, brT]
    · rw [paT_9n e hz, hz]; simp [lineF, jn2, nm_name, brT]
  have n9 : decide (op = 9) = false := n9
  refine ⟨fun h7 => ?_, fun n7 => ?_⟩
  · have h7 : decide (op = 7) = true := h7
    refine ⟨fun _ => ?_, fun h => absurd (h7.symm.trans h) (by decide)⟩
    refine OpC.callV rfl rfl rfl rfl rfl rfl rfl (fun _ => Afen_ok ⟨op, dst, a, b, imm, loc, off, ix, sz, fn, acq, wk, rel, pr, su, to, ze⟩ lb hf (.inl (of_decide_eq_true h7))) ?_
    exact rfl
  have n7 : decide (op = 7) = false := n7
  refine ⟨fun h8 => ?_, fun n8 => ?_⟩
  · have h8 : decide (op = 8) = true := h8
    refine OpC.callV rfl rfl rfl rfl rfl rfl rfl (fun _ => Afen_ok ⟨op, dst, a, b, imm, loc, off, ix, sz, fn, acq, wk, rel, pr, su, to, ze⟩ lb hf (.inr (of_decide_eq_true h8))) ?_
    exact rfl
  have n8 : decide (op = 8) = false := n8
  have hop : op = 4 ∨ op = 5 ∨ op = 6 := by
    have e1 := of_decide_eq_false n1; have e2 := of_decide_eq_false n2; have e3 := of_decide_eq_false n3; have e7 := of_decide_eq_false n7; have e8 := of_decide_eq_false n8; have e9 := of_decide_eq_false n9
    have := fm_op hf
    have : op = 1 ∨ op = 2 ∨ op = 3 ∨ op = 4 ∨ op = 5 ∨ op = 6 ∨ op = 7 ∨ op = 8 ∨ op = 9 := this
    omega
  refine OpC.callV rfl rfl rfl rfl rfl rfl rfl (fun _ => Aacc_ok ⟨op, dst, a, b, imm, loc, off, ix, sz, fn, acq, wk, rel, pr, su, to, ze⟩ lb hf hop) ?_
  exact rfl
end SX
end Go.Proofs.YthkedcneehdinaaGreatDoor

/- The reference's readers of words: the cursor. -/
set_option linter.unusedVariables false
set_option maxRecDepth 100000
namespace Go.Proofs.YthkedcneehdinaaGreatDoor
namespace SX
open Go Go.Proofs
section
variable (ts : List Tk) (ad : Option Addr) (cap : Nat)
end
variable {ts : List Tk} {ad : Option Addr} {cap : Nat}
end SX
end Go.Proofs.YthkedcneehdinaaGreatDoor

/- The reference's readers of words: the reader's small functions. -/
set_option linter.unusedVariables false
set_option maxRecDepth 100000
namespace Go.Proofs.YthkedcneehdinaaGreatDoor
namespace SX
open Go Go.Proofs
end SX
end Go.Proofs.YthkedcneehdinaaGreatDoor

/- The reference's readers of words: places of memory, branches, names. Written by qwc.py. -/
set_option linter.unusedVariables false
set_option maxRecDepth 100000
namespace Go.Proofs.YthkedcneehdinaaGreatDoor
namespace SX
open Go Go.Proofs
end SX
end Go.Proofs.YthkedcneehdinaaGreatDoor

/- The reference's x86, Parse. Written by qwd.py. -/
set_option linter.unusedVariables false
set_option maxRecDepth 100000
namespace Go.Proofs.YthkedcneehdinaaGreatDoor
namespace SX
open Go Go.Proofs
end SX
end Go.Proofs.YthkedcneehdinaaGreatDoor

/- The reference: registers of RISC-V and Arm, by name; Parse. Written by qwf.py. -/
set_option linter.unusedVariables false
set_option maxRecDepth 100000
namespace Go.Proofs.YthkedcneehdinaaGreatDoor
namespace SX
open Go Go.Proofs
set_option maxHeartbeats 1000000 in
theorem rreg3_ok (v : List UInt8) : CtrV Tryz.prog 21 [.i .i64 3, .s v] (.i .i64 (idxF [88, 48] [88, 49] [88, 50] [88, 51] [88, 52] [88, 53] [88, 54] [88, 55] v)) := by
  refine Ctr.enterV tabOkF (fn := Tryz.f21) rfl rfl rfl rfl rfl rfl ?_
  refine WpC.loop tabOkF (β := Nat) (fun k => k ≤ 8 ∧ (0 < k → v ≠ [88, 48]) ∧ (1 < k → v ≠ [88, 49]) ∧ (2 < k → v ≠ [88, 50]) ∧ (3 < k → v ≠ [88, 51]) ∧ (4 < k → v ≠ [88, 52]) ∧ (5 < k → v ≠ [88, 53]) ∧ (6 < k → v ≠ [88, 54]) ∧ (7 < k → v ≠ [88, 55])) (fun k => [(5, .i .i64 k)]) (fun _ => []) (fun k => 8 - k) 0 1048560 ⟨by decide, fun h => absurd h (by decide), fun h => absurd h (by decide), fun h => absurd h (by decide), fun h => absurd h (by decide), fun h => absurd h (by decide), fun h => absurd h (by decide), fun h => absurd h (by decide), fun h => absurd h (by decide)⟩ ?_ ?_
  · exact ⟨rfl, ⟨⟨rfl, rfl, rfl⟩, trivial⟩, ⟨[], rfl⟩, trivial, rfl⟩
  · rintro k ⟨hk, q0, q1, q2, q3, q4, q5, q6, q7⟩
    rcases (by omega : k = 0 ∨ k = 1 ∨ k = 2 ∨ k = 3 ∨ k = 4 ∨ k = 5 ∨ k = 6 ∨ k = 7 ∨ k = 8) with rfl | rfl | rfl | rfl | rfl | rfl | rfl | rfl | rfl
    · refine ⟨fun _ => ?_, fun h => absurd h (by decide)⟩
      refine OpC.callV rfl rfl rfl rfl rfl rfl rfl (fun _ => rname_ok 3 0) ?_
      refine ⟨fun h => ?_, fun h => ?_⟩
      · have h : ((!decide (v = [])) && decide ([88, 48] = v)) = true := h
        have e : v = [88, 48] := by simp at h; exact h.2.symm
        refine i_cg ?_
        unfold idxF
        rw [if_pos e]
        rfl
      · have h : ((!decide (v = [])) && decide ([88, 48] = v)) = false := h
        have e0 : ¬ v = [88, 48] := fun e => by subst e; exact absurd h (by decide)
        exact ⟨1, ⟨by decide, fun _ => e0, fun h => absurd h (by decide), fun h => absurd h (by decide), fun h => absurd h (by decide), fun h => absurd h (by decide), fun h => absurd h (by decide), fun h => absurd h (by decide), fun h => absurd h (by decide)⟩, by decide, rfl, ⟨⟨rfl, rfl, rfl⟩, trivial⟩, ⟨[], rfl⟩, trivial, rfl⟩
    · have e0 := q0 (by decide)
      refine ⟨fun _ => ?_, fun h => absurd h (by decide)⟩
      refine OpC.callV rfl rfl rfl rfl rfl rfl rfl (fun _ => rname_ok 3 1) ?_
      refine ⟨fun h => ?_, fun h => ?_⟩
      · have h : ((!decide (v = [])) && decide ([88, 49] = v)) = true := h
        have e : v = [88, 49] := by simp at h; exact h.2.symm
        refine i_cg ?_
        unfold idxF
        rw [if_neg e0]
        rw [if_pos e]
        rfl
      · have h : ((!decide (v = [])) && decide ([88, 49] = v)) = false := h
        have e1 : ¬ v = [88, 49] := fun e => by subst e; exact absurd h (by decide)
        exact ⟨2, ⟨by decide, fun _ => e0, fun _ => e1, fun h => absurd h (by decide), fun h => absurd h (by decide), fun h => absurd h (by decide), fun h => absurd h (by decide), fun h => absurd h (by decide), fun h => absurd h (by decide)⟩, by decide, rfl, ⟨⟨rfl, rfl, rfl⟩, trivial⟩, ⟨[], rfl⟩, trivial, rfl⟩
    · have e0 := q0 (by decide)
      have e1 := q1 (by decide)
      refine ⟨fun _ => ?_, fun h => absurd h (by decide)⟩
      refine OpC.callV rfl rfl rfl rfl rfl rfl rfl (fun _ => rname_ok 3 2) ?_
      refine ⟨fun h => ?_, fun h => ?_⟩
      · have h : ((!decide (v = [])) && decide ([88, 50] = v)) = true := h
        have e : v = [88, 50] := by simp at h; exact h.2.symm
        refine i_cg ?_
        unfold idxF
        rw [if_neg e0]
        rw [if_neg e1]
        rw [if_pos e]
        rfl
      · have h : ((!decide (v = [])) && decide ([88, 50] = v)) = false := h
        have e2 : ¬ v = [88, 50] := fun e => by subst e; exact absurd h (by decide)
        exact ⟨3, ⟨by decide, fun _ => e0, fun _ => e1, fun _ => e2, fun h => absurd h (by decide), fun h => absurd h (by decide), fun h => absurd h (by decide), fun h => absurd h (by decide), fun h => absurd h (by decide)⟩, by decide, rfl, ⟨⟨rfl, rfl, rfl⟩, trivial⟩, ⟨[], rfl⟩, trivial, rfl⟩
    · have e0 := q0 (by decide)
      have e1 := q1 (by decide)
      have e2 := q2 (by decide)
      refine ⟨fun _ => ?_, fun h => absurd h (by decide)⟩
      refine OpC.callV rfl rfl rfl rfl rfl rfl rfl (fun _ => rname_ok 3 3) ?_
      refine ⟨fun h => ?_, fun h => ?_⟩
      · have h : ((!decide (v = [])) && decide ([88, 51] = v)) = true := h
        have e : v = [88, 51] := by simp at h; exact h.2.symm
        refine i_cg ?_
        unfold idxF
        rw [if_neg e0]
        rw [if_neg e1]
        rw [if_neg e2]
        rw [if_pos e]
        rfl
      · have h : ((!decide (v = [])) && decide ([88, 51] = v)) = false := h
        have e3 : ¬ v = [88, 51] := fun e => by subst e; exact absurd h (by decide)
        exact ⟨4, ⟨by decide, fun _ => e0, fun _ => e1, fun _ => e2, fun _ => e3, fun h => absurd h (by decide), fun h => absurd h (by decide), fun h => absurd h (by decide), fun h => absurd h (by decide)⟩, by decide, rfl, ⟨⟨rfl, rfl, rfl⟩, trivial⟩, ⟨[], rfl⟩, trivial, rfl⟩
    · have e0 := q0 (by decide)
      have e1 := q1 (by decide)
      have e2 := q2 (by decide)
      have e3 := q3 (by decide)
      refine ⟨fun _ => ?_, fun h => absurd h (by decide)⟩
      refine OpC.callV rfl rfl rfl rfl rfl rfl rfl (fun _ => rname_ok 3 4) ?_
      refine ⟨fun h => ?_, fun h => ?_⟩
      · have h : ((!decide (v = [])) && decide ([88, 52] = v)) = true := h
        have e : v = [88, 52] := by simp at h; exact h.2.symm
        refine i_cg ?_
        unfold idxF
        rw [if_neg e0]
        rw [if_neg e1]
        rw [if_neg e2]
        rw [if_neg e3]
        rw [if_pos e]
        rfl
      · have h : ((!decide (v = [])) && decide ([88, 52] = v)) = false := h
        have e4 : ¬ v = [88, 52] := fun e => by subst e; exact absurd h (by decide)
        exact ⟨5, ⟨by decide, fun _ => e0, fun _ => e1, fun _ => e2, fun _ => e3, fun _ => e4, fun h => absurd h (by decide), fun h => absurd h (by decide), fun h => absurd h (by decide)⟩, by decide, rfl, ⟨⟨rfl, rfl, rfl⟩, trivial⟩, ⟨[], rfl⟩, trivial, rfl⟩
    · have e0 := q0 (by decide)
      have e1 := q1 (by decide)
      have e2 := q2 (by decide)
      have e3 := q3 (by decide)
      have e4 := q4 (by decide)
      refine ⟨fun _ => ?_, fun h => absurd h (by decide)⟩
      refine OpC.callV rfl rfl rfl rfl rfl rfl rfl (fun _ => rname_ok 3 5) ?_
      refine ⟨fun h => ?_, fun h => ?_⟩
      · have h : ((!decide (v = [])) && decide ([88, 53] = v)) = true := h
        have e : v = [88, 53] := by simp at h; exact h.2.symm
        refine i_cg ?_
        unfold idxF
        rw [if_neg e0]
        rw [if_neg e1]
        rw [if_neg e2]
        rw [if_neg e3]
        rw [if_neg e4]
        rw [if_pos e]
        rfl
      · have h : ((!decide (v = [])) && decide ([88, 53] = v)) = false := h
        have e5 : ¬ v = [88, 53] := fun e => by subst e; exact absurd h (by decide)
        exact ⟨6, ⟨by decide, fun _ => e0, fun _ => e1, fun _ => e2, fun _ => e3, fun _ => e4, fun _ => e5, fun h => absurd h (by decide), fun h => absurd h (by decide)⟩, by decide, rfl, ⟨⟨rfl, rfl, rfl⟩, trivial⟩, ⟨[], rfl⟩, trivial, rfl⟩
    · have e0 := q0 (by decide)
      have e1 := q1 (by decide)
      have e2 := q2 (by decide)
      have e3 := q3 (by decide)
      have e4 := q4 (by decide)
      have e5 := q5 (by decide)
      refine ⟨fun _ => ?_, fun h => absurd h (by decide)⟩
      refine OpC.callV rfl rfl rfl rfl rfl rfl rfl (fun _ => rname_ok 3 6) ?_
      refine ⟨fun h => ?_, fun h => ?_⟩
      · have h : ((!decide (v = [])) && decide ([88, 54] = v)) = true := h
        have e : v = [88, 54] := by simp at h; exact h.2.symm
        refine i_cg ?_
        unfold idxF
        rw [if_neg e0]
        rw [if_neg e1]
        rw [if_neg e2]
        rw [if_neg e3]
        rw [if_neg e4]
        rw [if_neg e5]
        rw [if_pos e]
        rfl
      · have h : ((!decide (v = [])) && decide ([88, 54] = v)) = false := h
        have e6 : ¬ v = [88, 54] := fun e => by subst e; exact absurd h (by decide)
        exact ⟨7, ⟨by decide, fun _ => e0, fun _ => e1, fun _ => e2, fun _ => e3, fun _ => e4, fun _ => e5, fun _ => e6, fun h => absurd h (by decide)⟩, by decide, rfl, ⟨⟨rfl, rfl, rfl⟩, trivial⟩, ⟨[], rfl⟩, trivial, rfl⟩
    · have e0 := q0 (by decide)
      have e1 := q1 (by decide)
      have e2 := q2 (by decide)
      have e3 := q3 (by decide)
      have e4 := q4 (by decide)
      have e5 := q5 (by decide)
      have e6 := q6 (by decide)
      refine ⟨fun _ => ?_, fun h => absurd h (by decide)⟩
      refine OpC.callV rfl rfl rfl rfl rfl rfl rfl (fun _ => rname_ok 3 7) ?_
      refine ⟨fun h => ?_, fun h => ?_⟩
      · have h : ((!decide (v = [])) && decide ([88, 55] = v)) = true := h
        have e : v = [88, 55] := by simp at h; exact h.2.symm
        refine i_cg ?_
        unfold idxF
        rw [if_neg e0]
        rw [if_neg e1]
        rw [if_neg e2]
        rw [if_neg e3]
        rw [if_neg e4]
        rw [if_neg e5]
        rw [if_neg e6]
        rw [if_pos e]
        rfl
      · have h : ((!decide (v = [])) && decide ([88, 55] = v)) = false := h
        have e7 : ¬ v = [88, 55] := fun e => by subst e; exact absurd h (by decide)
        exact ⟨8, ⟨by decide, fun _ => e0, fun _ => e1, fun _ => e2, fun _ => e3, fun _ => e4, fun _ => e5, fun _ => e6, fun _ => e7⟩, by decide, rfl, ⟨⟨rfl, rfl, rfl⟩, trivial⟩, ⟨[], rfl⟩, trivial, rfl⟩
    · have e0 := q0 (by decide)
      have e1 := q1 (by decide)
      have e2 := q2 (by decide)
      have e3 := q3 (by decide)
      have e4 := q4 (by decide)
      have e5 := q5 (by decide)
      have e6 := q6 (by decide)
      have e7 := q7 (by decide)
      refine ⟨fun h => absurd h (by decide), fun _ => i_cg ?_⟩
      unfold idxF
      rw [if_neg e0, if_neg e1, if_neg e2, if_neg e3, if_neg e4, if_neg e5, if_neg e6, if_neg e7]
end SX
end Go.Proofs.YthkedcneehdinaaGreatDoor

/- What a run of law 5's able() asks of the library, as memos. -/
set_option linter.unusedVariables false
set_option maxRecDepth 100000
namespace Go.Proofs.YthkedcneehdinaaGreatDoor
namespace SX
open Go Go.Proofs
def mIB (c n : Int) : Memo := ⟨47, [.s [123, 125, 40, 41, 91, 93, 59, 124, 44, 58, 61, 43, 45, 35, 36, 126, 42, 47, 92, 38, 63, 94], .i .u8 c], [], .i .i64 n, []⟩
theorem mIB_ok {c n : Int} (h : Lib.indexByte marksL c.toNat.toUInt8 = n) : MemoOk Tryz.prog (mIB c n) := by
  subst h
  exact sIndexByte_ok marksL c
def mLoc (s : List UInt8) (n : Int) : Memo := ⟨40, [.s [120, 121, 122], .s s], [], .i .i64 n, []⟩
theorem mLoc_ok {s : List UInt8} {n : Int} (h : Lib.index [120, 121, 122] s = n) : MemoOk Tryz.prog (mLoc s n) := by
  subst h
  exact sIndex_ok [120, 121, 122] s (by decide)
def mNum (w : List UInt8) (n : Nat) : Memo := ⟨45, [.s w], [], .tup [.i .i64 n, .b true], []⟩
theorem mNum_ok {w : List UInt8} {n : Nat} (h : numF w = some n) (hn : (w.all fun c => numB (c.toNat : Int)) = true) (hw : w.length ≤ 10000) (h2 : n ≤ 9223372036854775807) : MemoOk Tryz.prog (mNum w n) := by
  refine (number_ok w (fun c hc => List.all_eq_true.1 hn c hc) hw).mono callX_m ?_
  rintro r h' ⟨hr, rfl⟩
  rw [h] at hr
  have hr : r = .tup [.i .i64 (IntKind.i64.wrap n), .b true] := hr
  rw [w64 (by omega) (by omega)] at hr
  exact ⟨hr, rfl⟩
def mJoin (xs : List (List UInt8)) (n : Nat) (r : List UInt8) : Memo := ⟨199, [.sl 0 1 0 n (some n) 0, .s [44]], [.mem 9 (xs.map .s) 1 0], .s r, [.mem 9 (xs.map .s) 1 0]⟩
theorem mJoin_ok {xs : List (List UInt8)} {n : Nat} {r : List UInt8} (hn : xs.length = n) (hn2 : n ≤ 1000) (h : Lib.join xs [44] = r) (hl : r.length ≤ 1000) : MemoOk Tryz.prog (mJoin xs n r) := by
  subst h
  exact join_ok xs n hn hn2 [44] (by omega)
end SX
end Go.Proofs.YthkedcneehdinaaGreatDoor

/- Law 7: able() answers true. Written by x67.py. -/
set_option linter.unusedVariables false
set_option maxRecDepth 100000
namespace Go.Proofs.YthkedcneehdinaaGreatDoor
namespace SX
open Go Go.Proofs
def x7ms : List Memo := [mIB 91 4, mIB 93 5, mIB 43 11, mIB 44 8, mLoc [120] 0, mNum [50] 2, mJoin [[88, 48], [91, 120, 43, 50, 93]] 2 [88, 48, 44, 91, 120, 43, 50, 93]]
theorem x7ms_ok : ∀ m ∈ x7ms, MemoOk Tryz.prog m := by
  intro m hm
  simp only [x7ms, List.mem_cons, List.not_mem_nil, or_false] at hm
  rcases hm with rfl | rfl | rfl | rfl | rfl | rfl | rfl
  · exact mIB_ok (by decide)
  · exact mIB_ok (by decide)
  · exact mIB_ok (by decide)
  · exact mIB_ok (by decide)
  · exact mLoc_ok (by decide)
  · exact mNum_ok (by decide) (by decide) (by decide) (by decide)
  · exact mJoin_ok rfl (by decide) (by decide) (by decide)
def x7able : Memo := ⟨23, [], [], .b true, []⟩
theorem able7_ok : CtrV Tryz.prog 23 [] (.b true) := (memo_of (m := x7able) (tr := treeF) (ft := ftree) (ms := x7ms) (n := 40) tabOkF ftOk mixed x7ms_ok (by decide +kernel) : MemoOk Tryz.prog x7able)
end SX
end Go.Proofs.YthkedcneehdinaaGreatDoor
