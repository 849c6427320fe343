/- A part of SX: symbolic and concrete runs of the program, with contracts of functions; lemmas without further conditions. -/
import Derived.Test.YtlgjjklikbpcoaaGreatDoorXK
set_option linter.unusedVariables false
set_option linter.unusedSimpArgs false
set_option linter.unusedSectionVars false
/- Words of a text: the program's small functions. -/
set_option linter.unusedVariables false
set_option maxRecDepth 100000
namespace Go.Proofs.YtlgjjklikbpcoaaGreatDoor
namespace SX
open Go Go.Proofs
theorem w64 {x : Int} (h1 : -9223372036854775808 ≤ x) (h2 : x ≤ 9223372036854775807) : IntKind.i64.wrap x = x := IntWalk.i64_in x ⟨h1, h2⟩
theorem b_cg {x y : Bool} (h : x = y) : SV.b x = SV.b y := congrArg SV.b h
theorem i_cg {x y : Int} (h : x = y) : SV.i .i64 x = SV.i .i64 y := congrArg (SV.i .i64) h
theorem s_cg {x y : List UInt8} (h : x = y) : SV.s x = SV.s y := congrArg SV.s h
theorem digit_ok (n : Int) : CtrV Tryz.prog 56 [.i .u8 n] (.b (digB n)) := by
  refine Ctr.enterV tabOkF (fn := Tryz.f56) rfl rfl rfl rfl rfl rfl ?_
  exact rfl
theorem letter_ok (n : Int) : CtrV Tryz.prog 59 [.i .u8 n] (.b (letB n)) := by
  refine Ctr.enterV tabOkF (fn := Tryz.f59) rfl rfl rfl rfl rfl rfl ?_
  exact rfl
theorem isnum_ok (n : Int) : CtrV Tryz.prog 58 [.i .u8 n] (.b (numB n)) := by
  refine Ctr.enterV tabOkF (fn := Tryz.f58) rfl rfl rfl rfl rfl rfl ?_
  refine OpC.callV rfl rfl rfl rfl rfl rfl rfl (fun _ => letter_ok n) ?_
  refine OpC.callV rfl rfl rfl rfl rfl rfl rfl (fun _ => digit_ok n) ?_
  exact rfl
theorem isnam_ok (n : Int) : CtrV Tryz.prog 61 [.i .u8 n] (.b (namB n)) := by
  refine Ctr.enterV tabOkF (fn := Tryz.f61) rfl rfl rfl rfl rfl rfl ?_
  refine OpC.callV rfl rfl rfl rfl rfl rfl rfl (fun _ => letter_ok n) ?_
  refine OpC.callV rfl rfl rfl rfl rfl rfl rfl (fun _ => digit_ok n) ?_
  exact rfl
theorem row_ok (f : Nat) (p : Int → Bool) (hf : ∀ n, CtrV Tryz.prog f [.i .u8 n] (.b (p n))) (s : List UInt8) (hs : s.length ≤ 100000) : CtrV Tryz.prog 57 [.s s, .fn f []] (.i .i64 (rowF p s)) := by
  refine Ctr.enterV tabOkF (fn := Tryz.f57) rfl rfl rfl rfl rfl rfl ?_
  refine WpC.loop tabOkF (β := Nat) (fun k => k ≤ s.length ∧ ∀ j, j < k → p (cd s j) = true) (fun k => [(5, .i .i64 k)]) (fun _ => []) (fun k => s.length - k) 0 524256 ⟨Nat.zero_le _, fun j hj => by omega⟩ ?_ ?_
  · exact ⟨rfl, ⟨⟨rfl, rfl, rfl⟩, trivial⟩, ⟨[], rfl⟩, trivial, rfl⟩
  · rintro k ⟨hk, ho⟩
    refine ⟨fun hg => ?_, ?_⟩
    · have hg : (decide ((k : Int) < s.length) == true) = true := hg
      have hg : k < s.length := by simpa using hg
      exact ⟨by omega, by omega⟩
    refine OpC.callV rfl rfl rfl rfl rfl rfl rfl (fun _ => hf (cd s k)) ?_
    refine ⟨fun h2 => ?_, fun h2 => ?_⟩
    · have h2 : (decide ((k : Int) < s.length) && p (cd s k)) = true := h2
      simp only [Bool.and_eq_true, decide_eq_true_eq] at h2
      refine ⟨k + 1, ⟨by omega, fun j hj => ?_⟩, by omega, rfl, ⟨⟨?_, rfl, rfl⟩, trivial⟩, ⟨[], rfl⟩, trivial, rfl⟩
      · rcases Nat.lt_succ_iff_lt_or_eq.1 hj with hj | rfl
        · exact ho j hj
        · exact h2.2
      · show SV.i .i64 (IntKind.i64.wrap ((k : Int) + 1)) = SV.i .i64 ((k + 1 : Nat) : Int)
        rw [w64 (by omega) (by omega)]; rfl
    · have h2 : (decide ((k : Int) < s.length) && p (cd s k)) = false := h2
      refine i_cg ?_
      rw [rowF_at p k s hk ho]
      by_cases h3 : k = s.length
      · exact .inl h3
      · have h4 : decide ((k : Int) < s.length) = true := by simp; omega
        rw [h4] at h2
        exact .inr h2
theorem pre_ok (s p : List UInt8) : CtrV Tryz.prog 122 [.s s, .s p] (.b (pre s p)) := by
  refine Ctr.enterV tabOkF (fn := Tryz.f122) rfl rfl rfl rfl rfl rfl ?_
  refine ⟨fun hg => ?_, rfl⟩
  have hg : (decide ((p.length : Int) ≤ s.length) == true) = true := hg
  have hg : p.length ≤ s.length := by simpa using hg
  exact ⟨by omega, by omega⟩
theorem hasPrefix_ok (s p : List UInt8) : CtrV Tryz.prog 54 [.s s, .s p] (.b (pre s p)) := by
  refine Ctr.enterV tabOkF (fn := Tryz.f54) rfl rfl rfl rfl rfl rfl ?_
  refine OpC.callV rfl rfl rfl rfl rfl rfl rfl (fun _ => pre_ok s p) ?_
  exact rfl
theorem pre_len {s p : List UInt8} (h : pre s p = true) : p.length ≤ s.length := by
  unfold pre at h; simp only [Bool.and_eq_true, decide_eq_true_eq] at h; omega
def cutP (s p : List UInt8) : List UInt8 := if pre s p then (s.take s.length).drop p.length else s
theorem cutPre_ok (s p : List UInt8) : CtrV Tryz.prog 200 [.s s, .s p] (.tup [.s (cutP s p), .b (pre s p)]) := by
  refine Ctr.enterV tabOkF (fn := Tryz.f200) rfl rfl rfl rfl rfl rfl ?_
  refine OpC.callV rfl rfl rfl rfl rfl rfl rfl (fun _ => pre_ok s p) ?_
  refine ⟨fun h => ?_, fun h => ?_⟩
  · have h : (!pre s p) = true := h
    have h : pre s p = false := by simpa using h
    show _ = SV.tup [.s (cutP s p), .b (pre s p)]
    unfold cutP
    rw [h]; rfl
  · have h : (!pre s p) = false := h
    have h : pre s p = true := by simpa using h
    refine ⟨fun _ => ?_, ?_⟩
    · have := pre_len h
      exact ⟨by omega, by omega⟩
    · show _ = SV.tup [.s (cutP s p), .b (pre s p)]
      unfold cutP
      rw [h]; rfl
theorem cutPrefix_ok (s p : List UInt8) : CtrV Tryz.prog 124 [.s s, .s p] (.tup [.s (cutP s p), .b (pre s p)]) := by
  refine Ctr.enterV tabOkF (fn := Tryz.f124) rfl rfl rfl rfl rfl rfl ?_
  refine OpC.callV rfl rfl rfl rfl rfl rfl rfl (fun _ => cutPre_ok s p) ?_
  exact rfl
end SX
end Go.Proofs.YtlgjjklikbpcoaaGreatDoor

/- Words of a text: the reference's small functions. -/
set_option linter.unusedVariables false
set_option maxRecDepth 100000
namespace Go.Proofs.YtlgjjklikbpcoaaGreatDoor
namespace SX
open Go Go.Proofs
theorem rdigit_ok (n : Int) : CtrV Tryz.prog 227 [.i .u8 n] (.b (digB n)) := by
  refine Ctr.enterV tabOkF (fn := Tryz.f227) rfl rfl rfl rfl rfl rfl ?_
  exact rfl
theorem rletter_ok (n : Int) : CtrV Tryz.prog 230 [.i .u8 n] (.b (letB n)) := by
  refine Ctr.enterV tabOkF (fn := Tryz.f230) rfl rfl rfl rfl rfl rfl ?_
  exact rfl
theorem mem_marks {x : UInt8} {k : Nat} (hk : k = 22) (h : ∀ j, j < k → marksL.getD j 0 ≠ x) : decide (x ∈ marksL) = false := by
  subst hk
  rw [decide_eq_false_iff_not]
  intro hm
  obtain ⟨j, hj, he⟩ := List.getElem_of_mem hm
  exact h j hj (by simp [List.getD_eq_getElem?_getD, List.getElem?_eq_getElem hj, he])
theorem rmark_ok (x : UInt8) : CtrV Tryz.prog 231 [.i .u8 (x.toNat : Int)] (.b (decide (x ∈ marksL))) := by
  refine Ctr.enterV tabOkF (fn := Tryz.f231) rfl rfl rfl rfl rfl rfl ?_
  refine WpC.loop tabOkF (β := Nat) (fun k => k ≤ 22 ∧ ∀ j, j < k → marksL.getD j 0 ≠ x) (fun k => [(3, .i .i64 k)]) (fun _ => []) (fun k => 22 - k) 0 4092 ⟨by decide, fun j hj => absurd hj (Nat.not_lt_zero _)⟩ ?_ ?_
  · exact ⟨rfl, ⟨⟨rfl, rfl, rfl⟩, trivial⟩, ⟨[], rfl⟩, trivial, rfl⟩
  · rintro k ⟨hk, ho⟩
    refine ⟨fun h => ?_, fun h => ?_⟩
    · have h : decide ((k : Int) < 22) = true := h
      simp only [decide_eq_true_eq] at h
      refine ⟨fun _ => ⟨by omega, by show (k : Int) < ((22 : Nat) : Int); omega⟩, ?_⟩
      refine ⟨fun h2 => ?_, fun h2 => ?_⟩
      · have h2 : (((marksL.getD k 0).toNat : Int)) = (x.toNat : Int) := of_decide_eq_true h2
        refine b_cg ?_
        have e : marksL.getD k 0 = x := UInt8.toNat_inj.1 (by omega)
        symm
        rw [decide_eq_true_eq, ← e]
        have hk2 : k < marksL.length := by show k < 22; omega
        rw [List.getD_eq_getElem?_getD, List.getElem?_eq_getElem hk2]
        exact List.getElem_mem hk2
      · have h2 : ¬ (((marksL.getD k 0).toNat : Int)) = (x.toNat : Int) := of_decide_eq_false h2
        refine ⟨k + 1, ⟨by omega, fun j hj => ?_⟩, by omega, rfl, ⟨⟨?_, rfl, rfl⟩, trivial⟩, ⟨[], rfl⟩, trivial, rfl⟩
        · rcases Nat.lt_succ_iff_lt_or_eq.1 hj with hj | rfl
          · exact ho j hj
          · intro e; exact h2 (by rw [e])
        · show SV.i .i64 (IntKind.i64.wrap ((k : Int) + 1)) = SV.i .i64 ((k + 1 : Nat) : Int)
          rw [w64 (by omega) (by omega)]; rfl
    · have h : decide ((k : Int) < 22) = false := h
      simp only [decide_eq_false_iff_not] at h
      refine b_cg ?_
      exact (mem_marks (k := k) (by omega) ho).symm
theorem and_l {a b : Bool} (h : (a && b) = true) : a = true := by cases a <;> simp_all
def runQ (d : Bool) (n : Int) : Bool := bif d then namB n else numB n
theorem runQ_eq (d : Bool) (n : Int) : ((letB n || digB n) || (d && (decide (n = 95) || decide (n = 46)))) = runQ d n := by
  cases d
  · simp [runQ, numB]
  · simp [runQ, namB, Bool.or_assoc]
theorem cd_drop (s : List UInt8) (p j : Nat) : cd (s.drop p) j = cd s (p + j) := by simp [cd, List.getD_eq_getElem?_getD]
set_option maxHeartbeats 1000000 in
theorem rrun_ok (s : List UInt8) (p : Nat) (d : Bool) (hs : s.length ≤ 100000) (hp : p ≤ s.length) : CtrV Tryz.prog 228 [.s s, .i .i64 p, .b d] (.i .i64 ((p + rowF (runQ d) (s.drop p) : Nat) : Int)) := by
  refine Ctr.enterV tabOkF (fn := Tryz.f228) rfl rfl rfl rfl rfl rfl ?_
  refine WpC.loop tabOkF (β := Nat) (fun k => p ≤ k ∧ k ≤ s.length ∧ ∀ j, j < k - p → runQ d (cd (s.drop p) j) = true) (fun k => [(1, .i .i64 k)]) (fun _ => []) (fun k => s.length - k) p 1099511627650 ⟨Nat.le_refl _, hp, fun j hj => by omega⟩ ?_ ?_
  · exact ⟨rfl, ⟨⟨rfl, rfl, rfl⟩, trivial⟩, ⟨[], rfl⟩, trivial, rfl⟩
  · rintro k ⟨hpk, hk, ho⟩
    have hob : (decide ((k : Int) < s.length) == true) = true → (0 : Int) ≤ (k : Int) ∧ (k : Int) < (s.length : Int) := by
      intro h
      have h : k < s.length := by simpa using h
      omega
    refine ⟨hob, ?_⟩
    refine OpC.callV rfl rfl rfl rfl rfl rfl rfl (fun _ => rletter_ok (cd s k)) ?_
    refine ⟨fun hg => hob (and_l hg), ?_⟩
    refine OpC.callV rfl rfl rfl rfl rfl rfl rfl (fun _ => rdigit_ok (cd s k)) ?_
    refine ⟨fun hg => hob (and_l (and_l hg)), ?_⟩
    refine ⟨fun hg => hob (and_l (and_l (and_l hg))), ?_⟩
    have hq := runQ_eq d (cd s k)
    refine ⟨fun h2 => ?_, fun h2 => ?_⟩
    · have h2 : (decide ((k : Int) < s.length) && ((letB (cd s k) || digB (cd s k)) || (d && (decide (cd s k = 95) || decide (cd s k = 46))))) = true := h2
      rw [hq] at h2
      simp only [Bool.and_eq_true, decide_eq_true_eq] at h2
      refine ⟨k + 1, ⟨by omega, by omega, fun j hj => ?_⟩, by omega, rfl, ⟨⟨?_, rfl, rfl⟩, trivial⟩, ⟨[], rfl⟩, trivial, rfl⟩
      · by_cases hj2 : j < k - p
        · exact ho j hj2
        · have e : j = k - p := by omega
          subst e
          rw [cd_drop, show p + (k - p) = k by omega]
          exact h2.2
      · show SV.i .i64 (IntKind.i64.wrap ((k : Int) + 1)) = SV.i .i64 ((k + 1 : Nat) : Int)
        rw [w64 (by omega) (by omega)]; rfl
    · have h2 : (decide ((k : Int) < s.length) && ((letB (cd s k) || digB (cd s k)) || (d && (decide (cd s k = 95) || decide (cd s k = 46))))) = false := h2
      rw [hq] at h2
      refine i_cg ?_
      have := rowF_at (runQ d) (k - p) (s.drop p) (by simp; omega) ho (by
        by_cases h3 : k = s.length
        · left; simp; omega
        · right
          have h4 : decide ((k : Int) < s.length) = true := by simp; omega
          rw [h4] at h2
          rw [cd_drop, show p + (k - p) = k by omega]
          simpa using h2)
      rw [this]
      omega
end SX
end Go.Proofs.YtlgjjklikbpcoaaGreatDoor

/- Instructions: what they are; small functions. -/
set_option linter.unusedVariables false
set_option maxRecDepth 100000
namespace Go.Proofs.YtlgjjklikbpcoaaGreatDoor
namespace SX
open Go Go.Proofs
structure In where
  op : Int
  dst : Int
  a : Int
  b : Int
  imm : Int
  loc : Int
  off : Int
  ix : Int
  sz : Int
  fn : Int
  acq : Bool
  wk : Bool
  rel : Bool
  pr : Int
  su : Int
  to : Int
  ze : Bool
  deriving DecidableEq
def ienc (i : In) : List SV := [.i .i64 i.op, .i .i64 i.dst, .i .i64 i.a, .i .i64 i.b, .i .i64 i.imm, .i .i64 i.loc, .i .i64 i.off, .i .i64 i.ix, .i .i64 i.sz, .i .i64 i.fn, .b i.acq, .b i.wk, .b i.rel, .i .i64 i.pr, .i .i64 i.su, .i .i64 i.to, .b i.ze]
def rgB (r : Int) : Bool := decide (0 ≤ r) && decide (r < 8)
def szB (n : Int) : Bool := ((decide (n = 1) || decide (n = 2)) || decide (n = 4)) || decide (n = 8)
/-- Is there no access so? -/
def mskX (off n : Int) : Bool := ((!szB n || decide (off < 0)) || decide (IntKind.i64.wrap (8 - n) < off)) || !decide (off.tmod n = 0)
def mskV (off n : Int) : Int := (2 ^ n.toNat - 1) * 2 ^ off.toNat
def mskF (off n : Int) : Int := if mskX off n then 0 else mskV off n
theorem register_ok (n : Int) : CtrV Tryz.prog 270 [.i .i64 n] (.b (rgB n)) := by
  refine Ctr.enterV tabOkF (fn := Tryz.f270) rfl rfl rfl rfl rfl rfl ?_
  exact rfl
theorem rrg_ok (n : Int) : CtrV Tryz.prog 222 [.i .i64 n] (.b (rgB n)) := by
  refine Ctr.enterV tabOkF (fn := Tryz.f222) rfl rfl rfl rfl rfl rfl ?_
  exact rfl
theorem sized_ok (n : Int) : CtrV Tryz.prog 311 [.i .i64 n] (.b (szB n)) := by
  refine Ctr.enterV tabOkF (fn := Tryz.f311) rfl rfl rfl rfl rfl rfl ?_
  exact rfl
theorem rsize_ok (n : Int) : CtrV Tryz.prog 294 [.i .i64 n] (.b (szB n)) := by
  refine Ctr.enterV tabOkF (fn := Tryz.f294) rfl rfl rfl rfl rfl rfl ?_
  exact rfl
def fnB (n : Int) : Bool := decide (1 ≤ n) && decide (n ≤ 3)
theorem msk_cases {off n : Int} (h : mskX off n = false) : (n = 1 ∧ (off = 0 ∨ off = 1 ∨ off = 2 ∨ off = 3 ∨ off = 4 ∨ off = 5 ∨ off = 6 ∨ off = 7)) ∨ (n = 2 ∧ (off = 0 ∨ off = 2 ∨ off = 4 ∨ off = 6)) ∨ (n = 4 ∧ (off = 0 ∨ off = 4)) ∨ (n = 8 ∧ off = 0) := by
  unfold mskX szB at h
  simp only [Bool.or_eq_false_iff, Bool.not_eq_false', Bool.or_eq_true, decide_eq_true_eq, decide_eq_false_iff_not, Int.not_lt] at h
  obtain ⟨⟨⟨h1, h2⟩, h3⟩, h4⟩ := h
  rcases h1 with ((rfl | rfl) | rfl) | rfl
  · have h3 : off ≤ 7 := h3
    left; exact ⟨rfl, by omega⟩
  · have h3 : off ≤ 6 := h3
    right; left
    refine ⟨rfl, ?_⟩
    rcases (by omega : off = 0 ∨ off = 1 ∨ off = 2 ∨ off = 3 ∨ off = 4 ∨ off = 5 ∨ off = 6) with rfl | rfl | rfl | rfl | rfl | rfl | rfl <;> first | (simp; done) | exact absurd h4 (by decide)
  · have h3 : off ≤ 4 := h3
    right; right; left
    refine ⟨rfl, ?_⟩
    rcases (by omega : off = 0 ∨ off = 1 ∨ off = 2 ∨ off = 3 ∨ off = 4) with rfl | rfl | rfl | rfl | rfl <;> first | (simp; done) | exact absurd h4 (by decide)
  · have h3 : off ≤ 0 := h3
    right; right; right
    exact ⟨rfl, by omega⟩
theorem call_of {f : Nat} {args : List SV} {r : SV} (h : (Memo.mk f args [] r []).runs (runM treeF ftree [] 40) = true) : CtrV Tryz.prog f args r :=
  memo_of (tr := treeF) (ft := ftree) (ms := []) (n := 40) (m := Memo.mk f args [] r []) tabOkF ftOk mixed (by intro m hm; cases hm) h
theorem msk_ne {off n : Int} (h : mskX off n = true) {x y z : Bool} (hx : ((!szB n || decide (off < 0)) || decide (IntKind.i64.wrap (8 - n) < off)) = false) : n ≠ 0 := by
  intro e
  subst e
  simp [szB] at hx
theorem mask_no {off n : Int} (h : mskX off n = true) : CtrV Tryz.prog 293 [.i .i64 off, .i .i64 n] (.i .i64 0) := by
  refine Ctr.enterV tabOkF (fn := Tryz.f293) rfl rfl rfl rfl rfl rfl ?_
  refine OpC.callV rfl rfl rfl rfl rfl rfl rfl (fun _ => sized_ok n) ?_
  refine ⟨fun hg => ?_, ⟨fun _ => rfl, fun h2 => ?_⟩⟩
  · have hg : ((((!szB n || decide (off < 0)) || decide (IntKind.i64.wrap (8 - n) < off)) == false)) = true := hg
    exact msk_ne (x := true) (y := true) (z := true) h (by simpa using hg)
  · have h2 : mskX off n = false := h2
    rw [h] at h2; cases h2
theorem rmask_no {off n : Int} (h : mskX off n = true) : CtrV Tryz.prog 273 [.i .i64 off, .i .i64 n] (.i .i64 0) := by
  refine Ctr.enterV tabOkF (fn := Tryz.f273) rfl rfl rfl rfl rfl rfl ?_
  refine OpC.callV rfl rfl rfl rfl rfl rfl rfl (fun _ => rsize_ok n) ?_
  refine ⟨fun hg => ?_, ⟨fun _ => rfl, fun h2 => ?_⟩⟩
  · have hg : ((((!szB n || decide (off < 0)) || decide (IntKind.i64.wrap (8 - n) < off)) == false)) = true := hg
    exact msk_ne (x := true) (y := true) (z := true) h (by simpa using hg)
  · have h2 : mskX off n = false := h2
    rw [h] at h2; cases h2
theorem mask_ok (off n : Int) : CtrV Tryz.prog 293 [.i .i64 off, .i .i64 n] (.i .i64 (mskF off n)) := by
  unfold mskF
  cases h : mskX off n with
  | true => exact mask_no h
  | false =>
    rcases msk_cases h with ⟨rfl, rfl | rfl | rfl | rfl | rfl | rfl | rfl | rfl⟩ | ⟨rfl, rfl | rfl | rfl | rfl⟩ | ⟨rfl, rfl | rfl⟩ | ⟨rfl, rfl⟩
    all_goals exact call_of (by decide +kernel)
theorem rmask_ok (off n : Int) : CtrV Tryz.prog 273 [.i .i64 off, .i .i64 n] (.i .i64 (mskF off n)) := by
  unfold mskF
  cases h : mskX off n with
  | true => exact rmask_no h
  | false =>
    rcases msk_cases h with ⟨rfl, rfl | rfl | rfl | rfl | rfl | rfl | rfl | rfl⟩ | ⟨rfl, rfl | rfl | rfl | rfl⟩ | ⟨rfl, rfl | rfl⟩ | ⟨rfl, rfl⟩
    all_goals exact call_of (by decide +kernel)
theorem msk_nz (off n : Int) : (!decide (mskF off n = 0)) = !mskX off n := by
  unfold mskF
  cases h : mskX off n with
  | true => rfl
  | false =>
    rcases msk_cases h with ⟨rfl, rfl | rfl | rfl | rfl | rfl | rfl | rfl | rfl⟩ | ⟨rfl, rfl | rfl | rfl | rfl⟩ | ⟨rfl, rfl | rfl⟩ | ⟨rfl, rfl⟩ <;> rfl
def ixB (x : Int) : Bool := decide (x = -1) || rgB x
def accB (i : In) : Bool := ((decide (0 ≤ i.loc) && decide (i.loc < 3)) && !mskX i.off i.sz) && ixB i.ix
theorem access_ok (i : In) : CtrV Tryz.prog 271 [.agg (ienc i)] (.b (accB i)) := by
  refine Ctr.enterV tabOkF (fn := Tryz.f271) rfl rfl rfl rfl rfl rfl ?_
  refine OpC.callV rfl rfl rfl rfl rfl rfl rfl (fun _ => mask_ok i.off i.sz) ?_
  refine OpC.callV rfl rfl rfl rfl rfl rfl rfl (fun _ => register_ok i.ix) ?_
  refine b_cg ?_
  show (((decide (0 ≤ i.loc) && decide (i.loc < 3)) && !decide (mskF i.off i.sz = 0)) && (decide (i.ix = -1) || rgB i.ix)) = accB i
  rw [msk_nz]; rfl
theorem rplace_ok (i : In) : CtrV Tryz.prog 223 [.agg (ienc i)] (.b (accB i)) := by
  refine Ctr.enterV tabOkF (fn := Tryz.f223) rfl rfl rfl rfl rfl rfl ?_
  refine OpC.callV rfl rfl rfl rfl rfl rfl rfl (fun _ => rmask_ok i.off i.sz) ?_
  refine OpC.callV rfl rfl rfl rfl rfl rfl rfl (fun _ => rrg_ok i.ix) ?_
  refine b_cg ?_
  show (((decide (0 ≤ i.loc) && decide (i.loc < 3)) && !decide (mskF i.off i.sz = 0)) && (decide (i.ix = -1) || rgB i.ix)) = accB i
  rw [msk_nz]; rfl
theorem reads_ok (i : In) : CtrV Tryz.prog 256 [.agg (ienc i)] (.b (decide (i.op = 4) || decide (i.op = 6))) := by
  refine Ctr.enterV tabOkF (fn := Tryz.f256) rfl rfl rfl rfl rfl rfl ?_
  exact rfl
theorem writes_ok (i : In) : CtrV Tryz.prog 257 [.agg (ienc i)] (.b (decide (i.op = 5) || decide (i.op = 6))) := by
  refine Ctr.enterV tabOkF (fn := Tryz.f257) rfl rfl rfl rfl rfl rfl ?_
  exact rfl
end SX
end Go.Proofs.YtlgjjklikbpcoaaGreatDoor

/- Words of a text: the reference's numbers. -/
set_option linter.unusedVariables false
set_option maxRecDepth 100000
namespace Go.Proofs.YtlgjjklikbpcoaaGreatDoor
namespace SX
open Go Go.Proofs
def hexV (c : Nat) : Int := if 48 ≤ c ∧ c ≤ 57 then (c : Int) - 48 else if 97 ≤ c ∧ c ≤ 102 then (c : Int) - 87 else if 65 ≤ c ∧ c ≤ 70 then (c : Int) - 55 else -1
theorem hex_all : ∀ n : Fin 256, (Memo.mk 274 [.i .u8 (n.val : Int)] [] (.i .i64 (hexV n.val)) []).runs (runM treeF ftree [] 40) = true := by decide +kernel
theorem rhex_ok (x : UInt8) : CtrV Tryz.prog 274 [.i .u8 (x.toNat : Int)] (.i .i64 (hexV x.toNat)) := call_of (hex_all ⟨x.toNat, x.toNat_lt⟩)
theorem hexV_all : ∀ n : Fin 256, ((0 ≤ hexV n.val ∧ hexV n.val < 10) ↔ digV n.val < 10) ∧ ((0 ≤ hexV n.val ∧ hexV n.val < 16) ↔ digV n.val < 16) ∧ (0 ≤ hexV n.val → hexV n.val = digV n.val ∧ digV n.val < 16) := by decide +kernel
theorem hexV_10 (x : UInt8) : (0 ≤ hexV x.toNat ∧ hexV x.toNat < 10) ↔ digV x.toNat < 10 := (hexV_all ⟨x.toNat, x.toNat_lt⟩).1
theorem hexV_16 (x : UInt8) : (0 ≤ hexV x.toNat ∧ hexV x.toNat < 16) ↔ digV x.toNat < 16 := (hexV_all ⟨x.toNat, x.toNat_lt⟩).2.1
theorem hexV_dig (x : UInt8) (h : 0 ≤ hexV x.toNat) : hexV x.toNat = digV x.toNat ∧ digV x.toNat < 16 := (hexV_all ⟨x.toNat, x.toNat_lt⟩).2.2 h
/-- A value that stays within 2^63, digit by digit. -/
def valR (b : Nat) : List UInt8 → Nat → Option Nat
  | [], n => some n
  | c :: r, n => if digV c.toNat < b ∧ n * b + digV c.toNat ≤ 9223372036854775808 then valR b r (n * b + digV c.toNat) else none
theorem valB_mono {b : Nat} (hb : 1 ≤ b) : ∀ (l : List UInt8) (n m : Nat), valB b l n = some m → n ≤ m
  | [], n, m, h => by simp [valB] at h; omega
  | c :: r, n, m, h => by
    simp only [valB] at h
    split at h
    · have := valB_mono hb r _ m h
      have : n ≤ n * b := Nat.le_mul_of_pos_right n hb
      omega
    · cases h
theorem valR_eq {b : Nat} (hb : 1 ≤ b) : ∀ (l : List UInt8) (n : Nat), n ≤ 9223372036854775808 → valR b l n = (match valB b l n with | none => none | some m => if m ≤ 9223372036854775808 then some m else none)
  | [], n, hn => by simp [valR, valB, hn]
  | c :: r, n, hn => by
    simp only [valR, valB]
    by_cases h1 : digV c.toNat < b
    · by_cases h2 : n * b + digV c.toNat ≤ 9223372036854775808
      · rw [if_pos ⟨h1, h2⟩, if_pos h1, valR_eq hb r _ h2]
      · rw [if_neg (fun h => h2 h.2), if_pos h1]
        cases hq : valB b r (n * b + digV c.toNat) with
        | none => rfl
        | some m =>
          have := valB_mono hb r _ m hq
          simp only
          rw [if_neg (by omega)]
    · rw [if_neg (fun h => h1 h.1), if_neg h1]
end SX
end Go.Proofs.YtlgjjklikbpcoaaGreatDoor
