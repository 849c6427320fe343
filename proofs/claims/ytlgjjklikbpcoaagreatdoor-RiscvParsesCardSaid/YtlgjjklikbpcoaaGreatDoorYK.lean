/- A part of SX: symbolic and concrete runs of the program, with contracts of functions; lemmas without further conditions. -/
import Derived.Test.YtlgjjklikbpcoaaGreatDoorYJ
set_option linter.unusedVariables false
set_option linter.unusedSimpArgs false
set_option linter.unusedSectionVars false
/- Words of a text: the program's small functions. -/
set_option linter.unusedVariables false
set_option maxRecDepth 100000
namespace Go.Proofs.YtlgjjklikbpcoaaGreatDoor
namespace SX
open Go Go.Proofs
theorem w64 {x : Int} (h1 : -9223372036854775808 ≤ x) (h2 : x ≤ 9223372036854775807) : IntKind.i64.wrap x = x := IntWalk.i64_in x ⟨h1, h2⟩
theorem b_cg {x y : Bool} (h : x = y) : SV.b x = SV.b y := congrArg SV.b h
theorem i_cg {x y : Int} (h : x = y) : SV.i .i64 x = SV.i .i64 y := congrArg (SV.i .i64) h
theorem digit_ok (n : Int) : CtrV Tryz.prog 56 [.i .u8 n] (.b (digB n)) := by
  refine Ctr.enterV tabOkF (fn := Tryz.f56) rfl rfl rfl rfl rfl rfl ?_
  exact rfl
theorem letter_ok (n : Int) : CtrV Tryz.prog 59 [.i .u8 n] (.b (letB n)) := by
  refine Ctr.enterV tabOkF (fn := Tryz.f59) rfl rfl rfl rfl rfl rfl ?_
  exact rfl
theorem isnum_ok (n : Int) : CtrV Tryz.prog 58 [.i .u8 n] (.b (numB n)) := by
  refine Ctr.enterV tabOkF (fn := Tryz.f58) rfl rfl rfl rfl rfl rfl ?_
  refine OpC.callV rfl rfl rfl rfl rfl rfl rfl (fun _ => letter_ok n) ?_
  refine OpC.callV rfl rfl rfl rfl rfl rfl rfl (fun _ => digit_ok n) ?_
  exact rfl
theorem isnam_ok (n : Int) : CtrV Tryz.prog 61 [.i .u8 n] (.b (namB n)) := by
  refine Ctr.enterV tabOkF (fn := Tryz.f61) rfl rfl rfl rfl rfl rfl ?_
  refine OpC.callV rfl rfl rfl rfl rfl rfl rfl (fun _ => letter_ok n) ?_
  refine OpC.callV rfl rfl rfl rfl rfl rfl rfl (fun _ => digit_ok n) ?_
  exact rfl
theorem row_ok (f : Nat) (p : Int → Bool) (hf : ∀ n, CtrV Tryz.prog f [.i .u8 n] (.b (p n))) (s : List UInt8) (hs : s.length ≤ 100000) : CtrV Tryz.prog 57 [.s s, .fn f []] (.i .i64 (rowF p s)) := by
  refine Ctr.enterV tabOkF (fn := Tryz.f57) rfl rfl rfl rfl rfl rfl ?_
  refine WpC.loop tabOkF (β := Nat) (fun k => k ≤ s.length ∧ ∀ j, j < k → p (cd s j) = true) (fun k => [(5, .i .i64 k)]) (fun _ => []) (fun k => s.length - k) 0 524256 ⟨Nat.zero_le _, fun j hj => by omega⟩ ?_ ?_
  · exact ⟨rfl, ⟨⟨rfl, rfl, rfl⟩, trivial⟩, ⟨[], rfl⟩, trivial, rfl⟩
  · rintro k ⟨hk, ho⟩
    refine ⟨fun hg => ?_, ?_⟩
    · have hg : (decide ((k : Int) < s.length) == true) = true := hg
      have hg : k < s.length := by simpa using hg
      exact ⟨by omega, by omega⟩
    refine OpC.callV rfl rfl rfl rfl rfl rfl rfl (fun _ => hf (cd s k)) ?_
    refine ⟨fun h2 => ?_, fun h2 => ?_⟩
    · have h2 : (decide ((k : Int) < s.length) && p (cd s k)) = true := h2
      simp only [Bool.and_eq_true, decide_eq_true_eq] at h2
      refine ⟨k + 1, ⟨by omega, fun j hj => ?_⟩, by omega, rfl, ⟨⟨?_, rfl, rfl⟩, trivial⟩, ⟨[], rfl⟩, trivial, rfl⟩
      · rcases Nat.lt_succ_iff_lt_or_eq.1 hj with hj | rfl
        · exact ho j hj
        · exact h2.2
      · show SV.i .i64 (IntKind.i64.wrap ((k : Int) + 1)) = SV.i .i64 ((k + 1 : Nat) : Int)
        rw [w64 (by omega) (by omega)]; rfl
    · have h2 : (decide ((k : Int) < s.length) && p (cd s k)) = false := h2
      refine i_cg ?_
      rw [rowF_at p k s hk ho]
      by_cases h3 : k = s.length
      · exact .inl h3
      · have h4 : decide ((k : Int) < s.length) = true := by simp; omega
        rw [h4] at h2
        exact .inr h2
theorem pre_ok (s p : List UInt8) : CtrV Tryz.prog 122 [.s s, .s p] (.b (pre s p)) := by
  refine Ctr.enterV tabOkF (fn := Tryz.f122) rfl rfl rfl rfl rfl rfl ?_
  refine ⟨fun hg => ?_, rfl⟩
  have hg : (decide ((p.length : Int) ≤ s.length) == true) = true := hg
  have hg : p.length ≤ s.length := by simpa using hg
  exact ⟨by omega, by omega⟩
theorem hasPrefix_ok (s p : List UInt8) : CtrV Tryz.prog 54 [.s s, .s p] (.b (pre s p)) := by
  refine Ctr.enterV tabOkF (fn := Tryz.f54) rfl rfl rfl rfl rfl rfl ?_
  refine OpC.callV rfl rfl rfl rfl rfl rfl rfl (fun _ => pre_ok s p) ?_
  exact rfl
theorem pre_len {s p : List UInt8} (h : pre s p = true) : p.length ≤ s.length := by
  unfold pre at h; simp only [Bool.and_eq_true, decide_eq_true_eq] at h; omega
def cutP (s p : List UInt8) : List UInt8 := if pre s p then (s.take s.length).drop p.length else s
theorem cutPre_ok (s p : List UInt8) : CtrV Tryz.prog 200 [.s s, .s p] (.tup [.s (cutP s p), .b (pre s p)]) := by
  refine Ctr.enterV tabOkF (fn := Tryz.f200) rfl rfl rfl rfl rfl rfl ?_
  refine OpC.callV rfl rfl rfl rfl rfl rfl rfl (fun _ => pre_ok s p) ?_
  refine ⟨fun h => ?_, fun h => ?_⟩
  · have h : (!pre s p) = true := h
    have h : pre s p = false := by simpa using h
    show _ = SV.tup [.s (cutP s p), .b (pre s p)]
    unfold cutP
    rw [h]; rfl
  · have h : (!pre s p) = false := h
    have h : pre s p = true := by simpa using h
    refine ⟨fun _ => ?_, ?_⟩
    · have := pre_len h
      exact ⟨by omega, by omega⟩
    · show _ = SV.tup [.s (cutP s p), .b (pre s p)]
      unfold cutP
      rw [h]; rfl
theorem cutPrefix_ok (s p : List UInt8) : CtrV Tryz.prog 124 [.s s, .s p] (.tup [.s (cutP s p), .b (pre s p)]) := by
  refine Ctr.enterV tabOkF (fn := Tryz.f124) rfl rfl rfl rfl rfl rfl ?_
  refine OpC.callV rfl rfl rfl rfl rfl rfl rfl (fun _ => cutPre_ok s p) ?_
  exact rfl
end SX
end Go.Proofs.YtlgjjklikbpcoaaGreatDoor
