/- ArmBack: what is printed of an instruction of Arm is parsed as it was, but for where a branch goes; what was parsed is printed, and parsed again it is the same. -/
import Derived.Test.YthkedcneehdinaaGreatDoorCards
import Derived.Test.YthkedcneehdinaaGreatDoorTie
import Derived.SevenTiedAt
import Derived.Test.YthkedcneehdinaaGreatDoorUH
set_option linter.unusedVariables false
set_option linter.unusedSimpArgs false
set_option linter.unusedSectionVars false
/- riscv: its texts, by operation. Printed by xpv.py. -/
set_option linter.unusedVariables false
set_option maxRecDepth 100000
namespace Go.Proofs.YthkedcneehdinaaGreatDoor
namespace SX
open Go Go.Proofs
theorem tup_line {t n : List UInt8} {xs : List (List UInt8)} (h : t = lineF n xs) : SV.tup [.s (lineF n xs), .b true] = SV.tup [.s t, .b (!decide (t = []))] := by subst h; rw [decide_eq_false line_ne]; rfl
theorem tup_none {t : List UInt8} (h : t = []) : SV.tup [.s [], .b false] = SV.tup [.s t, .b (!decide (t = []))] := by subst h; rfl
theorem tup_word {t n : List UInt8} (h : t = n) (hn : n ≠ []) : SV.tup [.s n, .b true] = SV.tup [.s t, .b (!decide (t = []))] := by subst h; rw [decide_eq_false hn]; rfl
section
variable {op dst a b imm loc off ix sz fn pr su to : Int} {acq wk rel ze : Bool} {lb : List UInt8}
end
end SX
end Go.Proofs.YthkedcneehdinaaGreatDoor

/- arm: its texts, by operation. Printed by xpv.py. -/
set_option linter.unusedVariables false
set_option maxRecDepth 100000
namespace Go.Proofs.YthkedcneehdinaaGreatDoor
namespace SX
open Go Go.Proofs
section
variable {op dst a b imm loc off ix sz fn pr su to : Int} {acq wk rel ze : Bool} {lb : List UInt8}
theorem paT_1 (e : op = 1)  : paT ⟨op, dst, a, b, imm, loc, off, ix, sz, fn, acq, wk, rel, pr, su, to, ze⟩ lb = lineF [77, 79, 86] [nmF (regsL 3) dst, orF (regsL 3) [35] (-1) imm] := by
  subst e
  rfl
theorem paT_2 (e : op = 2)  : paT ⟨op, dst, a, b, imm, loc, off, ix, sz, fn, acq, wk, rel, pr, su, to, ze⟩ lb = lineF [77, 79, 86] [nmF (regsL 3) dst, nmF (regsL 3) a] := by
  subst e
  rfl
theorem paT_3x (e : op = 3)  : paT ⟨op, dst, a, b, imm, loc, off, ix, sz, fn, acq, wk, rel, pr, su, to, ze⟩ lb = lineF (fnT 3 fn) [nmF (regsL 3) dst, nmF (regsL 3) a, orF (regsL 3) [35] b imm] := by
  subst e
  rfl
theorem paT_4w (e : op = 4) (hw : wk = true) : paT ⟨op, dst, a, b, imm, loc, off, ix, sz, fn, acq, wk, rel, pr, su, to, ze⟩ lb = lineF ([76, 68, 65, 80, 82] ++ szT 3 sz) [nmF (regsL 3) dst, atF (regsL 3) ⟨op, dst, a, b, imm, loc, off, ix, sz, fn, acq, wk, rel, pr, su, to, ze⟩] := by
  subst e
  subst hw; rfl
theorem paT_4a (e : op = 4) (hw : wk = false) (hq : acq = true) : paT ⟨op, dst, a, b, imm, loc, off, ix, sz, fn, acq, wk, rel, pr, su, to, ze⟩ lb = lineF ([76, 68, 65, 82] ++ szT 3 sz) [nmF (regsL 3) dst, atF (regsL 3) ⟨op, dst, a, b, imm, loc, off, ix, sz, fn, acq, wk, rel, pr, su, to, ze⟩] := by
  subst e
  subst hw; subst hq; rfl
theorem paT_4n (e : op = 4) (hw : wk = false) (hq : acq = false) : paT ⟨op, dst, a, b, imm, loc, off, ix, sz, fn, acq, wk, rel, pr, su, to, ze⟩ lb = lineF ([76, 68, 82] ++ szT 3 sz) [nmF (regsL 3) dst, atF (regsL 3) ⟨op, dst, a, b, imm, loc, off, ix, sz, fn, acq, wk, rel, pr, su, to, ze⟩] := by
  subst e
  subst hw; subst hq; rfl
theorem paT_5r (e : op = 5) (hb : ¬ a < 0) (hr : rel = true) : paT ⟨op, dst, a, b, imm, loc, off, ix, sz, fn, acq, wk, rel, pr, su, to, ze⟩ lb = lineF ([83, 84, 76, 82] ++ szT 3 sz) [nmF (regsL 3) a, atF (regsL 3) ⟨op, dst, a, b, imm, loc, off, ix, sz, fn, acq, wk, rel, pr, su, to, ze⟩] := by
  subst e
  subst hr; exact if_neg hb
theorem paT_5n (e : op = 5) (hb : ¬ a < 0) (hr : rel = false) : paT ⟨op, dst, a, b, imm, loc, off, ix, sz, fn, acq, wk, rel, pr, su, to, ze⟩ lb = lineF ([83, 84, 82] ++ szT 3 sz) [nmF (regsL 3) a, atF (regsL 3) ⟨op, dst, a, b, imm, loc, off, ix, sz, fn, acq, wk, rel, pr, su, to, ze⟩] := by
  subst e
  subst hr; exact if_neg hb
theorem paT_6_111 (e : op = 6) (hf : fn = 1) (hq : acq = true) (hr : rel = true) : paT ⟨op, dst, a, b, imm, loc, off, ix, sz, fn, acq, wk, rel, pr, su, to, ze⟩ lb = lineF ((([76, 68, 65, 68, 68] ++ [65]) ++ [76]) ++ szT 3 sz) [nmF (regsL 3) a, nmF (regsL 3) dst, atF (regsL 3) ⟨op, dst, a, b, imm, loc, off, ix, sz, fn, acq, wk, rel, pr, su, to, ze⟩] := by
  subst e
  subst hq; subst hr
  show lineF (swT _) _ = _
  unfold swT
  dsimp only
  rw [if_pos hf]
  simp only [if_true, Bool.false_eq_true, if_false, List.append_nil]
theorem paT_6_110 (e : op = 6) (hf : fn = 1) (hq : acq = true) (hr : rel = false) : paT ⟨op, dst, a, b, imm, loc, off, ix, sz, fn, acq, wk, rel, pr, su, to, ze⟩ lb = lineF (([76, 68, 65, 68, 68] ++ [65]) ++ szT 3 sz) [nmF (regsL 3) a, nmF (regsL 3) dst, atF (regsL 3) ⟨op, dst, a, b, imm, loc, off, ix, sz, fn, acq, wk, rel, pr, su, to, ze⟩] := by
  subst e
  subst hq; subst hr
  show lineF (swT _) _ = _
  unfold swT
  dsimp only
  rw [if_pos hf]
  simp only [if_true, Bool.false_eq_true, if_false, List.append_nil]
theorem paT_6_101 (e : op = 6) (hf : fn = 1) (hq : acq = false) (hr : rel = true) : paT ⟨op, dst, a, b, imm, loc, off, ix, sz, fn, acq, wk, rel, pr, su, to, ze⟩ lb = lineF (([76, 68, 65, 68, 68] ++ [76]) ++ szT 3 sz) [nmF (regsL 3) a, nmF (regsL 3) dst, atF (regsL 3) ⟨op, dst, a, b, imm, loc, off, ix, sz, fn, acq, wk, rel, pr, su, to, ze⟩] := by
  subst e
  subst hq; subst hr
  show lineF (swT _) _ = _
  unfold swT
  dsimp only
  rw [if_pos hf]
  simp only [if_true, Bool.false_eq_true, if_false, List.append_nil]
theorem paT_6_100 (e : op = 6) (hf : fn = 1) (hq : acq = false) (hr : rel = false) : paT ⟨op, dst, a, b, imm, loc, off, ix, sz, fn, acq, wk, rel, pr, su, to, ze⟩ lb = lineF ([76, 68, 65, 68, 68] ++ szT 3 sz) [nmF (regsL 3) a, nmF (regsL 3) dst, atF (regsL 3) ⟨op, dst, a, b, imm, loc, off, ix, sz, fn, acq, wk, rel, pr, su, to, ze⟩] := by
  subst e
  subst hq; subst hr
  show lineF (swT _) _ = _
  unfold swT
  dsimp only
  rw [if_pos hf]
  simp only [if_true, Bool.false_eq_true, if_false, List.append_nil]
theorem paT_6_011 (e : op = 6) (hf : ¬ fn = 1) (hq : acq = true) (hr : rel = true) : paT ⟨op, dst, a, b, imm, loc, off, ix, sz, fn, acq, wk, rel, pr, su, to, ze⟩ lb = lineF ((([83, 87, 80] ++ [65]) ++ [76]) ++ szT 3 sz) [nmF (regsL 3) a, nmF (regsL 3) dst, atF (regsL 3) ⟨op, dst, a, b, imm, loc, off, ix, sz, fn, acq, wk, rel, pr, su, to, ze⟩] := by
  subst e
  subst hq; subst hr
  show lineF (swT _) _ = _
  unfold swT
  dsimp only
  rw [if_neg hf]
  simp only [if_true, Bool.false_eq_true, if_false, List.append_nil]
theorem paT_6_010 (e : op = 6) (hf : ¬ fn = 1) (hq : acq = true) (hr : rel = false) : paT ⟨op, dst, a, b, imm, loc, off, ix, sz, fn, acq, wk, rel, pr, su, to, ze⟩ lb = lineF (([83, 87, 80] ++ [65]) ++ szT 3 sz) [nmF (regsL 3) a, nmF (regsL 3) dst, atF (regsL 3) ⟨op, dst, a, b, imm, loc, off, ix, sz, fn, acq, wk, rel, pr, su, to, ze⟩] := by
  subst e
  subst hq; subst hr
  show lineF (swT _) _ = _
  unfold swT
  dsimp only
  rw [if_neg hf]
  simp only [if_true, Bool.false_eq_true, if_false, List.append_nil]
theorem paT_6_001 (e : op = 6) (hf : ¬ fn = 1) (hq : acq = false) (hr : rel = true) : paT ⟨op, dst, a, b, imm, loc, off, ix, sz, fn, acq, wk, rel, pr, su, to, ze⟩ lb = lineF (([83, 87, 80] ++ [76]) ++ szT 3 sz) [nmF (regsL 3) a, nmF (regsL 3) dst, atF (regsL 3) ⟨op, dst, a, b, imm, loc, off, ix, sz, fn, acq, wk, rel, pr, su, to, ze⟩] := by
  subst e
  subst hq; subst hr
  show lineF (swT _) _ = _
  unfold swT
  dsimp only
  rw [if_neg hf]
  simp only [if_true, Bool.false_eq_true, if_false, List.append_nil]
theorem paT_6_000 (e : op = 6) (hf : ¬ fn = 1) (hq : acq = false) (hr : rel = false) : paT ⟨op, dst, a, b, imm, loc, off, ix, sz, fn, acq, wk, rel, pr, su, to, ze⟩ lb = lineF ([83, 87, 80] ++ szT 3 sz) [nmF (regsL 3) a, nmF (regsL 3) dst, atF (regsL 3) ⟨op, dst, a, b, imm, loc, off, ix, sz, fn, acq, wk, rel, pr, su, to, ze⟩] := by
  subst e
  subst hq; subst hr
  show lineF (swT _) _ = _
  unfold swT
  dsimp only
  rw [if_neg hf]
  simp only [if_true, Bool.false_eq_true, if_false, List.append_nil]
theorem paT_7sy (e : op = 7) (hp : pr = 3) (hs : su = 3) : paT ⟨op, dst, a, b, imm, loc, off, ix, sz, fn, acq, wk, rel, pr, su, to, ze⟩ lb = lineF [68, 77, 66] [[83, 89]] := by
  subst e
  subst hp; subst hs; rfl
theorem paT_7ld (e : op = 7) (hp : pr = 1) (hs : su = 3) : paT ⟨op, dst, a, b, imm, loc, off, ix, sz, fn, acq, wk, rel, pr, su, to, ze⟩ lb = lineF [68, 77, 66] [[76, 68]] := by
  subst e
  subst hp; subst hs; rfl
theorem paT_7st (e : op = 7) (hp : pr = 2) (hs : su = 2) : paT ⟨op, dst, a, b, imm, loc, off, ix, sz, fn, acq, wk, rel, pr, su, to, ze⟩ lb = lineF [68, 77, 66] [[83, 84]] := by
  subst e
  subst hp; subst hs; rfl
theorem paT_7n (e : op = 7) (h : ¬ (pr = 3 ∧ su = 3) ∧ ¬ (pr = 1 ∧ su = 3) ∧ ¬ (pr = 2 ∧ su = 2)) : paT ⟨op, dst, a, b, imm, loc, off, ix, sz, fn, acq, wk, rel, pr, su, to, ze⟩ lb = [] := by
  subst e
  simp [paT, h.1, h.2.1, h.2.2]
theorem paT_8 (e : op = 8)  : paT ⟨op, dst, a, b, imm, loc, off, ix, sz, fn, acq, wk, rel, pr, su, to, ze⟩ lb = [73, 83, 66] := by
  subst e
  rfl
theorem paT_9z (e : op = 9) (hz : ze = true) : paT ⟨op, dst, a, b, imm, loc, off, ix, sz, fn, acq, wk, rel, pr, su, to, ze⟩ lb = lineF [67, 66, 90] [nmF (regsL 3) a, lb] := by
  subst e
  subst hz; rfl
theorem paT_9n (e : op = 9) (hz : ze = false) : paT ⟨op, dst, a, b, imm, loc, off, ix, sz, fn, acq, wk, rel, pr, su, to, ze⟩ lb = lineF [67, 66, 78, 90] [nmF (regsL 3) a, lb] := by
  subst e
  subst hz; rfl
theorem paT_0 (h : op ≠ 1 ∧ op ≠ 2 ∧ op ≠ 3 ∧ op ≠ 4 ∧ op ≠ 6 ∧ op ≠ 7 ∧ op ≠ 8 ∧ op ≠ 9 ∧ (op = 5 → a < 0)) : paT ⟨op, dst, a, b, imm, loc, off, ix, sz, fn, acq, wk, rel, pr, su, to, ze⟩ lb = [] := by
  obtain ⟨h1, h2, h3, h4, h6, h7, h8, h9, h5⟩ := h
  unfold paT
  dsimp only
  rw [if_neg h1, if_neg h2, if_neg h3, if_neg h4]
  split
  · rename_i e; exact if_pos (h5 e)
  first | rfl | rw [if_neg h6, if_neg h7, if_neg h8, if_neg h9]
end
end SX
end Go.Proofs.YthkedcneehdinaaGreatDoor

/- arm: which of three barriers two sides are. -/
set_option linter.unusedVariables false
set_option maxRecDepth 100000
namespace Go.Proofs.YthkedcneehdinaaGreatDoor
namespace SX
open Go Go.Proofs
def barB : SB := .mem 190 [.i .i64 3, .i .i64 3, .i .i64 1, .i .i64 3, .i .i64 2, .i .i64 2] 1 0
def idxB (p s : Int) : Int := if p = 3 ∧ s = 3 then 0 else if p = 1 ∧ s = 3 then 1 else if p = 2 ∧ s = 2 then 2 else -1
theorem and_dec {p q : Prop} [Decidable p] [Decidable q] (h : (decide p && decide q) = true) : p ∧ q := by simpa using h
theorem and_decN {p q : Prop} [Decidable p] [Decidable q] (h : (decide p && decide q) = false) : ¬ (p ∧ q) := by
  intro hh; rw [decide_eq_true hh.1, decide_eq_true hh.2] at h; cases h
set_option maxHeartbeats 1000000 in
theorem idxB_ok (p s : Int) : Ctr Tryz.prog 177 [.sl 0 1 0 3 (some 3) 0, .agg [.i .i64 p, .i .i64 s]] [barB] (fun r h => r = .i .i64 (idxB p s) ∧ h = [barB]) := by
  refine Ctr.enterG tabOkF (fn := Tryz.f177) rfl rfl rfl rfl rfl rfl ⟨⟨rfl, rfl, rfl, rfl, rfl, rfl, trivial⟩, trivial⟩ ?_
  have hB : BndH 2 [barB, .mem 190 [.i .i64 p, .i .i64 s] 1 0] := ⟨⟨rfl, rfl, rfl, rfl, rfl, rfl, trivial⟩, ⟨rfl, rfl, trivial⟩, trivial⟩
  refine WpC.loop tabOkF (β := Nat) (fun k => k ≤ 3 ∧ (0 < k → ¬ (p = 3 ∧ s = 3)) ∧ (1 < k → ¬ (p = 1 ∧ s = 3)) ∧ (2 < k → ¬ (p = 2 ∧ s = 2))) (fun k => [(8, .i .i64 k)]) (fun _ => [barB, .mem 190 [.i .i64 p, .i .i64 s] 1 0]) (fun k => 3 - k) 0 524080 ⟨by decide, fun h => absurd h (by decide), fun h => absurd h (by decide), fun h => absurd h (by decide)⟩ ?_ ?_
  · exact ⟨rfl, ⟨⟨rfl, rfl, rfl⟩, trivial⟩, ⟨[], rfl⟩, hB, rfl⟩
  · rintro k ⟨hk, q0, q1, q2⟩
    rcases (by omega : k = 0 ∨ k = 1 ∨ k = 2 ∨ k = 3) with rfl | rfl | rfl | rfl
    · refine ⟨fun _ => ?_, fun h => absurd h (by decide)⟩
      refine WpC.dr tabOkF mixed 0 ?_
      refine ⟨fun _ => by decide, ?_⟩
      refine ⟨by kernel_rfl, ?_⟩
      refine ⟨fun h => ?_, fun h => ?_⟩
      · have e := and_dec (show (decide (p = 3) && decide (s = 3)) = true from h)
        refine ⟨i_cg ?_, _, rfl⟩
        unfold idxB
        rw [if_pos e]
        rfl
      · have e0 := and_decN (show (decide (p = 3) && decide (s = 3)) = false from h)
        exact ⟨1, ⟨by decide, fun _ => e0, fun h => absurd h (by decide), fun h => absurd h (by decide)⟩, by decide, rfl, ⟨⟨rfl, rfl, rfl⟩, trivial⟩, ⟨[], rfl⟩, hB, rfl⟩
    · have e0 := q0 (by decide)
      refine ⟨fun _ => ?_, fun h => absurd h (by decide)⟩
      refine WpC.dr tabOkF mixed 0 ?_
      refine ⟨fun _ => by decide, ?_⟩
      refine ⟨by kernel_rfl, ?_⟩
      refine ⟨fun h => ?_, fun h => ?_⟩
      · have e := and_dec (show (decide (p = 1) && decide (s = 3)) = true from h)
        refine ⟨i_cg ?_, _, rfl⟩
        unfold idxB
        rw [if_neg e0]
        rw [if_pos e]
        rfl
      · have e1 := and_decN (show (decide (p = 1) && decide (s = 3)) = false from h)
        exact ⟨2, ⟨by decide, fun _ => e0, fun _ => e1, fun h => absurd h (by decide)⟩, by decide, rfl, ⟨⟨rfl, rfl, rfl⟩, trivial⟩, ⟨[], rfl⟩, hB, rfl⟩
    · have e0 := q0 (by decide)
      have e1 := q1 (by decide)
      refine ⟨fun _ => ?_, fun h => absurd h (by decide)⟩
      refine WpC.dr tabOkF mixed 0 ?_
      refine ⟨fun _ => by decide, ?_⟩
      refine ⟨by kernel_rfl, ?_⟩
      refine ⟨fun h => ?_, fun h => ?_⟩
      · have e := and_dec (show (decide (p = 2) && decide (s = 2)) = true from h)
        refine ⟨i_cg ?_, _, rfl⟩
        unfold idxB
        rw [if_neg e0]
        rw [if_neg e1]
        rw [if_pos e]
        rfl
      · have e2 := and_decN (show (decide (p = 2) && decide (s = 2)) = false from h)
        exact ⟨3, ⟨by decide, fun _ => e0, fun _ => e1, fun _ => e2⟩, by decide, rfl, ⟨⟨rfl, rfl, rfl⟩, trivial⟩, ⟨[], rfl⟩, hB, rfl⟩
    · have e0 := q0 (by decide)
      have e1 := q1 (by decide)
      have e2 := q2 (by decide)
      refine ⟨fun h => absurd h (by decide), fun _ => ⟨i_cg ?_, _, rfl⟩⟩
      unfold idxB
      rw [if_neg e0, if_neg e1, if_neg e2]
end SX
end Go.Proofs.YthkedcneehdinaaGreatDoor

/- arm: texts of instructions, the program's. Printed by xpv.py. -/
set_option linter.unusedVariables false
set_option maxRecDepth 100000
namespace Go.Proofs.YthkedcneehdinaaGreatDoor
namespace SX
open Go Go.Proofs
def AH : List SB := [rowS [88, 48] [88, 49] [88, 50] [88, 51] [88, 52] [88, 53] [88, 54] [88, 55], langB [35] 103 104]
def AOne (i : In) (lb t : List UInt8) : Prop :=
  Ctr Tryz.prog 104 [.ptr 1 1 0 [], .agg (ienc i), .s lb] AH (fun r h' => r = .tup [.s t, .b (!decide (t = []))] ∧ h' = AH)
def AFnB : SB := .mem 9 [.s ([]), .s ([65, 68, 68]), .s ([83, 85, 66]), .s ([69, 79, 82]), .s ([65, 78, 68]), .s ([79, 82, 82])] 1 0
theorem Afns_ok : Ctr Tryz.prog 173 [] [] (fun r h => r = .sl 0 1 0 6 (some 6) 0 ∧ h = [AFnB]) :=
  memo_of (tr := treeF) (ft := ftree) (ms := []) (n := 40) (m := Memo.mk 173 [] [] (.sl 0 1 0 6 (some 6) 0) [AFnB]) tabOkF ftOk mixed (by intro m hm; cases hm) (by decide +kernel)
set_option maxHeartbeats 4000000 in
theorem arm_one (i : In) (lb : List UInt8) (hf : formP i = true) (hi : in64 i.imm) (hl : lb.length ≤ 90000) : AOne i lb (paT i lb) := by
  obtain ⟨op, dst, a, b, imm, loc, off, ix, sz, fn, acq, wk, rel, pr, su, to, ze⟩ := i
  have hi : in64 imm := hi
  have hsl : (endF sz [66] [72] [87] []).length ≤ 1 := sz_len 3 sz
  refine Ctr.enterG tabOkF (fn := Tryz.f104) rfl rfl rfl rfl rfl rfl bndLang ?_
  refine OpC.callG rfl rfl rfl rfl rfl rfl (fun _ => Ctr.spread (end_ok sz [66] [72] [87] []) (fun ρ => rfl) _ [3] rfl rfl ⟨rfl, trivial⟩ rfl) ?_
  refine OpC.callL rfl rfl rfl rfl [] 2 rfl rfl rfl (ArmBar_ok : Ctr Tryz.prog 174 [] [] _) rfl rfl rfl rfl trivial rfl (fun r H' hk => ?_) ?_
  · obtain ⟨rfl, rfl⟩ := hk; exact ⟨Nat.zero_le _, Nat.le_refl _⟩
  rintro r H' ⟨rfl, rfl⟩
  refine ⟨fun h1 => ?_, fun n1 => ?_⟩
  · have h1 : decide (op = 1) = true := h1
    have e : op = 1 := of_decide_eq_true h1
    refine WpC.dr tabOkF mixed 1 ?_
    refine OpD.callG [0, 1] rfl rfl rfl rfl rfl rfl (r := .s (nmF (regsL 3) dst)) (fun _ H1 hH => Ctr.spread (lname_ok [88, 48] [88, 49] [88, 50] [88, 51] [88, 52] [88, 53] [88, 54] [88, 55] [35] 103 104 dst) (fun ρ => rfl) H1 [0, 1] rfl rfl ⟨hH 0 (by simp), hH 1 (by simp), trivial⟩ rfl) ?_
    refine OpD.callG [0, 1] rfl rfl rfl rfl rfl rfl (r := .s (orF (regsL 3) [35] (-1) imm)) (fun _ H1 hH => Ctr.spread (lor_ok [88, 48] [88, 49] [88, 50] [88, 51] [88, 52] [88, 53] [88, 54] [88, 55] [35] 103 104 (-1) imm hi (by decide)) (fun ρ => rfl) H1 [0, 1] rfl rfl ⟨hH 0 (by simp), hH 1 (by simp), trivial⟩ rfl) ?_
    refine OpD.callG [6] rfl rfl rfl rfl rfl rfl (r := .s (lineF [77, 79, 86] [nmF (regsL 3) dst, orF (regsL 3) [35] (-1) imm])) (fun _ H1 hH => Ctr.spread (line_ok [77, 79, 86] [nmF (regsL 3) dst, orF (regsL 3) [35] (-1) imm] 2 rfl (by decide) (by decide) (by rw [jn2]; have := nm_len3 3 dst; have := or_len 3 (-1) imm [35] (by decide) hi; simp only [List.length_append, List.length_cons, List.length_nil]; omega) (by decide)) (fun ρ => rfl) H1 [6] rfl rfl ⟨hH 6 (by simp), trivial⟩ rfl) ?_
    refine ⟨by kernel_rfl, ?_⟩
    exact ⟨tup_line (paT_1 e), _, rfl⟩
  have n1 : decide (op = 1) = false := n1
  refine ⟨fun h2 => ?_, fun n2 => ?_⟩
  · have h2 : decide (op = 2) = true := h2
    have e : op = 2 := of_decide_eq_true h2
    refine WpC.dr tabOkF mixed 1 ?_
    refine OpD.callG [0, 1] rfl rfl rfl rfl rfl rfl (r := .s (nmF (regsL 3) dst)) (fun _ H1 hH => Ctr.spread (lname_ok [88, 48] [88, 49] [88, 50] [88, 51] [88, 52] [88, 53] [88, 54] [88, 55] [35] 103 104 dst) (fun ρ => rfl) H1 [0, 1] rfl rfl ⟨hH 0 (by simp), hH 1 (by simp), trivial⟩ rfl) ?_
    refine OpD.callG [0, 1] rfl rfl rfl rfl rfl rfl (r := .s (nmF (regsL 3) a)) (fun _ H1 hH => Ctr.spread (lname_ok [88, 48] [88, 49] [88, 50] [88, 51] [88, 52] [88, 53] [88, 54] [88, 55] [35] 103 104 a) (fun ρ => rfl) H1 [0, 1] rfl rfl ⟨hH 0 (by simp), hH 1 (by simp), trivial⟩ rfl) ?_
    refine OpD.callG [6] rfl rfl rfl rfl rfl rfl (r := .s (lineF [77, 79, 86] [nmF (regsL 3) dst, nmF (regsL 3) a])) (fun _ H1 hH => Ctr.spread (line_ok [77, 79, 86] [nmF (regsL 3) dst, nmF (regsL 3) a] 2 rfl (by decide) (by decide) (by rw [jn2]; have := nm_len3 3 dst; have := nm_len3 3 a; simp only [List.length_append, List.length_cons, List.length_nil]; omega) (by decide)) (fun ρ => rfl) H1 [6] rfl rfl ⟨hH 6 (by simp), trivial⟩ rfl) ?_
    refine ⟨by kernel_rfl, ?_⟩
    exact ⟨tup_line (paT_2 e), _, rfl⟩
  have n2 : decide (op = 2) = false := n2
  refine ⟨fun h3 => ?_, fun n3 => ?_⟩
  · have h3 : decide (op = 3) = true := h3
    have e : op = 3 := of_decide_eq_true h3
    have hfn := (fm3 hf e).2.2.1
    have hfn : fn = 1 ∨ fn = 2 ∨ fn = 3 ∨ fn = 4 ∨ fn = 5 := hfn
    rcases hfn with rfl | rfl | rfl | rfl | rfl
    · refine WpC.dr tabOkF mixed 2 ?_
      refine OpD.callL rfl rfl rfl rfl [] 1 rfl rfl Afns_ok rfl rfl rfl rfl trivial rfl rfl ?_
      refine ⟨fun _ => by show (0 : Int) ≤ 1 ∧ (1 : Int) < ((6 : Nat) : Int); decide, ?_⟩
      refine OpD.callG [0, 1] rfl rfl rfl rfl rfl rfl (r := .s (nmF (regsL 3) dst)) (fun _ H1 hH => Ctr.spread (lname_ok [88, 48] [88, 49] [88, 50] [88, 51] [88, 52] [88, 53] [88, 54] [88, 55] [35] 103 104 dst) (fun ρ => rfl) H1 [0, 1] rfl rfl ⟨hH 0 (by simp), hH 1 (by simp), trivial⟩ rfl) ?_
      refine OpD.callG [0, 1] rfl rfl rfl rfl rfl rfl (r := .s (nmF (regsL 3) a)) (fun _ H1 hH => Ctr.spread (lname_ok [88, 48] [88, 49] [88, 50] [88, 51] [88, 52] [88, 53] [88, 54] [88, 55] [35] 103 104 a) (fun ρ => rfl) H1 [0, 1] rfl rfl ⟨hH 0 (by simp), hH 1 (by simp), trivial⟩ rfl) ?_
      refine OpD.callG [0, 1] rfl rfl rfl rfl rfl rfl (r := .s (orF (regsL 3) [35] b imm)) (fun _ H1 hH => Ctr.spread (lor_ok [88, 48] [88, 49] [88, 50] [88, 51] [88, 52] [88, 53] [88, 54] [88, 55] [35] 103 104 b imm hi (by decide)) (fun ρ => rfl) H1 [0, 1] rfl rfl ⟨hH 0 (by simp), hH 1 (by simp), trivial⟩ rfl) ?_
      refine OpD.callG [7] rfl rfl rfl rfl rfl rfl (r := .s (lineF [65, 68, 68] [nmF (regsL 3) dst, nmF (regsL 3) a, orF (regsL 3) [35] b imm])) (fun _ H1 hH => Ctr.spread (line_ok [65, 68, 68] [nmF (regsL 3) dst, nmF (regsL 3) a, orF (regsL 3) [35] b imm] 3 rfl (by decide) (by decide) (by rw [jn3]; have := nm_len3 3 dst; have := nm_len3 3 a; have := or_len 3 b imm [35] (by decide) hi; simp only [List.length_append, List.length_cons, List.length_nil]; omega) (by decide)) (fun ρ => rfl) H1 [7] rfl rfl ⟨hH 7 (by simp), trivial⟩ rfl) ?_
      refine ⟨by kernel_rfl, ?_⟩
      exact ⟨tup_line (paT_3x e), _, rfl⟩
    · refine WpC.dr tabOkF mixed 2 ?_
      refine OpD.callL rfl rfl rfl rfl [] 1 rfl rfl Afns_ok rfl rfl rfl rfl trivial rfl rfl ?_
      refine ⟨fun _ => by show (0 : Int) ≤ 2 ∧ (2 : Int) < ((6 : Nat) : Int); decide, ?_⟩
      refine OpD.callG [0, 1] rfl rfl rfl rfl rfl rfl (r := .s (nmF (regsL 3) dst)) (fun _ H1 hH => Ctr.spread (lname_ok [88, 48] [88, 49] [88, 50] [88, 51] [88, 52] [88, 53] [88, 54] [88, 55] [35] 103 104 dst) (fun ρ => rfl) H1 [0, 1] rfl rfl ⟨hH 0 (by simp), hH 1 (by simp), trivial⟩ rfl) ?_
      refine OpD.callG [0, 1] rfl rfl rfl rfl rfl rfl (r := .s (nmF (regsL 3) a)) (fun _ H1 hH => Ctr.spread (lname_ok [88, 48] [88, 49] [88, 50] [88, 51] [88, 52] [88, 53] [88, 54] [88, 55] [35] 103 104 a) (fun ρ => rfl) H1 [0, 1] rfl rfl ⟨hH 0 (by simp), hH 1 (by simp), trivial⟩ rfl) ?_
      refine OpD.callG [0, 1] rfl rfl rfl rfl rfl rfl (r := .s (orF (regsL 3) [35] b imm)) (fun _ H1 hH => Ctr.spread (lor_ok [88, 48] [88, 49] [88, 50] [88, 51] [88, 52] [88, 53] [88, 54] [88, 55] [35] 103 104 b imm hi (by decide)) (fun ρ => rfl) H1 [0, 1] rfl rfl ⟨hH 0 (by simp), hH 1 (by simp), trivial⟩ rfl) ?_
      refine OpD.callG [7] rfl rfl rfl rfl rfl rfl (r := .s (lineF [83, 85, 66] [nmF (regsL 3) dst, nmF (regsL 3) a, orF (regsL 3) [35] b imm])) (fun _ H1 hH => Ctr.spread (line_ok [83, 85, 66] [nmF (regsL 3) dst, nmF (regsL 3) a, orF (regsL 3) [35] b imm] 3 rfl (by decide) (by decide) (by rw [jn3]; have := nm_len3 3 dst; have := nm_len3 3 a; have := or_len 3 b imm [35] (by decide) hi; simp only [List.length_append, List.length_cons, List.length_nil]; omega) (by decide)) (fun ρ => rfl) H1 [7] rfl rfl ⟨hH 7 (by simp), trivial⟩ rfl) ?_
      refine ⟨by kernel_rfl, ?_⟩
      exact ⟨tup_line (paT_3x e), _, rfl⟩
    · refine WpC.dr tabOkF mixed 2 ?_
      refine OpD.callL rfl rfl rfl rfl [] 1 rfl rfl Afns_ok rfl rfl rfl rfl trivial rfl rfl ?_
      refine ⟨fun _ => by show (0 : Int) ≤ 3 ∧ (3 : Int) < ((6 : Nat) : Int); decide, ?_⟩
      refine OpD.callG [0, 1] rfl rfl rfl rfl rfl rfl (r := .s (nmF (regsL 3) dst)) (fun _ H1 hH => Ctr.spread (lname_ok [88, 48] [88, 49] [88, 50] [88, 51] [88, 52] [88, 53] [88, 54] [88, 55] [35] 103 104 dst) (fun ρ => rfl) H1 [0, 1] rfl rfl ⟨hH 0 (by simp), hH 1 (by simp), trivial⟩ rfl) ?_
      refine OpD.callG [0, 1] rfl rfl rfl rfl rfl rfl (r := .s (nmF (regsL 3) a)) (fun _ H1 hH => Ctr.spread (lname_ok [88, 48] [88, 49] [88, 50] [88, 51] [88, 52] [88, 53] [88, 54] [88, 55] [35] 103 104 a) (fun ρ => rfl) H1 [0, 1] rfl rfl ⟨hH 0 (by simp), hH 1 (by simp), trivial⟩ rfl) ?_
      refine OpD.callG [0, 1] rfl rfl rfl rfl rfl rfl (r := .s (orF (regsL 3) [35] b imm)) (fun _ H1 hH => Ctr.spread (lor_ok [88, 48] [88, 49] [88, 50] [88, 51] [88, 52] [88, 53] [88, 54] [88, 55] [35] 103 104 b imm hi (by decide)) (fun ρ => rfl) H1 [0, 1] rfl rfl ⟨hH 0 (by simp), hH 1 (by simp), trivial⟩ rfl) ?_
      refine OpD.callG [7] rfl rfl rfl rfl rfl rfl (r := .s (lineF [69, 79, 82] [nmF (regsL 3) dst, nmF (regsL 3) a, orF (regsL 3) [35] b imm])) (fun _ H1 hH => Ctr.spread (line_ok [69, 79, 82] [nmF (regsL 3) dst, nmF (regsL 3) a, orF (regsL 3) [35] b imm] 3 rfl (by decide) (by decide) (by rw [jn3]; have := nm_len3 3 dst; have := nm_len3 3 a; have := or_len 3 b imm [35] (by decide) hi; simp only [List.length_append, List.length_cons, List.length_nil]; omega) (by decide)) (fun ρ => rfl) H1 [7] rfl rfl ⟨hH 7 (by simp), trivial⟩ rfl) ?_
      refine ⟨by kernel_rfl, ?_⟩
      exact ⟨tup_line (paT_3x e), _, rfl⟩
    · refine WpC.dr tabOkF mixed 2 ?_
      refine OpD.callL rfl rfl rfl rfl [] 1 rfl rfl Afns_ok rfl rfl rfl rfl trivial rfl rfl ?_
      refine ⟨fun _ => by show (0 : Int) ≤ 4 ∧ (4 : Int) < ((6 : Nat) : Int); decide, ?_⟩
      refine OpD.callG [0, 1] rfl rfl rfl rfl rfl rfl (r := .s (nmF (regsL 3) dst)) (fun _ H1 hH => Ctr.spread (lname_ok [88, 48] [88, 49] [88, 50] [88, 51] [88, 52] [88, 53] [88, 54] [88, 55] [35] 103 104 dst) (fun ρ => rfl) H1 [0, 1] rfl rfl ⟨hH 0 (by simp), hH 1 (by simp), trivial⟩ rfl) ?_
      refine OpD.callG [0, 1] rfl rfl rfl rfl rfl rfl (r := .s (nmF (regsL 3) a)) (fun _ H1 hH => Ctr.spread (lname_ok [88, 48] [88, 49] [88, 50] [88, 51] [88, 52] [88, 53] [88, 54] [88, 55] [35] 103 104 a) (fun ρ => rfl) H1 [0, 1] rfl rfl ⟨hH 0 (by simp), hH 1 (by simp), trivial⟩ rfl) ?_
      refine OpD.callG [0, 1] rfl rfl rfl rfl rfl rfl (r := .s (orF (regsL 3) [35] b imm)) (fun _ H1 hH => Ctr.spread (lor_ok [88, 48] [88, 49] [88, 50] [88, 51] [88, 52] [88, 53] [88, 54] [88, 55] [35] 103 104 b imm hi (by decide)) (fun ρ => rfl) H1 [0, 1] rfl rfl ⟨hH 0 (by simp), hH 1 (by simp), trivial⟩ rfl) ?_
      refine OpD.callG [7] rfl rfl rfl rfl rfl rfl (r := .s (lineF [65, 78, 68] [nmF (regsL 3) dst, nmF (regsL 3) a, orF (regsL 3) [35] b imm])) (fun _ H1 hH => Ctr.spread (line_ok [65, 78, 68] [nmF (regsL 3) dst, nmF (regsL 3) a, orF (regsL 3) [35] b imm] 3 rfl (by decide) (by decide) (by rw [jn3]; have := nm_len3 3 dst; have := nm_len3 3 a; have := or_len 3 b imm [35] (by decide) hi; simp only [List.length_append, List.length_cons, List.length_nil]; omega) (by decide)) (fun ρ => rfl) H1 [7] rfl rfl ⟨hH 7 (by simp), trivial⟩ rfl) ?_
      refine ⟨by kernel_rfl, ?_⟩
      exact ⟨tup_line (paT_3x e), _, rfl⟩
    · refine WpC.dr tabOkF mixed 2 ?_
      refine OpD.callL rfl rfl rfl rfl [] 1 rfl rfl Afns_ok rfl rfl rfl rfl trivial rfl rfl ?_
      refine ⟨fun _ => by show (0 : Int) ≤ 5 ∧ (5 : Int) < ((6 : Nat) : Int); decide, ?_⟩
      refine OpD.callG [0, 1] rfl rfl rfl rfl rfl rfl (r := .s (nmF (regsL 3) dst)) (fun _ H1 hH => Ctr.spread (lname_ok [88, 48] [88, 49] [88, 50] [88, 51] [88, 52] [88, 53] [88, 54] [88, 55] [35] 103 104 dst) (fun ρ => rfl) H1 [0, 1] rfl rfl ⟨hH 0 (by simp), hH 1 (by simp), trivial⟩ rfl) ?_
      refine OpD.callG [0, 1] rfl rfl rfl rfl rfl rfl (r := .s (nmF (regsL 3) a)) (fun _ H1 hH => Ctr.spread (lname_ok [88, 48] [88, 49] [88, 50] [88, 51] [88, 52] [88, 53] [88, 54] [88, 55] [35] 103 104 a) (fun ρ => rfl) H1 [0, 1] rfl rfl ⟨hH 0 (by simp), hH 1 (by simp), trivial⟩ rfl) ?_
      refine OpD.callG [0, 1] rfl rfl rfl rfl rfl rfl (r := .s (orF (regsL 3) [35] b imm)) (fun _ H1 hH => Ctr.spread (lor_ok [88, 48] [88, 49] [88, 50] [88, 51] [88, 52] [88, 53] [88, 54] [88, 55] [35] 103 104 b imm hi (by decide)) (fun ρ => rfl) H1 [0, 1] rfl rfl ⟨hH 0 (by simp), hH 1 (by simp), trivial⟩ rfl) ?_
      refine OpD.callG [7] rfl rfl rfl rfl rfl rfl (r := .s (lineF [79, 82, 82] [nmF (regsL 3) dst, nmF (regsL 3) a, orF (regsL 3) [35] b imm])) (fun _ H1 hH => Ctr.spread (line_ok [79, 82, 82] [nmF (regsL 3) dst, nmF (regsL 3) a, orF (regsL 3) [35] b imm] 3 rfl (by decide) (by decide) (by rw [jn3]; have := nm_len3 3 dst; have := nm_len3 3 a; have := or_len 3 b imm [35] (by decide) hi; simp only [List.length_append, List.length_cons, List.length_nil]; omega) (by decide)) (fun ρ => rfl) H1 [7] rfl rfl ⟨hH 7 (by simp), trivial⟩ rfl) ?_
      refine ⟨by kernel_rfl, ?_⟩
      exact ⟨tup_line (paT_3x e), _, rfl⟩
  have n3 : decide (op = 3) = false := n3
  refine ⟨fun h4 => ?_, fun n4 => ?_⟩
  · have h4 : decide (op = 4) = true := h4
    have e : op = 4 := of_decide_eq_true h4
    have ha := (fm4 hf e).2.1
    refine ⟨fun hq => ?_, fun hq => ?_⟩
    · have hq : acq = true := hq
      refine ⟨fun hw => ?_, fun hw => ?_⟩
      · have hw : wk = true := hw
        refine WpC.dr tabOkF mixed 1 ?_
        refine ⟨fun _ => ?_, ?_⟩
        · show ([76, 68, 65, 80, 82] : List UInt8).length + (endF sz [66] [72] [87] []).length ≤ 9223372036854775807
          simp only [List.length_append, List.length_cons, List.length_nil]; omega
        refine OpD.callG [0, 1] rfl rfl rfl rfl rfl rfl (r := .s (nmF (regsL 3) dst)) (fun _ H1 hH => Ctr.spread (lname_ok [88, 48] [88, 49] [88, 50] [88, 51] [88, 52] [88, 53] [88, 54] [88, 55] [35] 103 104 dst) (fun ρ => rfl) H1 [0, 1] rfl rfl ⟨hH 0 (by simp), hH 1 (by simp), trivial⟩ rfl) ?_
        refine OpD.callG [0, 1] rfl rfl rfl rfl rfl rfl (r := .s (atF (regsL 3) ⟨op, dst, a, b, imm, loc, off, ix, sz, fn, acq, wk, rel, pr, su, to, ze⟩)) (fun _ H1 hH => Ctr.spread (lat_ok [88, 48] [88, 49] [88, 50] [88, 51] [88, 52] [88, 53] [88, 54] [88, 55] [35] 103 104 (nm_len3 3) ⟨op, dst, a, b, imm, loc, off, ix, sz, fn, acq, wk, rel, pr, su, to, ze⟩ ha) (fun ρ => rfl) H1 [0, 1] rfl rfl ⟨hH 0 (by simp), hH 1 (by simp), trivial⟩ rfl) ?_
        refine OpD.callG [6] rfl rfl rfl rfl rfl rfl (r := .s (lineF (([76, 68, 65, 80, 82] : List UInt8) ++ (endF sz [66] [72] [87] [])) [nmF (regsL 3) dst, atF (regsL 3) ⟨op, dst, a, b, imm, loc, off, ix, sz, fn, acq, wk, rel, pr, su, to, ze⟩])) (fun _ H1 hH => Ctr.spread (line_ok (([76, 68, 65, 80, 82] : List UInt8) ++ (endF sz [66] [72] [87] [])) [nmF (regsL 3) dst, atF (regsL 3) ⟨op, dst, a, b, imm, loc, off, ix, sz, fn, acq, wk, rel, pr, su, to, ze⟩] 2 rfl (by decide) (by decide) (by rw [jn2]; have := nm_len3 3 dst; have := at_len (a := 3) ha; simp only [List.length_append, List.length_cons, List.length_nil]; omega) (by simp only [List.length_append, List.length_cons, List.length_nil]; omega)) (fun ρ => rfl) H1 [6] rfl rfl ⟨hH 6 (by simp), trivial⟩ rfl) ?_
        refine ⟨by kernel_rfl, ?_⟩
        exact ⟨tup_line (paT_4w e hw), _, rfl⟩
      · have hw : wk = false := hw
        refine WpC.dr tabOkF mixed 1 ?_
        refine ⟨fun _ => ?_, ?_⟩
        · show ([76, 68, 65, 82] : List UInt8).length + (endF sz [66] [72] [87] []).length ≤ 9223372036854775807
          simp only [List.length_append, List.length_cons, List.length_nil]; omega
        refine OpD.callG [0, 1] rfl rfl rfl rfl rfl rfl (r := .s (nmF (regsL 3) dst)) (fun _ H1 hH => Ctr.spread (lname_ok [88, 48] [88, 49] [88, 50] [88, 51] [88, 52] [88, 53] [88, 54] [88, 55] [35] 103 104 dst) (fun ρ => rfl) H1 [0, 1] rfl rfl ⟨hH 0 (by simp), hH 1 (by simp), trivial⟩ rfl) ?_
        refine OpD.callG [0, 1] rfl rfl rfl rfl rfl rfl (r := .s (atF (regsL 3) ⟨op, dst, a, b, imm, loc, off, ix, sz, fn, acq, wk, rel, pr, su, to, ze⟩)) (fun _ H1 hH => Ctr.spread (lat_ok [88, 48] [88, 49] [88, 50] [88, 51] [88, 52] [88, 53] [88, 54] [88, 55] [35] 103 104 (nm_len3 3) ⟨op, dst, a, b, imm, loc, off, ix, sz, fn, acq, wk, rel, pr, su, to, ze⟩ ha) (fun ρ => rfl) H1 [0, 1] rfl rfl ⟨hH 0 (by simp), hH 1 (by simp), trivial⟩ rfl) ?_
        refine OpD.callG [6] rfl rfl rfl rfl rfl rfl (r := .s (lineF (([76, 68, 65, 82] : List UInt8) ++ (endF sz [66] [72] [87] [])) [nmF (regsL 3) dst, atF (regsL 3) ⟨op, dst, a, b, imm, loc, off, ix, sz, fn, acq, wk, rel, pr, su, to, ze⟩])) (fun _ H1 hH => Ctr.spread (line_ok (([76, 68, 65, 82] : List UInt8) ++ (endF sz [66] [72] [87] [])) [nmF (regsL 3) dst, atF (regsL 3) ⟨op, dst, a, b, imm, loc, off, ix, sz, fn, acq, wk, rel, pr, su, to, ze⟩] 2 rfl (by decide) (by decide) (by rw [jn2]; have := nm_len3 3 dst; have := at_len (a := 3) ha; simp only [List.length_append, List.length_cons, List.length_nil]; omega) (by simp only [List.length_append, List.length_cons, List.length_nil]; omega)) (fun ρ => rfl) H1 [6] rfl rfl ⟨hH 6 (by simp), trivial⟩ rfl) ?_
        refine ⟨by kernel_rfl, ?_⟩
        exact ⟨tup_line (paT_4a e hw hq), _, rfl⟩
    · have hq : acq = false := hq
      refine ⟨fun hw => ?_, fun hw => ?_⟩
      · have hw : wk = true := hw
        refine WpC.dr tabOkF mixed 1 ?_
        refine ⟨fun _ => ?_, ?_⟩
        · show ([76, 68, 65, 80, 82] : List UInt8).length + (endF sz [66] [72] [87] []).length ≤ 9223372036854775807
          simp only [List.length_append, List.length_cons, List.length_nil]; omega
        refine OpD.callG [0, 1] rfl rfl rfl rfl rfl rfl (r := .s (nmF (regsL 3) dst)) (fun _ H1 hH => Ctr.spread (lname_ok [88, 48] [88, 49] [88, 50] [88, 51] [88, 52] [88, 53] [88, 54] [88, 55] [35] 103 104 dst) (fun ρ => rfl) H1 [0, 1] rfl rfl ⟨hH 0 (by simp), hH 1 (by simp), trivial⟩ rfl) ?_
        refine OpD.callG [0, 1] rfl rfl rfl rfl rfl rfl (r := .s (atF (regsL 3) ⟨op, dst, a, b, imm, loc, off, ix, sz, fn, acq, wk, rel, pr, su, to, ze⟩)) (fun _ H1 hH => Ctr.spread (lat_ok [88, 48] [88, 49] [88, 50] [88, 51] [88, 52] [88, 53] [88, 54] [88, 55] [35] 103 104 (nm_len3 3) ⟨op, dst, a, b, imm, loc, off, ix, sz, fn, acq, wk, rel, pr, su, to, ze⟩ ha) (fun ρ => rfl) H1 [0, 1] rfl rfl ⟨hH 0 (by simp), hH 1 (by simp), trivial⟩ rfl) ?_
        refine OpD.callG [6] rfl rfl rfl rfl rfl rfl (r := .s (lineF (([76, 68, 65, 80, 82] : List UInt8) ++ (endF sz [66] [72] [87] [])) [nmF (regsL 3) dst, atF (regsL 3) ⟨op, dst, a, b, imm, loc, off, ix, sz, fn, acq, wk, rel, pr, su, to, ze⟩])) (fun _ H1 hH => Ctr.spread (line_ok (([76, 68, 65, 80, 82] : List UInt8) ++ (endF sz [66] [72] [87] [])) [nmF (regsL 3) dst, atF (regsL 3) ⟨op, dst, a, b, imm, loc, off, ix, sz, fn, acq, wk, rel, pr, su, to, ze⟩] 2 rfl (by decide) (by decide) (by rw [jn2]; have := nm_len3 3 dst; have := at_len (a := 3) ha; simp only [List.length_append, List.length_cons, List.length_nil]; omega) (by simp only [List.length_append, List.length_cons, List.length_nil]; omega)) (fun ρ => rfl) H1 [6] rfl rfl ⟨hH 6 (by simp), trivial⟩ rfl) ?_
        refine ⟨by kernel_rfl, ?_⟩
        exact ⟨tup_line (paT_4w e hw), _, rfl⟩
      · have hw : wk = false := hw
        refine WpC.dr tabOkF mixed 1 ?_
        refine ⟨fun _ => ?_, ?_⟩
        · show ([76, 68, 82] : List UInt8).length + (endF sz [66] [72] [87] []).length ≤ 9223372036854775807
          simp only [List.length_append, List.length_cons, List.length_nil]; omega
        refine OpD.callG [0, 1] rfl rfl rfl rfl rfl rfl (r := .s (nmF (regsL 3) dst)) (fun _ H1 hH => Ctr.spread (lname_ok [88, 48] [88, 49] [88, 50] [88, 51] [88, 52] [88, 53] [88, 54] [88, 55] [35] 103 104 dst) (fun ρ => rfl) H1 [0, 1] rfl rfl ⟨hH 0 (by simp), hH 1 (by simp), trivial⟩ rfl) ?_
        refine OpD.callG [0, 1] rfl rfl rfl rfl rfl rfl (r := .s (atF (regsL 3) ⟨op, dst, a, b, imm, loc, off, ix, sz, fn, acq, wk, rel, pr, su, to, ze⟩)) (fun _ H1 hH => Ctr.spread (lat_ok [88, 48] [88, 49] [88, 50] [88, 51] [88, 52] [88, 53] [88, 54] [88, 55] [35] 103 104 (nm_len3 3) ⟨op, dst, a, b, imm, loc, off, ix, sz, fn, acq, wk, rel, pr, su, to, ze⟩ ha) (fun ρ => rfl) H1 [0, 1] rfl rfl ⟨hH 0 (by simp), hH 1 (by simp), trivial⟩ rfl) ?_
        refine OpD.callG [6] rfl rfl rfl rfl rfl rfl (r := .s (lineF (([76, 68, 82] : List UInt8) ++ (endF sz [66] [72] [87] [])) [nmF (regsL 3) dst, atF (regsL 3) ⟨op, dst, a, b, imm, loc, off, ix, sz, fn, acq, wk, rel, pr, su, to, ze⟩])) (fun _ H1 hH => Ctr.spread (line_ok (([76, 68, 82] : List UInt8) ++ (endF sz [66] [72] [87] [])) [nmF (regsL 3) dst, atF (regsL 3) ⟨op, dst, a, b, imm, loc, off, ix, sz, fn, acq, wk, rel, pr, su, to, ze⟩] 2 rfl (by decide) (by decide) (by rw [jn2]; have := nm_len3 3 dst; have := at_len (a := 3) ha; simp only [List.length_append, List.length_cons, List.length_nil]; omega) (by simp only [List.length_append, List.length_cons, List.length_nil]; omega)) (fun ρ => rfl) H1 [6] rfl rfl ⟨hH 6 (by simp), trivial⟩ rfl) ?_
        refine ⟨by kernel_rfl, ?_⟩
        exact ⟨tup_line (paT_4n e hw hq), _, rfl⟩
  have n4 : decide (op = 4) = false := n4
  refine ⟨fun h5 => ?_, fun n5 => ?_⟩
  · have h5 : (decide (op = 5) && decide (0 ≤ a)) = true := h5
    have e : op = 5 := by simp at h5; exact h5.1
    have hb : ¬ a < 0 := by simp at h5; omega
    have ha := (fm5 hf e).1
    refine ⟨fun hr => ?_, fun hr => ?_⟩
    · have hr : rel = true := hr
      refine WpC.dr tabOkF mixed 1 ?_
      refine ⟨fun _ => ?_, ?_⟩
      · show ([83, 84, 76, 82] : List UInt8).length + (endF sz [66] [72] [87] []).length ≤ 9223372036854775807
        simp only [List.length_append, List.length_cons, List.length_nil]; omega
      refine OpD.callG [0, 1] rfl rfl rfl rfl rfl rfl (r := .s (nmF (regsL 3) a)) (fun _ H1 hH => Ctr.spread (lname_ok [88, 48] [88, 49] [88, 50] [88, 51] [88, 52] [88, 53] [88, 54] [88, 55] [35] 103 104 a) (fun ρ => rfl) H1 [0, 1] rfl rfl ⟨hH 0 (by simp), hH 1 (by simp), trivial⟩ rfl) ?_
      refine OpD.callG [0, 1] rfl rfl rfl rfl rfl rfl (r := .s (atF (regsL 3) ⟨op, dst, a, b, imm, loc, off, ix, sz, fn, acq, wk, rel, pr, su, to, ze⟩)) (fun _ H1 hH => Ctr.spread (lat_ok [88, 48] [88, 49] [88, 50] [88, 51] [88, 52] [88, 53] [88, 54] [88, 55] [35] 103 104 (nm_len3 3) ⟨op, dst, a, b, imm, loc, off, ix, sz, fn, acq, wk, rel, pr, su, to, ze⟩ ha) (fun ρ => rfl) H1 [0, 1] rfl rfl ⟨hH 0 (by simp), hH 1 (by simp), trivial⟩ rfl) ?_
      refine OpD.callG [6] rfl rfl rfl rfl rfl rfl (r := .s (lineF (([83, 84, 76, 82] : List UInt8) ++ (endF sz [66] [72] [87] [])) [nmF (regsL 3) a, atF (regsL 3) ⟨op, dst, a, b, imm, loc, off, ix, sz, fn, acq, wk, rel, pr, su, to, ze⟩])) (fun _ H1 hH => Ctr.spread (line_ok (([83, 84, 76, 82] : List UInt8) ++ (endF sz [66] [72] [87] [])) [nmF (regsL 3) a, atF (regsL 3) ⟨op, dst, a, b, imm, loc, off, ix, sz, fn, acq, wk, rel, pr, su, to, ze⟩] 2 rfl (by decide) (by decide) (by rw [jn2]; have := nm_len3 3 a; have := at_len (a := 3) ha; simp only [List.length_append, List.length_cons, List.length_nil]; omega) (by simp only [List.length_append, List.length_cons, List.length_nil]; omega)) (fun ρ => rfl) H1 [6] rfl rfl ⟨hH 6 (by simp), trivial⟩ rfl) ?_
      refine ⟨by kernel_rfl, ?_⟩
      exact ⟨tup_line (paT_5r e hb hr), _, rfl⟩
    · have hr : rel = false := hr
      refine WpC.dr tabOkF mixed 1 ?_
      refine ⟨fun _ => ?_, ?_⟩
      · show ([83, 84, 82] : List UInt8).length + (endF sz [66] [72] [87] []).length ≤ 9223372036854775807
        simp only [List.length_append, List.length_cons, List.length_nil]; omega
      refine OpD.callG [0, 1] rfl rfl rfl rfl rfl rfl (r := .s (nmF (regsL 3) a)) (fun _ H1 hH => Ctr.spread (lname_ok [88, 48] [88, 49] [88, 50] [88, 51] [88, 52] [88, 53] [88, 54] [88, 55] [35] 103 104 a) (fun ρ => rfl) H1 [0, 1] rfl rfl ⟨hH 0 (by simp), hH 1 (by simp), trivial⟩ rfl) ?_
      refine OpD.callG [0, 1] rfl rfl rfl rfl rfl rfl (r := .s (atF (regsL 3) ⟨op, dst, a, b, imm, loc, off, ix, sz, fn, acq, wk, rel, pr, su, to, ze⟩)) (fun _ H1 hH => Ctr.spread (lat_ok [88, 48] [88, 49] [88, 50] [88, 51] [88, 52] [88, 53] [88, 54] [88, 55] [35] 103 104 (nm_len3 3) ⟨op, dst, a, b, imm, loc, off, ix, sz, fn, acq, wk, rel, pr, su, to, ze⟩ ha) (fun ρ => rfl) H1 [0, 1] rfl rfl ⟨hH 0 (by simp), hH 1 (by simp), trivial⟩ rfl) ?_
      refine OpD.callG [6] rfl rfl rfl rfl rfl rfl (r := .s (lineF (([83, 84, 82] : List UInt8) ++ (endF sz [66] [72] [87] [])) [nmF (regsL 3) a, atF (regsL 3) ⟨op, dst, a, b, imm, loc, off, ix, sz, fn, acq, wk, rel, pr, su, to, ze⟩])) (fun _ H1 hH => Ctr.spread (line_ok (([83, 84, 82] : List UInt8) ++ (endF sz [66] [72] [87] [])) [nmF (regsL 3) a, atF (regsL 3) ⟨op, dst, a, b, imm, loc, off, ix, sz, fn, acq, wk, rel, pr, su, to, ze⟩] 2 rfl (by decide) (by decide) (by rw [jn2]; have := nm_len3 3 a; have := at_len (a := 3) ha; simp only [List.length_append, List.length_cons, List.length_nil]; omega) (by simp only [List.length_append, List.length_cons, List.length_nil]; omega)) (fun ρ => rfl) H1 [6] rfl rfl ⟨hH 6 (by simp), trivial⟩ rfl) ?_
      refine ⟨by kernel_rfl, ?_⟩
      exact ⟨tup_line (paT_5n e hb hr), _, rfl⟩
  have n5 : (decide (op = 5) && decide (0 ≤ a)) = false := n5
  refine ⟨fun h6 => ?_, fun n6 => ?_⟩
  · have h6 : decide (op = 6) = true := h6
    have e : op = 6 := of_decide_eq_true h6
    have ha := (fm6 hf e).2.2.1
    refine ⟨fun hfn => ?_, fun hfn => ?_⟩
    · have hfn : fn = 1 := of_decide_eq_true hfn
      refine ⟨fun hq => ?_, fun hq => ?_⟩
      · have hq : acq = true := hq
        refine ⟨fun _ => ?_, ?_⟩
        · show ([76, 68, 65, 68, 68] : List UInt8).length + ([65] : List UInt8).length ≤ 9223372036854775807
          simp only [List.length_append, List.length_cons, List.length_nil]; omega
        refine ⟨fun hr => ?_, fun hr => ?_⟩
        · have hr : rel = true := hr
          refine ⟨fun _ => ?_, ?_⟩
          · show (([76, 68, 65, 68, 68] : List UInt8) ++ ([65] : List UInt8)).length + ([76] : List UInt8).length ≤ 9223372036854775807
            simp only [List.length_append, List.length_cons, List.length_nil]; omega
          refine WpC.dr tabOkF mixed 1 ?_
          refine ⟨fun _ => ?_, ?_⟩
          · show ((([76, 68, 65, 68, 68] : List UInt8) ++ ([65] : List UInt8)) ++ ([76] : List UInt8)).length + (endF sz [66] [72] [87] []).length ≤ 9223372036854775807
            simp only [List.length_append, List.length_cons, List.length_nil]; omega
          refine OpD.callG [0, 1] rfl rfl rfl rfl rfl rfl (r := .s (nmF (regsL 3) a)) (fun _ H1 hH => Ctr.spread (lname_ok [88, 48] [88, 49] [88, 50] [88, 51] [88, 52] [88, 53] [88, 54] [88, 55] [35] 103 104 a) (fun ρ => rfl) H1 [0, 1] rfl rfl ⟨hH 0 (by simp), hH 1 (by simp), trivial⟩ rfl) ?_
          refine OpD.callG [0, 1] rfl rfl rfl rfl rfl rfl (r := .s (nmF (regsL 3) dst)) (fun _ H1 hH => Ctr.spread (lname_ok [88, 48] [88, 49] [88, 50] [88, 51] [88, 52] [88, 53] [88, 54] [88, 55] [35] 103 104 dst) (fun ρ => rfl) H1 [0, 1] rfl rfl ⟨hH 0 (by simp), hH 1 (by simp), trivial⟩ rfl) ?_
          refine OpD.callG [0, 1] rfl rfl rfl rfl rfl rfl (r := .s (atF (regsL 3) ⟨op, dst, a, b, imm, loc, off, ix, sz, fn, acq, wk, rel, pr, su, to, ze⟩)) (fun _ H1 hH => Ctr.spread (lat_ok [88, 48] [88, 49] [88, 50] [88, 51] [88, 52] [88, 53] [88, 54] [88, 55] [35] 103 104 (nm_len3 3) ⟨op, dst, a, b, imm, loc, off, ix, sz, fn, acq, wk, rel, pr, su, to, ze⟩ ha) (fun ρ => rfl) H1 [0, 1] rfl rfl ⟨hH 0 (by simp), hH 1 (by simp), trivial⟩ rfl) ?_
          refine OpD.callG [6] rfl rfl rfl rfl rfl rfl (r := .s (lineF (((([76, 68, 65, 68, 68] : List UInt8) ++ ([65] : List UInt8)) ++ ([76] : List UInt8)) ++ (endF sz [66] [72] [87] [])) [nmF (regsL 3) a, nmF (regsL 3) dst, atF (regsL 3) ⟨op, dst, a, b, imm, loc, off, ix, sz, fn, acq, wk, rel, pr, su, to, ze⟩])) (fun _ H1 hH => Ctr.spread (line_ok (((([76, 68, 65, 68, 68] : List UInt8) ++ ([65] : List UInt8)) ++ ([76] : List UInt8)) ++ (endF sz [66] [72] [87] [])) [nmF (regsL 3) a, nmF (regsL 3) dst, atF (regsL 3) ⟨op, dst, a, b, imm, loc, off, ix, sz, fn, acq, wk, rel, pr, su, to, ze⟩] 3 rfl (by decide) (by decide) (by rw [jn3]; have := nm_len3 3 a; have := nm_len3 3 dst; have := at_len (a := 3) ha; simp only [List.length_append, List.length_cons, List.length_nil]; omega) (by simp only [List.length_append, List.length_cons, List.length_nil]; omega)) (fun ρ => rfl) H1 [6] rfl rfl ⟨hH 6 (by simp), trivial⟩ rfl) ?_
          refine ⟨by kernel_rfl, ?_⟩
          exact ⟨tup_line (paT_6_111 e hfn hq hr), _, rfl⟩
        · have hr : rel = false := hr
          refine WpC.dr tabOkF mixed 1 ?_
          refine ⟨fun _ => ?_, ?_⟩
          · show (([76, 68, 65, 68, 68] : List UInt8) ++ ([65] : List UInt8)).length + (endF sz [66] [72] [87] []).length ≤ 9223372036854775807
            simp only [List.length_append, List.length_cons, List.length_nil]; omega
          refine OpD.callG [0, 1] rfl rfl rfl rfl rfl rfl (r := .s (nmF (regsL 3) a)) (fun _ H1 hH => Ctr.spread (lname_ok [88, 48] [88, 49] [88, 50] [88, 51] [88, 52] [88, 53] [88, 54] [88, 55] [35] 103 104 a) (fun ρ => rfl) H1 [0, 1] rfl rfl ⟨hH 0 (by simp), hH 1 (by simp), trivial⟩ rfl) ?_
          refine OpD.callG [0, 1] rfl rfl rfl rfl rfl rfl (r := .s (nmF (regsL 3) dst)) (fun _ H1 hH => Ctr.spread (lname_ok [88, 48] [88, 49] [88, 50] [88, 51] [88, 52] [88, 53] [88, 54] [88, 55] [35] 103 104 dst) (fun ρ => rfl) H1 [0, 1] rfl rfl ⟨hH 0 (by simp), hH 1 (by simp), trivial⟩ rfl) ?_
          refine OpD.callG [0, 1] rfl rfl rfl rfl rfl rfl (r := .s (atF (regsL 3) ⟨op, dst, a, b, imm, loc, off, ix, sz, fn, acq, wk, rel, pr, su, to, ze⟩)) (fun _ H1 hH => Ctr.spread (lat_ok [88, 48] [88, 49] [88, 50] [88, 51] [88, 52] [88, 53] [88, 54] [88, 55] [35] 103 104 (nm_len3 3) ⟨op, dst, a, b, imm, loc, off, ix, sz, fn, acq, wk, rel, pr, su, to, ze⟩ ha) (fun ρ => rfl) H1 [0, 1] rfl rfl ⟨hH 0 (by simp), hH 1 (by simp), trivial⟩ rfl) ?_
          refine OpD.callG [6] rfl rfl rfl rfl rfl rfl (r := .s (lineF ((([76, 68, 65, 68, 68] : List UInt8) ++ ([65] : List UInt8)) ++ (endF sz [66] [72] [87] [])) [nmF (regsL 3) a, nmF (regsL 3) dst, atF (regsL 3) ⟨op, dst, a, b, imm, loc, off, ix, sz, fn, acq, wk, rel, pr, su, to, ze⟩])) (fun _ H1 hH => Ctr.spread (line_ok ((([76, 68, 65, 68, 68] : List UInt8) ++ ([65] : List UInt8)) ++ (endF sz [66] [72] [87] [])) [nmF (regsL 3) a, nmF (regsL 3) dst, atF (regsL 3) ⟨op, dst, a, b, imm, loc, off, ix, sz, fn, acq, wk, rel, pr, su, to, ze⟩] 3 rfl (by decide) (by decide) (by rw [jn3]; have := nm_len3 3 a; have := nm_len3 3 dst; have := at_len (a := 3) ha; simp only [List.length_append, List.length_cons, List.length_nil]; omega) (by simp only [List.length_append, List.length_cons, List.length_nil]; omega)) (fun ρ => rfl) H1 [6] rfl rfl ⟨hH 6 (by simp), trivial⟩ rfl) ?_
          refine ⟨by kernel_rfl, ?_⟩
          exact ⟨tup_line (paT_6_110 e hfn hq hr), _, rfl⟩
      · have hq : acq = false := hq
        refine ⟨fun hr => ?_, fun hr => ?_⟩
        · have hr : rel = true := hr
          refine ⟨fun _ => ?_, ?_⟩
          · show ([76, 68, 65, 68, 68] : List UInt8).length + ([76] : List UInt8).length ≤ 9223372036854775807
            simp only [List.length_append, List.length_cons, List.length_nil]; omega
          refine WpC.dr tabOkF mixed 1 ?_
          refine ⟨fun _ => ?_, ?_⟩
          · show (([76, 68, 65, 68, 68] : List UInt8) ++ ([76] : List UInt8)).length + (endF sz [66] [72] [87] []).length ≤ 9223372036854775807
            simp only [List.length_append, List.length_cons, List.length_nil]; omega
          refine OpD.callG [0, 1] rfl rfl rfl rfl rfl rfl (r := .s (nmF (regsL 3) a)) (fun _ H1 hH => Ctr.spread (lname_ok [88, 48] [88, 49] [88, 50] [88, 51] [88, 52] [88, 53] [88, 54] [88, 55] [35] 103 104 a) (fun ρ => rfl) H1 [0, 1] rfl rfl ⟨hH 0 (by simp), hH 1 (by simp), trivial⟩ rfl) ?_
          refine OpD.callG [0, 1] rfl rfl rfl rfl rfl rfl (r := .s (nmF (regsL 3) dst)) (fun _ H1 hH => Ctr.spread (lname_ok [88, 48] [88, 49] [88, 50] [88, 51] [88, 52] [88, 53] [88, 54] [88, 55] [35] 103 104 dst) (fun ρ => rfl) H1 [0, 1] rfl rfl ⟨hH 0 (by simp), hH 1 (by simp), trivial⟩ rfl) ?_
          refine OpD.callG [0, 1] rfl rfl rfl rfl rfl rfl (r := .s (atF (regsL 3) ⟨op, dst, a, b, imm, loc, off, ix, sz, fn, acq, wk, rel, pr, su, to, ze⟩)) (fun _ H1 hH => Ctr.spread (lat_ok [88, 48] [88, 49] [88, 50] [88, 51] [88, 52] [88, 53] [88, 54] [88, 55] [35] 103 104 (nm_len3 3) ⟨op, dst, a, b, imm, loc, off, ix, sz, fn, acq, wk, rel, pr, su, to, ze⟩ ha) (fun ρ => rfl) H1 [0, 1] rfl rfl ⟨hH 0 (by simp), hH 1 (by simp), trivial⟩ rfl) ?_
          refine OpD.callG [6] rfl rfl rfl rfl rfl rfl (r := .s (lineF ((([76, 68, 65, 68, 68] : List UInt8) ++ ([76] : List UInt8)) ++ (endF sz [66] [72] [87] [])) [nmF (regsL 3) a, nmF (regsL 3) dst, atF (regsL 3) ⟨op, dst, a, b, imm, loc, off, ix, sz, fn, acq, wk, rel, pr, su, to, ze⟩])) (fun _ H1 hH => Ctr.spread (line_ok ((([76, 68, 65, 68, 68] : List UInt8) ++ ([76] : List UInt8)) ++ (endF sz [66] [72] [87] [])) [nmF (regsL 3) a, nmF (regsL 3) dst, atF (regsL 3) ⟨op, dst, a, b, imm, loc, off, ix, sz, fn, acq, wk, rel, pr, su, to, ze⟩] 3 rfl (by decide) (by decide) (by rw [jn3]; have := nm_len3 3 a; have := nm_len3 3 dst; have := at_len (a := 3) ha; simp only [List.length_append, List.length_cons, List.length_nil]; omega) (by simp only [List.length_append, List.length_cons, List.length_nil]; omega)) (fun ρ => rfl) H1 [6] rfl rfl ⟨hH 6 (by simp), trivial⟩ rfl) ?_
          refine ⟨by kernel_rfl, ?_⟩
          exact ⟨tup_line (paT_6_101 e hfn hq hr), _, rfl⟩
        · have hr : rel = false := hr
          refine WpC.dr tabOkF mixed 1 ?_
          refine ⟨fun _ => ?_, ?_⟩
          · show ([76, 68, 65, 68, 68] : List UInt8).length + (endF sz [66] [72] [87] []).length ≤ 9223372036854775807
            simp only [List.length_append, List.length_cons, List.length_nil]; omega
          refine OpD.callG [0, 1] rfl rfl rfl rfl rfl rfl (r := .s (nmF (regsL 3) a)) (fun _ H1 hH => Ctr.spread (lname_ok [88, 48] [88, 49] [88, 50] [88, 51] [88, 52] [88, 53] [88, 54] [88, 55] [35] 103 104 a) (fun ρ => rfl) H1 [0, 1] rfl rfl ⟨hH 0 (by simp), hH 1 (by simp), trivial⟩ rfl) ?_
          refine OpD.callG [0, 1] rfl rfl rfl rfl rfl rfl (r := .s (nmF (regsL 3) dst)) (fun _ H1 hH => Ctr.spread (lname_ok [88, 48] [88, 49] [88, 50] [88, 51] [88, 52] [88, 53] [88, 54] [88, 55] [35] 103 104 dst) (fun ρ => rfl) H1 [0, 1] rfl rfl ⟨hH 0 (by simp), hH 1 (by simp), trivial⟩ rfl) ?_
          refine OpD.callG [0, 1] rfl rfl rfl rfl rfl rfl (r := .s (atF (regsL 3) ⟨op, dst, a, b, imm, loc, off, ix, sz, fn, acq, wk, rel, pr, su, to, ze⟩)) (fun _ H1 hH => Ctr.spread (lat_ok [88, 48] [88, 49] [88, 50] [88, 51] [88, 52] [88, 53] [88, 54] [88, 55] [35] 103 104 (nm_len3 3) ⟨op, dst, a, b, imm, loc, off, ix, sz, fn, acq, wk, rel, pr, su, to, ze⟩ ha) (fun ρ => rfl) H1 [0, 1] rfl rfl ⟨hH 0 (by simp), hH 1 (by simp), trivial⟩ rfl) ?_
          refine OpD.callG [6] rfl rfl rfl rfl rfl rfl (r := .s (lineF (([76, 68, 65, 68, 68] : List UInt8) ++ (endF sz [66] [72] [87] [])) [nmF (regsL 3) a, nmF (regsL 3) dst, atF (regsL 3) ⟨op, dst, a, b, imm, loc, off, ix, sz, fn, acq, wk, rel, pr, su, to, ze⟩])) (fun _ H1 hH => Ctr.spread (line_ok (([76, 68, 65, 68, 68] : List UInt8) ++ (endF sz [66] [72] [87] [])) [nmF (regsL 3) a, nmF (regsL 3) dst, atF (regsL 3) ⟨op, dst, a, b, imm, loc, off, ix, sz, fn, acq, wk, rel, pr, su, to, ze⟩] 3 rfl (by decide) (by decide) (by rw [jn3]; have := nm_len3 3 a; have := nm_len3 3 dst; have := at_len (a := 3) ha; simp only [List.length_append, List.length_cons, List.length_nil]; omega) (by simp only [List.length_append, List.length_cons, List.length_nil]; omega)) (fun ρ => rfl) H1 [6] rfl rfl ⟨hH 6 (by simp), trivial⟩ rfl) ?_
          refine ⟨by kernel_rfl, ?_⟩
          exact ⟨tup_line (paT_6_100 e hfn hq hr), _, rfl⟩
    · have hfn : ¬ fn = 1 := of_decide_eq_false hfn
      refine ⟨fun hq => ?_, fun hq => ?_⟩
      · have hq : acq = true := hq
        refine ⟨fun _ => ?_, ?_⟩
        · show ([83, 87, 80] : List UInt8).length + ([65] : List UInt8).length ≤ 9223372036854775807
          simp only [List.length_append, List.length_cons, List.length_nil]; omega
        refine ⟨fun hr => ?_, fun hr => ?_⟩
        · have hr : rel = true := hr
          refine ⟨fun _ => ?_, ?_⟩
          · show (([83, 87, 80] : List UInt8) ++ ([65] : List UInt8)).length + ([76] : List UInt8).length ≤ 9223372036854775807
            simp only [List.length_append, List.length_cons, List.length_nil]; omega
          refine WpC.dr tabOkF mixed 1 ?_
          refine ⟨fun _ => ?_, ?_⟩
          · show ((([83, 87, 80] : List UInt8) ++ ([65] : List UInt8)) ++ ([76] : List UInt8)).length + (endF sz [66] [72] [87] []).length ≤ 9223372036854775807
            simp only [List.length_append, List.length_cons, List.length_nil]; omega
          refine OpD.callG [0, 1] rfl rfl rfl rfl rfl rfl (r := .s (nmF (regsL 3) a)) (fun _ H1 hH => Ctr.spread (lname_ok [88, 48] [88, 49] [88, 50] [88, 51] [88, 52] [88, 53] [88, 54] [88, 55] [35] 103 104 a) (fun ρ => rfl) H1 [0, 1] rfl rfl ⟨hH 0 (by simp), hH 1 (by simp), trivial⟩ rfl) ?_
          refine OpD.callG [0, 1] rfl rfl rfl rfl rfl rfl (r := .s (nmF (regsL 3) dst)) (fun _ H1 hH => Ctr.spread (lname_ok [88, 48] [88, 49] [88, 50] [88, 51] [88, 52] [88, 53] [88, 54] [88, 55] [35] 103 104 dst) (fun ρ => rfl) H1 [0, 1] rfl rfl ⟨hH 0 (by simp), hH 1 (by simp), trivial⟩ rfl) ?_
          refine OpD.callG [0, 1] rfl rfl rfl rfl rfl rfl (r := .s (atF (regsL 3) ⟨op, dst, a, b, imm, loc, off, ix, sz, fn, acq, wk, rel, pr, su, to, ze⟩)) (fun _ H1 hH => Ctr.spread (lat_ok [88, 48] [88, 49] [88, 50] [88, 51] [88, 52] [88, 53] [88, 54] [88, 55] [35] 103 104 (nm_len3 3) ⟨op, dst, a, b, imm, loc, off, ix, sz, fn, acq, wk, rel, pr, su, to, ze⟩ ha) (fun ρ => rfl) H1 [0, 1] rfl rfl ⟨hH 0 (by simp), hH 1 (by simp), trivial⟩ rfl) ?_
          refine OpD.callG [6] rfl rfl rfl rfl rfl rfl (r := .s (lineF (((([83, 87, 80] : List UInt8) ++ ([65] : List UInt8)) ++ ([76] : List UInt8)) ++ (endF sz [66] [72] [87] [])) [nmF (regsL 3) a, nmF (regsL 3) dst, atF (regsL 3) ⟨op, dst, a, b, imm, loc, off, ix, sz, fn, acq, wk, rel, pr, su, to, ze⟩])) (fun _ H1 hH => Ctr.spread (line_ok (((([83, 87, 80] : List UInt8) ++ ([65] : List UInt8)) ++ ([76] : List UInt8)) ++ (endF sz [66] [72] [87] [])) [nmF (regsL 3) a, nmF (regsL 3) dst, atF (regsL 3) ⟨op, dst, a, b, imm, loc, off, ix, sz, fn, acq, wk, rel, pr, su, to, ze⟩] 3 rfl (by decide) (by decide) (by rw [jn3]; have := nm_len3 3 a; have := nm_len3 3 dst; have := at_len (a := 3) ha; simp only [List.length_append, List.length_cons, List.length_nil]; omega) (by simp only [List.length_append, List.length_cons, List.length_nil]; omega)) (fun ρ => rfl) H1 [6] rfl rfl ⟨hH 6 (by simp), trivial⟩ rfl) ?_
          refine ⟨by kernel_rfl, ?_⟩
          exact ⟨tup_line (paT_6_011 e hfn hq hr), _, rfl⟩
        · have hr : rel = false := hr
          refine WpC.dr tabOkF mixed 1 ?_
          refine ⟨fun _ => ?_, ?_⟩
          · show (([83, 87, 80] : List UInt8) ++ ([65] : List UInt8)).length + (endF sz [66] [72] [87] []).length ≤ 9223372036854775807
            simp only [List.length_append, List.length_cons, List.length_nil]; omega
          refine OpD.callG [0, 1] rfl rfl rfl rfl rfl rfl (r := .s (nmF (regsL 3) a)) (fun _ H1 hH => Ctr.spread (lname_ok [88, 48] [88, 49] [88, 50] [88, 51] [88, 52] [88, 53] [88, 54] [88, 55] [35] 103 104 a) (fun ρ => rfl) H1 [0, 1] rfl rfl ⟨hH 0 (by simp), hH 1 (by simp), trivial⟩ rfl) ?_
          refine OpD.callG [0, 1] rfl rfl rfl rfl rfl rfl (r := .s (nmF (regsL 3) dst)) (fun _ H1 hH => Ctr.spread (lname_ok [88, 48] [88, 49] [88, 50] [88, 51] [88, 52] [88, 53] [88, 54] [88, 55] [35] 103 104 dst) (fun ρ => rfl) H1 [0, 1] rfl rfl ⟨hH 0 (by simp), hH 1 (by simp), trivial⟩ rfl) ?_
          refine OpD.callG [0, 1] rfl rfl rfl rfl rfl rfl (r := .s (atF (regsL 3) ⟨op, dst, a, b, imm, loc, off, ix, sz, fn, acq, wk, rel, pr, su, to, ze⟩)) (fun _ H1 hH => Ctr.spread (lat_ok [88, 48] [88, 49] [88, 50] [88, 51] [88, 52] [88, 53] [88, 54] [88, 55] [35] 103 104 (nm_len3 3) ⟨op, dst, a, b, imm, loc, off, ix, sz, fn, acq, wk, rel, pr, su, to, ze⟩ ha) (fun ρ => rfl) H1 [0, 1] rfl rfl ⟨hH 0 (by simp), hH 1 (by simp), trivial⟩ rfl) ?_
          refine OpD.callG [6] rfl rfl rfl rfl rfl rfl (r := .s (lineF ((([83, 87, 80] : List UInt8) ++ ([65] : List UInt8)) ++ (endF sz [66] [72] [87] [])) [nmF (regsL 3) a, nmF (regsL 3) dst, atF (regsL 3) ⟨op, dst, a, b, imm, loc, off, ix, sz, fn, acq, wk, rel, pr, su, to, ze⟩])) (fun _ H1 hH => Ctr.spread (line_ok ((([83, 87, 80] : List UInt8) ++ ([65] : List UInt8)) ++ (endF sz [66] [72] [87] [])) [nmF (regsL 3) a, nmF (regsL 3) dst, atF (regsL 3) ⟨op, dst, a, b, imm, loc, off, ix, sz, fn, acq, wk, rel, pr, su, to, ze⟩] 3 rfl (by decide) (by decide) (by rw [jn3]; have := nm_len3 3 a; have := nm_len3 3 dst; have := at_len (a := 3) ha; simp only [List.length_append, List.length_cons, List.length_nil]; omega) (by simp only [List.length_append, List.length_cons, List.length_nil]; omega)) (fun ρ => rfl) H1 [6] rfl rfl ⟨hH 6 (by simp), trivial⟩ rfl) ?_
          refine ⟨by kernel_rfl, ?_⟩
          exact ⟨tup_line (paT_6_010 e hfn hq hr), _, rfl⟩
      · have hq : acq = false := hq
        refine ⟨fun hr => ?_, fun hr => ?_⟩
        · have hr : rel = true := hr
          refine ⟨fun _ => ?_, ?_⟩
          · show ([83, 87, 80] : List UInt8).length + ([76] : List UInt8).length ≤ 9223372036854775807
            simp only [List.length_append, List.length_cons, List.length_nil]; omega
          refine WpC.dr tabOkF mixed 1 ?_
          refine ⟨fun _ => ?_, ?_⟩
          · show (([83, 87, 80] : List UInt8) ++ ([76] : List UInt8)).length + (endF sz [66] [72] [87] []).length ≤ 9223372036854775807
            simp only [List.length_append, List.length_cons, List.length_nil]; omega
          refine OpD.callG [0, 1] rfl rfl rfl rfl rfl rfl (r := .s (nmF (regsL 3) a)) (fun _ H1 hH => Ctr.spread (lname_ok [88, 48] [88, 49] [88, 50] [88, 51] [88, 52] [88, 53] [88, 54] [88, 55] [35] 103 104 a) (fun ρ => rfl) H1 [0, 1] rfl rfl ⟨hH 0 (by simp), hH 1 (by simp), trivial⟩ rfl) ?_
          refine OpD.callG [0, 1] rfl rfl rfl rfl rfl rfl (r := .s (nmF (regsL 3) dst)) (fun _ H1 hH => Ctr.spread (lname_ok [88, 48] [88, 49] [88, 50] [88, 51] [88, 52] [88, 53] [88, 54] [88, 55] [35] 103 104 dst) (fun ρ => rfl) H1 [0, 1] rfl rfl ⟨hH 0 (by simp), hH 1 (by simp), trivial⟩ rfl) ?_
          refine OpD.callG [0, 1] rfl rfl rfl rfl rfl rfl (r := .s (atF (regsL 3) ⟨op, dst, a, b, imm, loc, off, ix, sz, fn, acq, wk, rel, pr, su, to, ze⟩)) (fun _ H1 hH => Ctr.spread (lat_ok [88, 48] [88, 49] [88, 50] [88, 51] [88, 52] [88, 53] [88, 54] [88, 55] [35] 103 104 (nm_len3 3) ⟨op, dst, a, b, imm, loc, off, ix, sz, fn, acq, wk, rel, pr, su, to, ze⟩ ha) (fun ρ => rfl) H1 [0, 1] rfl rfl ⟨hH 0 (by simp), hH 1 (by simp), trivial⟩ rfl) ?_
          refine OpD.callG [6] rfl rfl rfl rfl rfl rfl (r := .s (lineF ((([83, 87, 80] : List UInt8) ++ ([76] : List UInt8)) ++ (endF sz [66] [72] [87] [])) [nmF (regsL 3) a, nmF (regsL 3) dst, atF (regsL 3) ⟨op, dst, a, b, imm, loc, off, ix, sz, fn, acq, wk, rel, pr, su, to, ze⟩])) (fun _ H1 hH => Ctr.spread (line_ok ((([83, 87, 80] : List UInt8) ++ ([76] : List UInt8)) ++ (endF sz [66] [72] [87] [])) [nmF (regsL 3) a, nmF (regsL 3) dst, atF (regsL 3) ⟨op, dst, a, b, imm, loc, off, ix, sz, fn, acq, wk, rel, pr, su, to, ze⟩] 3 rfl (by decide) (by decide) (by rw [jn3]; have := nm_len3 3 a; have := nm_len3 3 dst; have := at_len (a := 3) ha; simp only [List.length_append, List.length_cons, List.length_nil]; omega) (by simp only [List.length_append, List.length_cons, List.length_nil]; omega)) (fun ρ => rfl) H1 [6] rfl rfl ⟨hH 6 (by simp), trivial⟩ rfl) ?_
          refine ⟨by kernel_rfl, ?_⟩
          exact ⟨tup_line (paT_6_001 e hfn hq hr), _, rfl⟩
        · have hr : rel = false := hr
          refine WpC.dr tabOkF mixed 1 ?_
          refine ⟨fun _ => ?_, ?_⟩
          · show ([83, 87, 80] : List UInt8).length + (endF sz [66] [72] [87] []).length ≤ 9223372036854775807
            simp only [List.length_append, List.length_cons, List.length_nil]; omega
          refine OpD.callG [0, 1] rfl rfl rfl rfl rfl rfl (r := .s (nmF (regsL 3) a)) (fun _ H1 hH => Ctr.spread (lname_ok [88, 48] [88, 49] [88, 50] [88, 51] [88, 52] [88, 53] [88, 54] [88, 55] [35] 103 104 a) (fun ρ => rfl) H1 [0, 1] rfl rfl ⟨hH 0 (by simp), hH 1 (by simp), trivial⟩ rfl) ?_
          refine OpD.callG [0, 1] rfl rfl rfl rfl rfl rfl (r := .s (nmF (regsL 3) dst)) (fun _ H1 hH => Ctr.spread (lname_ok [88, 48] [88, 49] [88, 50] [88, 51] [88, 52] [88, 53] [88, 54] [88, 55] [35] 103 104 dst) (fun ρ => rfl) H1 [0, 1] rfl rfl ⟨hH 0 (by simp), hH 1 (by simp), trivial⟩ rfl) ?_
          refine OpD.callG [0, 1] rfl rfl rfl rfl rfl rfl (r := .s (atF (regsL 3) ⟨op, dst, a, b, imm, loc, off, ix, sz, fn, acq, wk, rel, pr, su, to, ze⟩)) (fun _ H1 hH => Ctr.spread (lat_ok [88, 48] [88, 49] [88, 50] [88, 51] [88, 52] [88, 53] [88, 54] [88, 55] [35] 103 104 (nm_len3 3) ⟨op, dst, a, b, imm, loc, off, ix, sz, fn, acq, wk, rel, pr, su, to, ze⟩ ha) (fun ρ => rfl) H1 [0, 1] rfl rfl ⟨hH 0 (by simp), hH 1 (by simp), trivial⟩ rfl) ?_
          refine OpD.callG [6] rfl rfl rfl rfl rfl rfl (r := .s (lineF (([83, 87, 80] : List UInt8) ++ (endF sz [66] [72] [87] [])) [nmF (regsL 3) a, nmF (regsL 3) dst, atF (regsL 3) ⟨op, dst, a, b, imm, loc, off, ix, sz, fn, acq, wk, rel, pr, su, to, ze⟩])) (fun _ H1 hH => Ctr.spread (line_ok (([83, 87, 80] : List UInt8) ++ (endF sz [66] [72] [87] [])) [nmF (regsL 3) a, nmF (regsL 3) dst, atF (regsL 3) ⟨op, dst, a, b, imm, loc, off, ix, sz, fn, acq, wk, rel, pr, su, to, ze⟩] 3 rfl (by decide) (by decide) (by rw [jn3]; have := nm_len3 3 a; have := nm_len3 3 dst; have := at_len (a := 3) ha; simp only [List.length_append, List.length_cons, List.length_nil]; omega) (by simp only [List.length_append, List.length_cons, List.length_nil]; omega)) (fun ρ => rfl) H1 [6] rfl rfl ⟨hH 6 (by simp), trivial⟩ rfl) ?_
          refine ⟨by kernel_rfl, ?_⟩
          exact ⟨tup_line (paT_6_000 e hfn hq hr), _, rfl⟩
  have n6 : decide (op = 6) = false := n6
  refine ⟨fun h7 => ?_, fun n7 => ?_⟩
  · have h7 : decide (op = 7) = true := h7
    have e : op = 7 := of_decide_eq_true h7
    obtain ⟨hp, hs, _⟩ := fm7 hf e
    have hp : pr = 1 ∨ pr = 2 ∨ pr = 3 := hp
    have hs : su = 1 ∨ su = 2 ∨ su = 3 := hs
    rcases hp with rfl | rfl | rfl <;> rcases hs with rfl | rfl | rfl
    · refine OpC.callG rfl rfl rfl rfl rfl rfl (r := .i .i64 (-1)) (fun _ => Ctr.spread (idxB_ok 1 1) (fun ρ => rfl) _ [5] rfl rfl ⟨rfl, trivial⟩ rfl) ?_
      refine ⟨fun h => absurd (show decide ((0 : Int) ≤ -1) = true from h) (by decide), fun _ => ?_⟩
      exact ⟨tup_none (paT_7n e (by decide)), _, rfl⟩
    · refine OpC.callG rfl rfl rfl rfl rfl rfl (r := .i .i64 (-1)) (fun _ => Ctr.spread (idxB_ok 1 2) (fun ρ => rfl) _ [5] rfl rfl ⟨rfl, trivial⟩ rfl) ?_
      refine ⟨fun h => absurd (show decide ((0 : Int) ≤ -1) = true from h) (by decide), fun _ => ?_⟩
      exact ⟨tup_none (paT_7n e (by decide)), _, rfl⟩
    · refine OpC.callG rfl rfl rfl rfl rfl rfl (r := .i .i64 (1)) (fun _ => Ctr.spread (idxB_ok 1 3) (fun ρ => rfl) _ [5] rfl rfl ⟨rfl, trivial⟩ rfl) ?_
      refine ⟨fun _ => ?_, fun h => absurd (show decide ((0 : Int) ≤ 1) = false from h) (by decide)⟩
      refine ⟨fun _ => by show (0 : Int) ≤ 1 ∧ (1 : Int) < ((3 : Nat) : Int); decide, ?_⟩
      refine OpC.callG rfl rfl rfl rfl rfl rfl (fun _ => Ctr.spread (line_ok [68, 77, 66] [[76, 68]] 1 rfl (by decide) (by decide) (by decide) (by decide)) (fun ρ => rfl) _ [6] rfl rfl ⟨rfl, trivial⟩ rfl) ?_
      exact ⟨tup_line (paT_7ld e rfl rfl), _, rfl⟩
    · refine OpC.callG rfl rfl rfl rfl rfl rfl (r := .i .i64 (-1)) (fun _ => Ctr.spread (idxB_ok 2 1) (fun ρ => rfl) _ [5] rfl rfl ⟨rfl, trivial⟩ rfl) ?_
      refine ⟨fun h => absurd (show decide ((0 : Int) ≤ -1) = true from h) (by decide), fun _ => ?_⟩
      exact ⟨tup_none (paT_7n e (by decide)), _, rfl⟩
    · refine OpC.callG rfl rfl rfl rfl rfl rfl (r := .i .i64 (2)) (fun _ => Ctr.spread (idxB_ok 2 2) (fun ρ => rfl) _ [5] rfl rfl ⟨rfl, trivial⟩ rfl) ?_
      refine ⟨fun _ => ?_, fun h => absurd (show decide ((0 : Int) ≤ 2) = false from h) (by decide)⟩
      refine ⟨fun _ => by show (0 : Int) ≤ 2 ∧ (2 : Int) < ((3 : Nat) : Int); decide, ?_⟩
      refine OpC.callG rfl rfl rfl rfl rfl rfl (fun _ => Ctr.spread (line_ok [68, 77, 66] [[83, 84]] 1 rfl (by decide) (by decide) (by decide) (by decide)) (fun ρ => rfl) _ [6] rfl rfl ⟨rfl, trivial⟩ rfl) ?_
      exact ⟨tup_line (paT_7st e rfl rfl), _, rfl⟩
    · refine OpC.callG rfl rfl rfl rfl rfl rfl (r := .i .i64 (-1)) (fun _ => Ctr.spread (idxB_ok 2 3) (fun ρ => rfl) _ [5] rfl rfl ⟨rfl, trivial⟩ rfl) ?_
      refine ⟨fun h => absurd (show decide ((0 : Int) ≤ -1) = true from h) (by decide), fun _ => ?_⟩
      exact ⟨tup_none (paT_7n e (by decide)), _, rfl⟩
    · refine OpC.callG rfl rfl rfl rfl rfl rfl (r := .i .i64 (-1)) (fun _ => Ctr.spread (idxB_ok 3 1) (fun ρ => rfl) _ [5] rfl rfl ⟨rfl, trivial⟩ rfl) ?_
      refine ⟨fun h => absurd (show decide ((0 : Int) ≤ -1) = true from h) (by decide), fun _ => ?_⟩
      exact ⟨tup_none (paT_7n e (by decide)), _, rfl⟩
    · refine OpC.callG rfl rfl rfl rfl rfl rfl (r := .i .i64 (-1)) (fun _ => Ctr.spread (idxB_ok 3 2) (fun ρ => rfl) _ [5] rfl rfl ⟨rfl, trivial⟩ rfl) ?_
      refine ⟨fun h => absurd (show decide ((0 : Int) ≤ -1) = true from h) (by decide), fun _ => ?_⟩
      exact ⟨tup_none (paT_7n e (by decide)), _, rfl⟩
    · refine OpC.callG rfl rfl rfl rfl rfl rfl (r := .i .i64 (0)) (fun _ => Ctr.spread (idxB_ok 3 3) (fun ρ => rfl) _ [5] rfl rfl ⟨rfl, trivial⟩ rfl) ?_
      refine ⟨fun _ => ?_, fun h => absurd (show decide ((0 : Int) ≤ 0) = false from h) (by decide)⟩
      refine ⟨fun _ => by show (0 : Int) ≤ 0 ∧ (0 : Int) < ((3 : Nat) : Int); decide, ?_⟩
      refine OpC.callG rfl rfl rfl rfl rfl rfl (fun _ => Ctr.spread (line_ok [68, 77, 66] [[83, 89]] 1 rfl (by decide) (by decide) (by decide) (by decide)) (fun ρ => rfl) _ [6] rfl rfl ⟨rfl, trivial⟩ rfl) ?_
      exact ⟨tup_line (paT_7sy e rfl rfl), _, rfl⟩
  have n7 : decide (op = 7) = false := n7
  refine ⟨fun h8 => ?_, fun n8 => ?_⟩
  · have h8 : decide (op = 8) = true := h8
    have e : op = 8 := of_decide_eq_true h8
    exact ⟨tup_word (paT_8 e) (by decide), _, rfl⟩
  have n8 : decide (op = 8) = false := n8
  refine ⟨fun h9 => ?_, fun n9 => ?_⟩
  · have h9 : (decide (op = 9) && ze) = true := h9
    have e : op = 9 := by simp at h9; exact h9.1
    have hz : ze = true := by simp at h9; exact h9.2
    refine OpC.callG rfl rfl rfl rfl rfl rfl (fun _ => Ctr.spread (lname_ok [88, 48] [88, 49] [88, 50] [88, 51] [88, 52] [88, 53] [88, 54] [88, 55] [35] 103 104 a) (fun ρ => rfl) _ [0, 1] rfl rfl ⟨rfl, rfl, trivial⟩ rfl) ?_
    refine OpC.callG rfl rfl rfl rfl rfl rfl (fun _ => Ctr.spread (line_ok [67, 66, 90] [nmF (regsL 3) a, lb] 2 rfl (by decide) (by decide) (by rw [jn2]; have := nm_len3 3 a; simp only [List.length_append, List.length_cons, List.length_nil]; omega) (by decide)) (fun ρ => rfl) _ [6] rfl rfl ⟨rfl, trivial⟩ rfl) ?_
    exact ⟨tup_line (paT_9z e hz), _, rfl⟩
  have n9 : (decide (op = 9) && ze) = false := n9
  refine ⟨fun h90 => ?_, fun n90 => ?_⟩
  · have h90 : decide (op = 9) = true := h90
    have e : op = 9 := of_decide_eq_true h90
    have hz : ze = false := by rw [decide_eq_true e] at n9; simpa using n9
    refine OpC.callG rfl rfl rfl rfl rfl rfl (fun _ => Ctr.spread (lname_ok [88, 48] [88, 49] [88, 50] [88, 51] [88, 52] [88, 53] [88, 54] [88, 55] [35] 103 104 a) (fun ρ => rfl) _ [0, 1] rfl rfl ⟨rfl, rfl, trivial⟩ rfl) ?_
    refine OpC.callG rfl rfl rfl rfl rfl rfl (fun _ => Ctr.spread (line_ok [67, 66, 78, 90] [nmF (regsL 3) a, lb] 2 rfl (by decide) (by decide) (by rw [jn2]; have := nm_len3 3 a; simp only [List.length_append, List.length_cons, List.length_nil]; omega) (by decide)) (fun ρ => rfl) _ [6] rfl rfl ⟨rfl, trivial⟩ rfl) ?_
    exact ⟨tup_line (paT_9n e hz), _, rfl⟩
  have n90 : decide (op = 9) = false := n90
  refine ⟨tup_none (paT_0 ?_), _, rfl⟩
  have e1 := of_decide_eq_false n1; have e2 := of_decide_eq_false n2; have e3 := of_decide_eq_false n3; have e4 := of_decide_eq_false n4; have e6 := of_decide_eq_false n6; have e7 := of_decide_eq_false n7; have e8 := of_decide_eq_false n8; have e9 := of_decide_eq_false n90
  refine ⟨e1, e2, e3, e4, e6, e7, e8, e9, fun e => ?_⟩
  rw [decide_eq_true e] at n5
  have n5 : decide (0 ≤ a) = false := n5
  have := of_decide_eq_false n5; omega
end SX
end Go.Proofs.YthkedcneehdinaaGreatDoor

/- What a writer of instructions answers. -/
set_option linter.unusedVariables false
set_option maxRecDepth 100000
namespace Go.Proofs.YthkedcneehdinaaGreatDoor
namespace SX
open Go Go.Proofs
theorem rgt_no {i : In} {lo hi : Int} (h : formP i = false) : rgtF i lo hi = 34 := by unfold rgtF; rw [h]; rfl
theorem rgt_yes {i : In} {lo hi : Int} (h : formP i = true) : rgtF i lo hi = if toX i lo hi = true then 35 else 0 := by unfold rgtF; rw [h]; rfl
/-- What is answered: a text, an error's number. -/
def ansF (i : In) (lb t : List UInt8) : SV :=
  if formP i = false then .tup [.s [], .i .i64 34] else if t = [] then .tup [.s [], .i .i64 36] else if i.op = 9 ∧ namedF lb = false then .tup [.s [], .i .i64 37] else .tup [.s t, .i .i64 0]
theorem ansF_any {p : SV → Prop} {i : In} {lb t : List UInt8} (h : ∀ (x : List UInt8) (n : Int), p (.tup [.s x, .i .i64 n])) : p (ansF i lb t) := by
  unfold ansF
  split
  · exact h _ _
  · split
    · exact h _ _
    · split <;> exact h _ _
theorem ans_yes {i : In} {lb t : List UInt8} (h1 : formP i = true) (h2 : t ≠ []) (h3 : i.op = 9 → namedF lb = true) : ansF i lb t = .tup [.s t, .i .i64 0] := by
  unfold ansF
  rw [if_neg (by rw [h1]; decide), if_neg h2, if_neg]
  rintro ⟨h4, h5⟩
  rw [h3 h4] at h5; cases h5
theorem ans_no {i : In} {lb t : List UInt8} (h : ¬ (formP i = true ∧ t ≠ [] ∧ (i.op = 9 → namedF lb = true))) : ∃ e : Int, e ≠ 0 ∧ ansF i lb t = .tup [.s [], .i .i64 e] := by
  unfold ansF
  split
  · exact ⟨_, by decide, rfl⟩
  · rename_i h1
    split
    · exact ⟨_, by decide, rfl⟩
    · rename_i h2
      split
      · exact ⟨_, by decide, rfl⟩
      · rename_i h3
        refine absurd ⟨by simpa using h1, h2, fun h4 => ?_⟩ h
        cases hq : namedF lb with
        | true => rfl
        | false => exact absurd ⟨h4, hq⟩ h3
end SX
end Go.Proofs.YthkedcneehdinaaGreatDoor

/- arm.Print, with its text told. Printed by vpx.py. -/
set_option linter.unusedVariables false
set_option maxRecDepth 100000
namespace Go.Proofs.YthkedcneehdinaaGreatDoor
namespace SX
open Go Go.Proofs
set_option maxHeartbeats 1000000 in
theorem Atext_ok (i : In) (lb t : List UInt8) (hb : formP i = true → AOne i lb t) : Ctr Tryz.prog 38 [.ptr 1 1 0 [], .agg (ienc i), .s lb] AH (fun r h' => r = ansF i lb t ∧ h' = AH) := by
  refine Ctr.enterG tabOkF (fn := Tryz.f38) rfl rfl rfl rfl rfl (ansF_any fun _ _ => rfl) bndLang ?_
  refine OpC.callV rfl rfl rfl rfl rfl rfl rfl (fun _ => uright_ok i 0 1) ?_
  unfold ansF
  cases hf : formP i with
  | false =>
    refine ⟨fun _ => ⟨rfl, _, rfl⟩, fun h => absurd (rgt_no hf) (of_decide_eq_false h)⟩
  | true =>
    have hb := hb hf
    refine ⟨fun h => ?_, fun _ => ?_⟩
    · have h : rgtF i 0 1 = 34 := of_decide_eq_true h
      rw [rgt_yes hf] at h
      split at h <;> omega
    refine WpC.dr tabOkF mixed 0 ?_
    refine OpD.callG [0, 1] rfl rfl rfl rfl rfl rfl (r := .tup [.s t, .b (!decide (t = []))]) (fun _ H1 hH => Ctr.spread hb (fun ρ => rfl) H1 [0, 1] rfl rfl ⟨hH 0 (by simp), hH 1 (by simp), trivial⟩ rfl) ?_
    refine ⟨by kernel_rfl, ?_⟩
    rw [if_neg (by decide)]
    refine ⟨fun h => ?_, fun h => ?_⟩
    · have h : (!(!decide (t = []))) = true := h
      have h : t = [] := by simpa using h
      rw [if_pos h]
      exact ⟨rfl, _, rfl⟩
    · have h : (!(!decide (t = []))) = false := h
      have h : ¬ t = [] := by simpa using h
      rw [if_neg h]
      refine OpC.callV rfl rfl rfl rfl rfl rfl rfl (fun _ => named_ok lb) ?_
      refine ⟨fun h2 => ?_, fun h2 => ?_⟩
      · have h2 : (decide (i.op = 9) && !namedF lb) = true := h2
        rw [if_pos (by simpa using h2)]
        exact ⟨rfl, _, rfl⟩
      · have h2 : (decide (i.op = 9) && !namedF lb) = false := h2
        rw [if_neg (by intro hh; rw [hh.2, decide_eq_true hh.1] at h2; cases h2)]
        exact ⟨rfl, _, rfl⟩
theorem armPrint_ok (i : In) (lb t : List UInt8) (hb : formP i = true → AOne i lb t) : CtrV Tryz.prog 26 [.agg (ienc i), .s lb] (ansF i lb t) := by
  have ht := Atext_ok i lb t hb
  obtain ⟨x, n, hx⟩ : ∃ x n, ansF i lb t = .tup [.s x, .i .i64 n] := ansF_any (p := fun r => ∃ x n, r = .tup [.s x, .i .i64 n]) fun x n => ⟨x, n, rfl⟩
  rw [hx] at ht ⊢
  refine Ctr.enterV tabOkF (fn := Tryz.f26) rfl rfl rfl rfl rfl rfl ?_
  refine WpC.dr tabOkF mixed 2 ?_
  refine OpD.callL rfl rfl rfl rfl [] 2 rfl rfl arm_lang rfl rfl rfl rfl trivial rfl rfl ?_
  refine OpD.callG [1, 2] rfl rfl rfl rfl rfl rfl (r := .tup [.s x, .i .i64 n]) (fun _ H1 hH => Ctr.spread ht (fun ρ => rfl) H1 [1, 2] rfl rfl ⟨hH 1 (by simp), hH 2 (by simp), trivial⟩ rfl) ?_
  refine ⟨by kernel_rfl, ?_⟩
  exact rfl
theorem armPrintT (i : In) (lb : List UInt8) (hi : in64 i.imm) (hl : lb.length ≤ 90000) : CtrV Tryz.prog 26 [.agg (ienc i), .s lb] (ansF i lb (paT i lb)) := armPrint_ok i lb (paT i lb) fun h => arm_one i lb h hi hl
end SX
end Go.Proofs.YthkedcneehdinaaGreatDoor

/- What a run of law 5's able() asks of the library, as memos. -/
set_option linter.unusedVariables false
set_option maxRecDepth 100000
namespace Go.Proofs.YthkedcneehdinaaGreatDoor
namespace SX
open Go Go.Proofs
def mIB (c n : Int) : Memo := ⟨47, [.s [123, 125, 40, 41, 91, 93, 59, 124, 44, 58, 61, 43, 45, 35, 36, 126, 42, 47, 92, 38, 63, 94], .i .u8 c], [], .i .i64 n, []⟩
theorem mIB_ok {c n : Int} (h : Lib.indexByte marksL c.toNat.toUInt8 = n) : MemoOk Tryz.prog (mIB c n) := by
  subst h
  exact sIndexByte_ok marksL c
def mLoc (s : List UInt8) (n : Int) : Memo := ⟨40, [.s [120, 121, 122], .s s], [], .i .i64 n, []⟩
theorem mLoc_ok {s : List UInt8} {n : Int} (h : Lib.index [120, 121, 122] s = n) : MemoOk Tryz.prog (mLoc s n) := by
  subst h
  exact sIndex_ok [120, 121, 122] s (by decide)
def mNum (w : List UInt8) (n : Nat) : Memo := ⟨45, [.s w], [], .tup [.i .i64 n, .b true], []⟩
theorem mNum_ok {w : List UInt8} {n : Nat} (h : numF w = some n) (hn : (w.all fun c => numB (c.toNat : Int)) = true) (hw : w.length ≤ 10000) (h2 : n ≤ 9223372036854775807) : MemoOk Tryz.prog (mNum w n) := by
  refine (number_ok w (fun c hc => List.all_eq_true.1 hn c hc) hw).mono callX_m ?_
  rintro r h' ⟨hr, rfl⟩
  rw [h] at hr
  have hr : r = .tup [.i .i64 (IntKind.i64.wrap n), .b true] := hr
  rw [w64 (by omega) (by omega)] at hr
  exact ⟨hr, rfl⟩
def mJoin (xs : List (List UInt8)) (n : Nat) (r : List UInt8) : Memo := ⟨199, [.sl 0 1 0 n (some n) 0, .s [44]], [.mem 9 (xs.map .s) 1 0], .s r, [.mem 9 (xs.map .s) 1 0]⟩
theorem mJoin_ok {xs : List (List UInt8)} {n : Nat} {r : List UInt8} (hn : xs.length = n) (hn2 : n ≤ 1000) (h : Lib.join xs [44] = r) (hl : r.length ≤ 1000) : MemoOk Tryz.prog (mJoin xs n r) := by
  subst h
  exact join_ok xs n hn hn2 [44] (by omega)
end SX
end Go.Proofs.YthkedcneehdinaaGreatDoor

/- Law 7: able() answers true. Written by x67.py. -/
set_option linter.unusedVariables false
set_option maxRecDepth 100000
namespace Go.Proofs.YthkedcneehdinaaGreatDoor
namespace SX
open Go Go.Proofs
def x7ms : List Memo := [mIB 91 4, mIB 93 5, mIB 43 11, mIB 44 8, mLoc [120] 0, mNum [50] 2, mJoin [[88, 48], [91, 120, 43, 50, 93]] 2 [88, 48, 44, 91, 120, 43, 50, 93]]
theorem x7ms_ok : ∀ m ∈ x7ms, MemoOk Tryz.prog m := by
  intro m hm
  simp only [x7ms, List.mem_cons, List.not_mem_nil, or_false] at hm
  rcases hm with rfl | rfl | rfl | rfl | rfl | rfl | rfl
  · exact mIB_ok (by decide)
  · exact mIB_ok (by decide)
  · exact mIB_ok (by decide)
  · exact mIB_ok (by decide)
  · exact mLoc_ok (by decide)
  · exact mNum_ok (by decide) (by decide) (by decide) (by decide)
  · exact mJoin_ok rfl (by decide) (by decide) (by decide)
def x7able : Memo := ⟨23, [], [], .b true, []⟩
theorem able7_ok : CtrV Tryz.prog 23 [] (.b true) := (memo_of (m := x7able) (tr := treeF) (ft := ftree) (ms := x7ms) (n := 40) tabOkF ftOk mixed x7ms_ok (by decide +kernel) : MemoOk Tryz.prog x7able)
end SX
end Go.Proofs.YthkedcneehdinaaGreatDoor

/- No words, and what is wrong with none. -/
set_option linter.unusedVariables false
set_option maxRecDepth 100000
namespace Go.Proofs.YthkedcneehdinaaGreatDoor
namespace SX
open Go Go.Proofs
theorem outq (x : Rd) (s : RS) (h : (outF x s).e = 0) : (outF x s).q = 0 := by
  unfold outF at h ⊢
  split
  · rfl
  · rename_i h0; rw [if_neg h0] at h; exact absurd h h0
theorem parse_q {rd : List Tk → List UInt8 → RS → Rd × RS} {ts : List Tk} {x : In} {l : List UInt8} {q : Int} (h : parseP rd ts = ⟨x, l, 0, q⟩) : q = 0 := by
  have h1 : (parseP rd ts).q = 0 := outq _ _ (by show (parseP rd ts).e = 0; rw [h])
  rw [h] at h1; exact h1
theorem Cp.nils1 {X : List Value → World → (Value → World → Prop) → Prop} {H : List SB} {K : SV → List SB → Prop} (h : Cp X [.imm Tk tk0 4 tkenc [] none 0] H K) : Cp X [.nils] H K :=
  ⟨fun C E m w hr ha => h.out C E m w hr ⟨⟨rfl, ⟨Nat.le_refl _, fun h => absurd rfl h, tkw, fun j hj => absurd hj (Nat.not_lt_zero _)⟩⟩, trivial⟩⟩
end SX
end Go.Proofs.YthkedcneehdinaaGreatDoor

/- belatedlaw7.ArmBack: the law's contract. Printed by xlb.py. -/
set_option linter.unusedVariables false
set_option linter.unusedSimpArgs false
set_option maxRecDepth 100000
namespace Go.Proofs.YthkedcneehdinaaGreatDoor
namespace SX
open Go Go.Proofs
set_option maxHeartbeats 4000000 in
theorem armBack_ok (i : In) (lb text : List UInt8) (hi : InW i) (hl : lb.length ≤ 2 ^ 47) (htl : text.length ≤ 2 ^ 47) : CtrV Tryz.prog 8 [.agg (ienc i), .s lb, .s text] (.b true) := by
  have pnil : CtrV Tryz.prog 24 [.nils] (prV5 (parseP readAP [])) := Cp.nils1 (armParse_v [] none 0 (by decide) (by decide))
  refine Ctr.enterV tabOkM (fn := Tryz.f8) rfl rfl rfl rfl rfl rfl ?_
  refine OpC.callV rfl rfl rfl rfl rfl rfl rfl (fun _ => able7_ok) ?_
  refine ⟨fun h => no_ft h, fun _ => ?_⟩
  refine ⟨fun _ => rfl, fun h1 => ?_⟩
  have h1 : (decide ((8000 : Int) < lb.length) || decide ((8000 : Int) < text.length)) = false := h1
  have hl1 : lb.length ≤ 8000 ∧ text.length ≤ 8000 := by
    simp only [Bool.or_eq_false_iff, decide_eq_false_iff_not] at h1
    omega
  have c1 := armPrintT i lb hi.imm (by omega)
  by_cases hy : formP i = true ∧ paT i lb ≠ [] ∧ (i.op = 9 → namedF lb = true)
  · rw [ans_yes hy.1 hy.2.1 hy.2.2] at c1
    refine OpC.callV rfl rfl rfl rfl rfl rfl rfl (fun _ => c1) ?_
    refine ⟨fun _ => ?_, fun h => absurd (show decide ((0 : Int) = 0) = false from h) (by decide)⟩
    have hlen := arm_back.len i lb hy.1 hi.imm
    obtain ⟨vs, v1, v2⟩ := arm_back.out i lb hy.1 hi.imm hy.2.1 hy.2.2 (by omega)
    refine OpC.callL rfl rfl rfl rfl [] 1 rfl rfl rfl (tokensI_ok (paT i lb)) rfl rfl rfl rfl trivial rfl (fun r H' hk => ?_) ?_
    · rcases hk with ⟨ts, ad, cap, B, h1, rfl, rfl⟩ | ⟨e, p, h1, he, rfl, rfl⟩
      · exact ⟨Nat.zero_le _, Nat.le_refl _⟩
      · exact ⟨Nat.zero_le _, Nat.zero_le _⟩
    rintro r H' (⟨ts0, ad0, cap0, B0, h0, rfl, rfl⟩ | ⟨e, p, h0, he, rfl, rfl⟩)
    rotate_left
    · rw [v1] at h0; cases h0; exact absurd rfl he
    obtain rfl : vs = ts0 := by rw [v1] at h0; cases h0; rfl
    have hz := armParse_v vs ad0 cap0 (by have := tok_count (paT i lb); rw [v1] at this; exact Nat.le_trans this (by decide)) (tk_at_len (s := paT i lb) (by rw [v1]) 0)
    rw [v2] at hz
    refine OpC.callV rfl rfl rfl rfl rfl rfl rfl (fun _ => hz) ?_
    refine ⟨fun h => ?_, fun _ => ?_⟩
    · have h : (decide (((paT i lb).length : Int) ≤ 8000) && ((!decide ((0 : Int) = 0) || !eqI { i with to := 0 } { i with to := 0 }) || (decide (i.op = 9) && !decide ((if i.op = 9 then lb else []) = lb)))) = true := h
      rw [eqI_rfl] at h
      by_cases h9 : i.op = 9
      · rw [if_pos h9] at h; simp at h
      · rw [decide_eq_false h9] at h; simp at h
    refine OpC.callL rfl rfl rfl rfl [] 1 rfl rfl rfl (tokensI_ok text) rfl rfl rfl rfl trivial rfl (fun r H' hk => ?_) ?_
    · rcases hk with ⟨ts, ad, cap, B, h1, rfl, rfl⟩ | ⟨e, p, h1, he, rfl, rfl⟩
      · exact ⟨Nat.zero_le _, Nat.le_refl _⟩
      · exact ⟨Nat.zero_le _, Nat.zero_le _⟩
    rintro r H' (⟨ts, ad, cap, B, h1, rfl, rfl⟩ | ⟨e, p, h1, he, rfl, rfl⟩)
    rotate_left
    · refine OpC.callV rfl rfl rfl rfl rfl rfl rfl (fun _ => pnil) ?_
      refine ⟨fun _ => rfl, fun h => ?_⟩
      exact absurd (by simpa [he] using (show (!decide (e = 0) || _) = false from h)) id
    have hts : (tokF text).1 = ts := by rw [h1]
    have hx := armParse_v ts ad cap (by have := tok_count text; rw [hts] at this; omega) (tk_at_len hts 0)
    obtain ⟨P, hP⟩ : ∃ P, parseP readAP ts = P := ⟨_, rfl⟩
    rw [hP] at hx
    obtain ⟨x, l, f, q⟩ := P
    refine OpC.callV rfl rfl rfl rfl rfl rfl rfl (fun _ => hx) ?_
    refine ⟨fun _ => rfl, fun h => ?_⟩
    have h : (!decide ((0 : Int) = 0) || !decide (f = 0)) = false := h
    have hf0 : f = 0 := by simpa using h
    subst hf0
    obtain rfl : q = 0 := parse_q hP
    obtain ⟨b1, b2, b3, b4, b5, b6, us, b7, b8⟩ := arm_back.read h1 hl1.2 hP
    have hpr := armPrintT x l b2 (by omega)
    rw [ans_yes b1 b3 b4] at hpr
    refine OpC.callV rfl rfl rfl rfl rfl rfl rfl (fun _ => hpr) ?_
    refine OpC.callL rfl rfl rfl rfl [] 1 rfl rfl rfl (tokensI_ok (paT x l)) rfl rfl rfl rfl trivial rfl (fun r H' hk => ?_) ?_
    · rcases hk with ⟨ts, ad, cap, B, h1, rfl, rfl⟩ | ⟨e, p, h1, he, rfl, rfl⟩
      · exact ⟨Nat.zero_le _, Nat.le_refl _⟩
      · exact ⟨Nat.zero_le _, Nat.zero_le _⟩
    rintro r H' (⟨ts2, ad2, cap2, B2, h2, rfl, rfl⟩ | ⟨e, p, h2, he, rfl, rfl⟩)
    rotate_left
    · rw [b7] at h2; cases h2; exact absurd rfl he
    obtain rfl : us = ts2 := by rw [b7] at h2; cases h2; rfl
    have hy := armParse_v us ad2 cap2 (by have := tok_count (paT x l); rw [b7] at this; exact Nat.le_trans this (by decide)) (tk_at_len (s := paT x l) (by rw [b7]) 0)
    rw [b8] at hy
    refine OpC.callV rfl rfl rfl rfl rfl rfl rfl (fun _ => hy) ?_
    refine b_cg ?_
    show (((decide ((0 : Int) = 0) && decide ((0 : Int) = 0)) && eqI x x) && decide (l = l)) = true
    rw [eqI_rfl]
    simp
  · obtain ⟨e0, he0, ha0⟩ := ans_no hy
    rw [ha0] at c1
    refine OpC.callV rfl rfl rfl rfl rfl rfl rfl (fun _ => c1) ?_
    refine ⟨fun h => absurd (of_decide_eq_true (show decide (e0 = 0) = true from h)) he0, fun _ => ?_⟩
    refine OpC.callL rfl rfl rfl rfl [] 1 rfl rfl rfl (tokensI_ok text) rfl rfl rfl rfl trivial rfl (fun r H' hk => ?_) ?_
    · rcases hk with ⟨ts, ad, cap, B, h1, rfl, rfl⟩ | ⟨e, p, h1, he, rfl, rfl⟩
      · exact ⟨Nat.zero_le _, Nat.le_refl _⟩
      · exact ⟨Nat.zero_le _, Nat.zero_le _⟩
    rintro r H' (⟨ts, ad, cap, B, h1, rfl, rfl⟩ | ⟨e, p, h1, he, rfl, rfl⟩)
    rotate_left
    · refine OpC.callV rfl rfl rfl rfl rfl rfl rfl (fun _ => pnil) ?_
      refine ⟨fun _ => rfl, fun h => ?_⟩
      exact absurd (by simpa [he] using (show (!decide (e = 0) || _) = false from h)) id
    have hts : (tokF text).1 = ts := by rw [h1]
    have hx := armParse_v ts ad cap (by have := tok_count text; rw [hts] at this; omega) (tk_at_len hts 0)
    obtain ⟨P, hP⟩ : ∃ P, parseP readAP ts = P := ⟨_, rfl⟩
    rw [hP] at hx
    obtain ⟨x, l, f, q⟩ := P
    refine OpC.callV rfl rfl rfl rfl rfl rfl rfl (fun _ => hx) ?_
    refine ⟨fun _ => rfl, fun h => ?_⟩
    have h : (!decide ((0 : Int) = 0) || !decide (f = 0)) = false := h
    have hf0 : f = 0 := by simpa using h
    subst hf0
    obtain rfl : q = 0 := parse_q hP
    obtain ⟨b1, b2, b3, b4, b5, b6, us, b7, b8⟩ := arm_back.read h1 hl1.2 hP
    have hpr := armPrintT x l b2 (by omega)
    rw [ans_yes b1 b3 b4] at hpr
    refine OpC.callV rfl rfl rfl rfl rfl rfl rfl (fun _ => hpr) ?_
    refine OpC.callL rfl rfl rfl rfl [] 1 rfl rfl rfl (tokensI_ok (paT x l)) rfl rfl rfl rfl trivial rfl (fun r H' hk => ?_) ?_
    · rcases hk with ⟨ts, ad, cap, B, h1, rfl, rfl⟩ | ⟨e, p, h1, he, rfl, rfl⟩
      · exact ⟨Nat.zero_le _, Nat.le_refl _⟩
      · exact ⟨Nat.zero_le _, Nat.zero_le _⟩
    rintro r H' (⟨ts2, ad2, cap2, B2, h2, rfl, rfl⟩ | ⟨e, p, h2, he, rfl, rfl⟩)
    rotate_left
    · rw [b7] at h2; cases h2; exact absurd rfl he
    obtain rfl : us = ts2 := by rw [b7] at h2; cases h2; rfl
    have hy := armParse_v us ad2 cap2 (by have := tok_count (paT x l); rw [b7] at this; exact Nat.le_trans this (by decide)) (tk_at_len (s := paT x l) (by rw [b7]) 0)
    rw [b8] at hy
    refine OpC.callV rfl rfl rfl rfl rfl rfl rfl (fun _ => hy) ?_
    refine b_cg ?_
    show (((decide ((0 : Int) = 0) && decide ((0 : Int) = 0)) && eqI x x) && decide (l = l)) = true
    rw [eqI_rfl]
    simp
end SX
end Go.Proofs.YthkedcneehdinaaGreatDoor

/- ArmBack: the row. Written by row.py. -/
set_option linter.unusedVariables false
set_option linter.unusedSimpArgs false
set_option maxRecDepth 100000
namespace Go.Proofs.YthkedcneehdinaaGreatDoor
open Go Go.ChangeShapes Go.WideShapes Go.ChangeAt Go.RowKit
theorem params_in : ∀ t ∈ Tryz.f8.params.toList, t < Tryz.prog.types.size := by
  have : (Tryz.f8.params.toList.all fun t => Nat.blt t Tryz.prog.types.size) = true := by kernel_rfl
  exact fun t ht => Nat.le_of_ble_eq_true (List.all_eq_true.1 this t ht)
theorem door_met (os : Os) (args : Array Value) : laidMetH Tryz.prog Rows.armBackRow.laid ((World.doorLaid Tryz.prog 400 os).forCall (fun _ _ => 0) ⟨#[], args, []⟩).memory :=
  laidMetH_of_parts3 (fuel := 8) (laidMet_of_run' 8 (by kernel_rfl) (by kernel_rfl)) (by kernel_rfl) (by kernel_rfl)
theorem lifted (os : Os) (started : os.Started) (H : Type) (enc : TypeId × Value → H) :
    ReturnsInHanded {} Tryz.checked os 8 .any (fun w args => (Rows.armBackSpec.pre enc Tryz.prog Tryz.f8 [] false w args ∧ laidMetH Tryz.prog Rows.armBackRow.laid w) ∧ sizedMet enc Tryz.prog Tryz.f8 (OpenSpec.ofChange Rows.armBackSpec) false w args)
      (Rows.armBackSpec.post enc Tryz.prog Tryz.f8 false true false false) := by
  refine SX.returns_shaped (C := Tryz.checked) (X := fun w _ => laidMetH Tryz.prog Rows.armBackRow.laid w) (fun _ _ _ hh h => h.of_heap hh) own started (by kernel_rfl) Tryz.func8
    (ChangeSpec.witness_shaped (enc := enc) (C := Tryz.checked) (os := os) (X := fun w _ => laidMetH Tryz.prog Rows.armBackRow.laid w) false (World.doorLaid Tryz.prog 400 os) #[.agg #[.int .i64 0, .int .i64 0, .int .i64 0, .int .i64 0, .int .i64 0, .int .i64 0, .int .i64 0, .int .i64 0, .int .i64 0, .int .i64 0, .bool false, .bool false, .bool false, .int .i64 0, .int .i64 0, .int .i64 0, .bool false], .string ⟨#[]⟩, .string ⟨#[]⟩] 8 rfl (World.shaped_of_RefB (by kernel_rfl) (by kernel_rfl)) (by kernel_rfl) (by kernel_rfl) (by kernel_rfl) (door_met os _)) ?_
  intro W base args ds gs before hval0 hW hz hL hSh
  have hval : ∀ (j : Nat) t v, Tryz.f8.params[j]? = some t → args[j]? = some v → Value.okWide Tryz.prog W .any base t v := hval0
  have hW' := hW
  obtain ⟨p, q, hA0, hV, rfl, hfz, hnd⟩ := hW
  have hA : DataW.TrodAll enc Tryz.prog W 0 (fun _ => true) true Tryz.f8.params.toList args.toList ds p := hA0
  rw [Tryz.params8] at hA hval
  obtain ⟨v0, v1, v2, d0, d1, d2, p0, p1, p2, rfl, rfl, rfl, h0, h1, h2⟩ := trodAll_three hA
  obtain ⟨rfl, rfl⟩ := trodVars_none hV
  obtain ⟨x0, rfl, w0⟩ := ins_open (hval 0 _ v0 rfl rfl) h0
  obtain ⟨s1, rfl, e1, _, _⟩ := Go.ChangeMaps.open_string Tryz.underlying9 (hval 1 _ v1 rfl rfl) h1
  have w1 := sized_string hz (j := 1) rfl (congrArg some e1)
  obtain ⟨s2, rfl, e2, _, _⟩ := Go.ChangeMaps.open_string Tryz.underlying9 (hval 2 _ v2 rfl rfl) h2
  have w2 := sized_string hz (j := 2) rfl (congrArg some e2)
  clear hA0 hval0
  have hT := SX.tabsIn_row hL rfl hSh (List.mem_of_getElem? (i := 0) rfl) (List.mem_of_getElem? (i := 1) rfl) (List.mem_of_getElem? (i := 2) rfl) (List.mem_of_getElem? (i := 3) rfl) (List.mem_of_getElem? (i := 4) rfl) (List.mem_of_getElem? (i := 6) rfl) (by kernel_rfl) (by kernel_rfl) (by kernel_rfl) (by kernel_rfl) (by kernel_rfl) (by kernel_rfl)
  refine (SX.law_callsM (args := [.agg (SX.ienc x0), .s s1.data.toList, .s s2.data.toList]) Tryz.func8 rfl rfl (SX.armBack_ok x0 s1.data.toList s2.data.toList w0 (Nat.le_of_lt (Nat.lt_of_le_of_lt w1 reachBytes_lt)) (Nat.le_of_lt (Nat.lt_of_le_of_lt w2 reachBytes_lt))) W hT (fun _ => false) ?_ (by simp [SX.den, SX.denL, SX.wrapV, SX.cells])).mono fun e W' ⟨he, hk, ho, hu⟩ => ?_
  · exact ⟨⟨rfl, by simp [SX.Ok, SX.ienc, SX.OkL, SX.isUnit]⟩, ⟨rfl, trivial⟩, ⟨rfl, trivial⟩, trivial⟩
  subst he
  exact ⟨_, rfl, SX.post_kept hk compsOk params_in (fun n hn => by cases hn) hW' ho hu rfl rfl rfl (fun _ _ _ => trodAll_mk1 (shut_bool Tryz.underlying4 _)) (ok_one (by kernel_rfl) rfl (okWide_bool_mk Tryz.underlying4 _))⟩
theorem fact0 : (fun (P : Program) (f : FuncId) (fn : Func) (s : ChangeSpec) (c : OpenClaim) => c.wf (OpenSpec.ofChange s)) Tryz.prog 8 Tryz.f8 Rows.armBackSpec Rows.armBackRow = true := by kernel_rfl
theorem fact1 : (fun (P : Program) (f : FuncId) (fn : Func) (s : ChangeSpec) (c : OpenClaim) => laidOutB P) Tryz.prog 8 Tryz.f8 Rows.armBackSpec Rows.armBackRow = true := by kernel_rfl
theorem fact2 : (fun (P : Program) (f : FuncId) (fn : Func) (s : ChangeSpec) (c : OpenClaim) => mapsRowed P) Tryz.prog 8 Tryz.f8 Rows.armBackSpec Rows.armBackRow = true := by kernel_rfl
theorem fact3 : (fun (P : Program) (f : FuncId) (fn : Func) (s : ChangeSpec) (c : OpenClaim) => fn.params.all (P.readableRec ·)) Tryz.prog 8 Tryz.f8 Rows.armBackSpec Rows.armBackRow = true := by kernel_rfl
theorem fact4 : (fun (P : Program) (f : FuncId) (fn : Func) (s : ChangeSpec) (c : OpenClaim) => namedTie P c.named s.vars) Tryz.prog 8 Tryz.f8 Rows.armBackSpec Rows.armBackRow = true := by kernel_rfl
theorem fact5 : (fun (P : Program) (f : FuncId) (fn : Func) (s : ChangeSpec) (c : OpenClaim) => (c.stops == [])) Tryz.prog 8 Tryz.f8 Rows.armBackSpec Rows.armBackRow = true := by kernel_rfl
theorem fact6 : (fun (P : Program) (f : FuncId) (fn : Func) (s : ChangeSpec) (c : OpenClaim) => (P.stops == [])) Tryz.prog 8 Tryz.f8 Rows.armBackSpec Rows.armBackRow = true := by kernel_rfl
theorem fact7 : (fun (P : Program) (f : FuncId) (fn : Func) (s : ChangeSpec) (c : OpenClaim) => (c.knobs == [])) Tryz.prog 8 Tryz.f8 Rows.armBackSpec Rows.armBackRow = true := by kernel_rfl
theorem fact8 : (fun (P : Program) (f : FuncId) (fn : Func) (s : ChangeSpec) (c : OpenClaim) => (P.stopKnobs == [])) Tryz.prog 8 Tryz.f8 Rows.armBackSpec Rows.armBackRow = true := by kernel_rfl
theorem fact9 : (fun (P : Program) (f : FuncId) (fn : Func) (s : ChangeSpec) (c : OpenClaim) => (c.inPlace == P.inPlace f)) Tryz.prog 8 Tryz.f8 Rows.armBackSpec Rows.armBackRow = true := by kernel_rfl
theorem fact10 : (fun (P : Program) (f : FuncId) (fn : Func) (s : ChangeSpec) (c : OpenClaim) => (c.unfollowed == P.unfollowed f)) Tryz.prog 8 Tryz.f8 Rows.armBackSpec Rows.armBackRow = true := by kernel_rfl
theorem fact11 : (fun (P : Program) (f : FuncId) (fn : Func) (s : ChangeSpec) (c : OpenClaim) => (c.recurses == P.recurses f)) Tryz.prog 8 Tryz.f8 Rows.armBackSpec Rows.armBackRow = true := by kernel_rfl
theorem fact12 : (fun (P : Program) (f : FuncId) (fn : Func) (s : ChangeSpec) (c : OpenClaim) => (c.named == P.varsNamed f)) Tryz.prog 8 Tryz.f8 Rows.armBackSpec Rows.armBackRow = true := by kernel_rfl
theorem fact13 : (fun (P : Program) (f : FuncId) (fn : Func) (s : ChangeSpec) (c : OpenClaim) => (c.maps == (fn.params.toList ++ s.plain.varTypes P).any (P.mapsRec ·))) Tryz.prog 8 Tryz.f8 Rows.armBackSpec Rows.armBackRow = true := by kernel_rfl
theorem fact14 : (fun (P : Program) (f : FuncId) (fn : Func) (s : ChangeSpec) (c : OpenClaim) => (c.ifaces == (fn.params.toList ++ s.plain.varTypes P).any (P.ifacesRec ·))) Tryz.prog 8 Tryz.f8 Rows.armBackSpec Rows.armBackRow = true := by kernel_rfl
theorem fact15 : (fun (P : Program) (f : FuncId) (fn : Func) (s : ChangeSpec) (c : OpenClaim) => (c.mapsOut == P.mapsAmong fn.resultTypes.toList)) Tryz.prog 8 Tryz.f8 Rows.armBackSpec Rows.armBackRow = true := by kernel_rfl
theorem fact16 : (fun (P : Program) (f : FuncId) (fn : Func) (s : ChangeSpec) (c : OpenClaim) => (c.loops == (fn.params.toList ++ s.plain.varTypes P).any (P.loopsFrom ·))) Tryz.prog 8 Tryz.f8 Rows.armBackSpec Rows.armBackRow = true := by kernel_rfl
theorem fact17 : (fun (P : Program) (f : FuncId) (fn : Func) (s : ChangeSpec) (c : OpenClaim) => (c.wideKeys == (fn.params.toList ++ s.plain.varTypes P ++ fn.resultTypes.toList).any (P.wideKeysFrom ·))) Tryz.prog 8 Tryz.f8 Rows.armBackSpec Rows.armBackRow = true := by kernel_rfl
theorem fact18 : (fun (P : Program) (f : FuncId) (fn : Func) (s : ChangeSpec) (c : OpenClaim) => s.vars.all (P.varReadable ·)) Tryz.prog 8 Tryz.f8 Rows.armBackSpec Rows.armBackRow = true := by kernel_rfl
theorem fact19 : (fun (P : Program) (f : FuncId) (fn : Func) (s : ChangeSpec) (c : OpenClaim) => fn.resultTypes.all (fun t => P.readableRec t && decide (t < P.types.size))) Tryz.prog 8 Tryz.f8 Rows.armBackSpec Rows.armBackRow = true := by kernel_rfl
theorem fact20 : (fun (P : Program) (f : FuncId) (fn : Func) (s : ChangeSpec) (c : OpenClaim) => (c.ifacesOut == fn.resultTypes.toList.any (P.ifacesRec ·))) Tryz.prog 8 Tryz.f8 Rows.armBackSpec Rows.armBackRow = true := by kernel_rfl
theorem fact21 : (fun (P : Program) (f : FuncId) (fn : Func) (s : ChangeSpec) (c : OpenClaim) => (c.loopsOut == fn.resultTypes.toList.any (P.loopsFrom ·))) Tryz.prog 8 Tryz.f8 Rows.armBackSpec Rows.armBackRow = true := by kernel_rfl
theorem fact22 : (fun (P : Program) (f : FuncId) (fn : Func) (s : ChangeSpec) (c : OpenClaim) => (c.plainKeys == P.plainKeys)) Tryz.prog 8 Tryz.f8 Rows.armBackSpec Rows.armBackRow = true := by kernel_rfl
theorem fact23 : (fun (P : Program) (f : FuncId) (fn : Func) (s : ChangeSpec) (c : OpenClaim) => c.shortTexts.isNone) Tryz.prog 8 Tryz.f8 Rows.armBackSpec Rows.armBackRow = true := by kernel_rfl
theorem fact24 : (fun (P : Program) (f : FuncId) (fn : Func) (s : ChangeSpec) (c : OpenClaim) => P.stopsHeard) Tryz.prog 8 Tryz.f8 Rows.armBackSpec Rows.armBackRow = true := by kernel_rfl
theorem fact25 : (fun (P : Program) (f : FuncId) (fn : Func) (s : ChangeSpec) (c : OpenClaim) => P.mayEnter) Tryz.prog 8 Tryz.f8 Rows.armBackSpec Rows.armBackRow = true := by kernel_rfl
theorem fact26 : (fun (P : Program) (f : FuncId) (fn : Func) (s : ChangeSpec) (c : OpenClaim) => (c.lifted == P.liftsFinal)) Tryz.prog 8 Tryz.f8 Rows.armBackSpec Rows.armBackRow = true := by kernel_rfl
theorem fact27 : (fun (P : Program) (f : FuncId) (fn : Func) (s : ChangeSpec) (c : OpenClaim) => (P.make == some c.make)) Tryz.prog 8 Tryz.f8 Rows.armBackSpec Rows.armBackRow = true := by kernel_rfl
theorem fact28 : (fun (P : Program) (f : FuncId) (fn : Func) (s : ChangeSpec) (c : OpenClaim) => (c.kinds == (if c.domain.isEmpty then [] else fn.params.toList.map fun t => match P.underlying t with | some (.int k) => some k | _ => none))) Tryz.prog 8 Tryz.f8 Rows.armBackSpec Rows.armBackRow = true := by kernel_rfl
theorem fact29 : (fun (P : Program) (f : FuncId) (fn : Func) (s : ChangeSpec) (c : OpenClaim) => (c.pinned == c.pinnedBy)) Tryz.prog 8 Tryz.f8 Rows.armBackSpec Rows.armBackRow = true := by kernel_rfl
theorem fact30 : (fun (P : Program) (f : FuncId) (fn : Func) (s : ChangeSpec) (c : OpenClaim) => (c.veiled == (fn.params.toList ++ s.plain.varTypes P ++ fn.resultTypes.toList).any (P.veiledRec ·))) Tryz.prog 8 Tryz.f8 Rows.armBackSpec Rows.armBackRow = true := by kernel_rfl
theorem fact31 : (fun (P : Program) (f : FuncId) (fn : Func) (s : ChangeSpec) (c : OpenClaim) => c.veiledFits P fn.params.toList (fn.params.toList ++ s.plain.varTypes P ++ fn.resultTypes.toList)) Tryz.prog 8 Tryz.f8 Rows.armBackSpec Rows.armBackRow = true := by kernel_rfl
theorem facts : joinedFacts Tryz.prog 8 Tryz.f8 Rows.armBackSpec Rows.armBackRow = true := facts_of fact0 fact1 fact2 fact3 fact4 fact5 fact6 fact7 fact8 fact9 fact10 fact11 fact12 fact13 fact14 fact15 fact16 fact17 fact18 fact19 fact20 fact21 fact22 fact23 fact24 fact25 fact26 fact27 fact28 fact29 fact30 fact31
theorem fnamed : Tryz.prog.funcNamed "belated/belatedlaw7.ArmBack" = some 8 := by kernel_rfl
theorem instOk : Tryz.f8.isInstance Tryz.prog Rows.armBackRow.origin Rows.armBackRow.targs := of_decide_eq_true (by kernel_rfl)
theorem wrapOk : Tryz.f8.isWrapper Tryz.prog Rows.armBackRow.wrapper Rows.armBackRow.mainSum := by
  unfold Func.isWrapper; first | (rw [if_pos (by decide +kernel)]; kernel_rfl) | (rw [if_neg (by decide +kernel)]; exact ⟨rfl, rfl⟩)
theorem armBack_holds : Rows.ArmBackSaid :=
  OpenClaim.holds_of_wide 8 Tryz.f8 rfl rfl rfl rfl rfl rfl rfl ⟨rfl, rfl, rfl, rfl, rfl⟩ rfl rfl rfl rfl rfl fnamed Tryz.func8 facts instOk wrapOk
    (fun os started H enc _ => lifted os started H enc)
theorem wfText : Rows.armBackRow.wfByText (OpenSpec.ofChange Rows.armBackSpec) = true := by kernel_rfl
theorem mainOk : Tryz.prog.mainIs = some (true, "ee5e4f0b19a504e36959d0abf6e8593140e78c9cabcc708e7bd1f2ba571561a3".toList) := by kernel_rfl
theorem looksOk : true = Tryz.prog.looks [] := by kernel_rfl
theorem standOk : ([23, 9, 9].all fun u => !Tryz.prog.wantsStandIn u) = true := by kernel_rfl
theorem goesOk : false = Rows.armBackRow.goesBy Tryz.prog := by kernel_rfl
theorem armBack_card : Rows.ArmBackCardSaid :=
  Claim7.holds_tied_plain_at .later [] [.data, .data, .data, .sentinel, .sentinel, .listed, .data] true (true, "ee5e4f0b19a504e36959d0abf6e8593140e78c9cabcc708e7bd1f2ba571561a3") true
    armBack_holds (fun _ h => by cases h) wfText (fun _ h => by cases h) armBack_row_tie rfl ⟨rfl, rfl⟩ mainOk rfl
    (fun f fn hf hfn => by
      obtain rfl : f = 8 := Option.some.inj (fnamed.symm.trans hf) |>.symm
      obtain rfl : fn = Tryz.f8 := (Option.some.inj (Tryz.func8.symm.trans hfn)).symm
      exact ⟨looksOk, fun j t ht => by
        have ht : [23, 9, 9].toArray[j]? = some t := by rw [Tryz.params8] at ht; exact ht
        have hm : t ∈ [23, 9, 9] := by simpa using Array.mem_of_getElem? ht
        exact (show Tryz.prog.wantsStandIn t = false by simpa using List.all_eq_true.1 standOk t hm)⟩)
    goesOk
#print axioms armBack_card
end Go.Proofs.YthkedcneehdinaaGreatDoor
