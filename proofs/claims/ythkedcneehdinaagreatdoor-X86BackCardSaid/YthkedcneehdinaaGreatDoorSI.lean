/- X86Back: what is printed of an instruction of x86 is parsed as it was, but for where a branch goes; what was parsed is printed, and parsed again it is the same. -/
import Derived.Test.YthkedcneehdinaaGreatDoorCards
import Derived.Test.YthkedcneehdinaaGreatDoorTie
import Derived.SevenTiedAt
import Derived.Test.YthkedcneehdinaaGreatDoorSH
set_option linter.unusedVariables false
set_option linter.unusedSimpArgs false
set_option linter.unusedSectionVars false
/- x86: texts of instructions, the program's. Printed by xpr.py. -/
set_option linter.unusedVariables false
set_option maxRecDepth 100000
namespace Go.Proofs.YthkedcneehdinaaGreatDoor
namespace SX
open Go Go.Proofs
set_option maxHeartbeats 1600000 in
theorem xp_31 (s0 s1 s2 s3 s4 s5 s6 s7 h : List UInt8) (rd pw : Nat) (hs : ∀ n, (nmF [s0, s1, s2, s3, s4, s5, s6, s7] n).length ≤ 3) (hh : h.length ≤ 10) (dst a b imm loc off ix sz pr su to : Int) (acq wk rel ze : Bool) (lb : List UInt8) (hd : dst = a) (hi : in64 imm) : Ctr Tryz.prog 81 [.ptr 1 1 0 [], .agg (ienc ⟨3, dst, a, b, imm, loc, off, ix, sz, 1, acq, wk, rel, pr, su, to, ze⟩), .s lb] [rowS s0 s1 s2 s3 s4 s5 s6 s7, langB h rd pw]
    (fun r h' => r = .tup [.s (lineF [65, 68, 68] [nmF [s0, s1, s2, s3, s4, s5, s6, s7] dst, orF [s0, s1, s2, s3, s4, s5, s6, s7] h b imm]), .b true] ∧ h' = [rowS s0 s1 s2 s3 s4 s5 s6 s7, langB h rd pw]) := by
  refine Ctr.enterG tabOkF (fn := Tryz.f81) rfl rfl rfl rfl rfl rfl bndLang ?_
  refine OpC.callG rfl rfl rfl rfl rfl rfl (fun _ => Ctr.spread (end_ok sz [66] [87] [76] [81]) (fun ρ => rfl) _ [3] rfl rfl ⟨rfl, trivial⟩ rfl) ?_
  refine ⟨fun h => no_ft h, fun _ => ?_⟩
  refine ⟨fun h => no_ft h, fun _ => ?_⟩
  refine ⟨fun _ => ?_, fun h => ?_⟩
  rotate_left
  · have h : decide (dst = a) = false := h
    rw [decide_eq_true hd] at h; exact no_tf h
  refine WpC.dr tabOkF mixed 2 ?_
  refine OpD.callL rfl rfl rfl rfl [] 1 rfl rfl functions_ok rfl rfl rfl rfl trivial rfl rfl ?_
  refine ⟨fun _ => by show (0 : Int) ≤ 1 ∧ (1 : Int) < ((6 : Nat) : Int); decide, ?_⟩
  refine OpD.callG [0, 1] rfl rfl rfl rfl rfl rfl (r := .s (nmF [s0, s1, s2, s3, s4, s5, s6, s7] dst)) (fun _ H1 hH => Ctr.spread (lnm_ok s0 s1 s2 s3 s4 s5 s6 s7 h rd pw dst) (fun ρ => rfl) H1 [0, 1] rfl rfl ⟨hH 0 (by simp), hH 1 (by simp), trivial⟩ rfl) ?_
  refine OpD.callG [0, 1] rfl rfl rfl rfl rfl rfl (r := .s (orF [s0, s1, s2, s3, s4, s5, s6, s7] h b imm)) (fun _ H1 hH => Ctr.spread (lor_ok s0 s1 s2 s3 s4 s5 s6 s7 h rd pw b imm hi hh) (fun ρ => rfl) H1 [0, 1] rfl rfl ⟨hH 0 (by simp), hH 1 (by simp), trivial⟩ rfl) ?_
  refine OpD.callG [5] rfl rfl rfl rfl rfl rfl (r := .s (lineF [65, 68, 68] [nmF [s0, s1, s2, s3, s4, s5, s6, s7] dst, orF [s0, s1, s2, s3, s4, s5, s6, s7] h b imm])) (fun _ H1 hH => Ctr.spread (line_ok [65, 68, 68] [nmF [s0, s1, s2, s3, s4, s5, s6, s7] dst, orF [s0, s1, s2, s3, s4, s5, s6, s7] h b imm] 2 rfl (by decide) (by decide) (by rw [join2_len]; have := hs dst; have := orF_len (r := b) hs hi hh; omega) (by decide)) (fun ρ => rfl) H1 [5] rfl rfl ⟨hH 5 (by simp), trivial⟩ rfl) ?_
  refine ⟨by kernel_rfl, ?_⟩
  exact ⟨rfl, _, rfl⟩
set_option maxHeartbeats 1600000 in
theorem xp_32 (s0 s1 s2 s3 s4 s5 s6 s7 h : List UInt8) (rd pw : Nat) (hs : ∀ n, (nmF [s0, s1, s2, s3, s4, s5, s6, s7] n).length ≤ 3) (hh : h.length ≤ 10) (dst a b imm loc off ix sz pr su to : Int) (acq wk rel ze : Bool) (lb : List UInt8) (hd : dst = a) (hi : in64 imm) : Ctr Tryz.prog 81 [.ptr 1 1 0 [], .agg (ienc ⟨3, dst, a, b, imm, loc, off, ix, sz, 2, acq, wk, rel, pr, su, to, ze⟩), .s lb] [rowS s0 s1 s2 s3 s4 s5 s6 s7, langB h rd pw]
    (fun r h' => r = .tup [.s (lineF [83, 85, 66] [nmF [s0, s1, s2, s3, s4, s5, s6, s7] dst, orF [s0, s1, s2, s3, s4, s5, s6, s7] h b imm]), .b true] ∧ h' = [rowS s0 s1 s2 s3 s4 s5 s6 s7, langB h rd pw]) := by
  refine Ctr.enterG tabOkF (fn := Tryz.f81) rfl rfl rfl rfl rfl rfl bndLang ?_
  refine OpC.callG rfl rfl rfl rfl rfl rfl (fun _ => Ctr.spread (end_ok sz [66] [87] [76] [81]) (fun ρ => rfl) _ [3] rfl rfl ⟨rfl, trivial⟩ rfl) ?_
  refine ⟨fun h => no_ft h, fun _ => ?_⟩
  refine ⟨fun h => no_ft h, fun _ => ?_⟩
  refine ⟨fun _ => ?_, fun h => ?_⟩
  rotate_left
  · have h : decide (dst = a) = false := h
    rw [decide_eq_true hd] at h; exact no_tf h
  refine WpC.dr tabOkF mixed 2 ?_
  refine OpD.callL rfl rfl rfl rfl [] 1 rfl rfl functions_ok rfl rfl rfl rfl trivial rfl rfl ?_
  refine ⟨fun _ => by show (0 : Int) ≤ 2 ∧ (2 : Int) < ((6 : Nat) : Int); decide, ?_⟩
  refine OpD.callG [0, 1] rfl rfl rfl rfl rfl rfl (r := .s (nmF [s0, s1, s2, s3, s4, s5, s6, s7] dst)) (fun _ H1 hH => Ctr.spread (lnm_ok s0 s1 s2 s3 s4 s5 s6 s7 h rd pw dst) (fun ρ => rfl) H1 [0, 1] rfl rfl ⟨hH 0 (by simp), hH 1 (by simp), trivial⟩ rfl) ?_
  refine OpD.callG [0, 1] rfl rfl rfl rfl rfl rfl (r := .s (orF [s0, s1, s2, s3, s4, s5, s6, s7] h b imm)) (fun _ H1 hH => Ctr.spread (lor_ok s0 s1 s2 s3 s4 s5 s6 s7 h rd pw b imm hi hh) (fun ρ => rfl) H1 [0, 1] rfl rfl ⟨hH 0 (by simp), hH 1 (by simp), trivial⟩ rfl) ?_
  refine OpD.callG [5] rfl rfl rfl rfl rfl rfl (r := .s (lineF [83, 85, 66] [nmF [s0, s1, s2, s3, s4, s5, s6, s7] dst, orF [s0, s1, s2, s3, s4, s5, s6, s7] h b imm])) (fun _ H1 hH => Ctr.spread (line_ok [83, 85, 66] [nmF [s0, s1, s2, s3, s4, s5, s6, s7] dst, orF [s0, s1, s2, s3, s4, s5, s6, s7] h b imm] 2 rfl (by decide) (by decide) (by rw [join2_len]; have := hs dst; have := orF_len (r := b) hs hi hh; omega) (by decide)) (fun ρ => rfl) H1 [5] rfl rfl ⟨hH 5 (by simp), trivial⟩ rfl) ?_
  refine ⟨by kernel_rfl, ?_⟩
  exact ⟨rfl, _, rfl⟩
set_option maxHeartbeats 1600000 in
theorem xp_33 (s0 s1 s2 s3 s4 s5 s6 s7 h : List UInt8) (rd pw : Nat) (hs : ∀ n, (nmF [s0, s1, s2, s3, s4, s5, s6, s7] n).length ≤ 3) (hh : h.length ≤ 10) (dst a b imm loc off ix sz pr su to : Int) (acq wk rel ze : Bool) (lb : List UInt8) (hd : dst = a) (hi : in64 imm) : Ctr Tryz.prog 81 [.ptr 1 1 0 [], .agg (ienc ⟨3, dst, a, b, imm, loc, off, ix, sz, 3, acq, wk, rel, pr, su, to, ze⟩), .s lb] [rowS s0 s1 s2 s3 s4 s5 s6 s7, langB h rd pw]
    (fun r h' => r = .tup [.s (lineF [88, 79, 82] [nmF [s0, s1, s2, s3, s4, s5, s6, s7] dst, orF [s0, s1, s2, s3, s4, s5, s6, s7] h b imm]), .b true] ∧ h' = [rowS s0 s1 s2 s3 s4 s5 s6 s7, langB h rd pw]) := by
  refine Ctr.enterG tabOkF (fn := Tryz.f81) rfl rfl rfl rfl rfl rfl bndLang ?_
  refine OpC.callG rfl rfl rfl rfl rfl rfl (fun _ => Ctr.spread (end_ok sz [66] [87] [76] [81]) (fun ρ => rfl) _ [3] rfl rfl ⟨rfl, trivial⟩ rfl) ?_
  refine ⟨fun h => no_ft h, fun _ => ?_⟩
  refine ⟨fun h => no_ft h, fun _ => ?_⟩
  refine ⟨fun _ => ?_, fun h => ?_⟩
  rotate_left
  · have h : decide (dst = a) = false := h
    rw [decide_eq_true hd] at h; exact no_tf h
  refine WpC.dr tabOkF mixed 2 ?_
  refine OpD.callL rfl rfl rfl rfl [] 1 rfl rfl functions_ok rfl rfl rfl rfl trivial rfl rfl ?_
  refine ⟨fun _ => by show (0 : Int) ≤ 3 ∧ (3 : Int) < ((6 : Nat) : Int); decide, ?_⟩
  refine OpD.callG [0, 1] rfl rfl rfl rfl rfl rfl (r := .s (nmF [s0, s1, s2, s3, s4, s5, s6, s7] dst)) (fun _ H1 hH => Ctr.spread (lnm_ok s0 s1 s2 s3 s4 s5 s6 s7 h rd pw dst) (fun ρ => rfl) H1 [0, 1] rfl rfl ⟨hH 0 (by simp), hH 1 (by simp), trivial⟩ rfl) ?_
  refine OpD.callG [0, 1] rfl rfl rfl rfl rfl rfl (r := .s (orF [s0, s1, s2, s3, s4, s5, s6, s7] h b imm)) (fun _ H1 hH => Ctr.spread (lor_ok s0 s1 s2 s3 s4 s5 s6 s7 h rd pw b imm hi hh) (fun ρ => rfl) H1 [0, 1] rfl rfl ⟨hH 0 (by simp), hH 1 (by simp), trivial⟩ rfl) ?_
  refine OpD.callG [5] rfl rfl rfl rfl rfl rfl (r := .s (lineF [88, 79, 82] [nmF [s0, s1, s2, s3, s4, s5, s6, s7] dst, orF [s0, s1, s2, s3, s4, s5, s6, s7] h b imm])) (fun _ H1 hH => Ctr.spread (line_ok [88, 79, 82] [nmF [s0, s1, s2, s3, s4, s5, s6, s7] dst, orF [s0, s1, s2, s3, s4, s5, s6, s7] h b imm] 2 rfl (by decide) (by decide) (by rw [join2_len]; have := hs dst; have := orF_len (r := b) hs hi hh; omega) (by decide)) (fun ρ => rfl) H1 [5] rfl rfl ⟨hH 5 (by simp), trivial⟩ rfl) ?_
  refine ⟨by kernel_rfl, ?_⟩
  exact ⟨rfl, _, rfl⟩
set_option maxHeartbeats 1600000 in
theorem xp_34 (s0 s1 s2 s3 s4 s5 s6 s7 h : List UInt8) (rd pw : Nat) (hs : ∀ n, (nmF [s0, s1, s2, s3, s4, s5, s6, s7] n).length ≤ 3) (hh : h.length ≤ 10) (dst a b imm loc off ix sz pr su to : Int) (acq wk rel ze : Bool) (lb : List UInt8) (hd : dst = a) (hi : in64 imm) : Ctr Tryz.prog 81 [.ptr 1 1 0 [], .agg (ienc ⟨3, dst, a, b, imm, loc, off, ix, sz, 4, acq, wk, rel, pr, su, to, ze⟩), .s lb] [rowS s0 s1 s2 s3 s4 s5 s6 s7, langB h rd pw]
    (fun r h' => r = .tup [.s (lineF [65, 78, 68] [nmF [s0, s1, s2, s3, s4, s5, s6, s7] dst, orF [s0, s1, s2, s3, s4, s5, s6, s7] h b imm]), .b true] ∧ h' = [rowS s0 s1 s2 s3 s4 s5 s6 s7, langB h rd pw]) := by
  refine Ctr.enterG tabOkF (fn := Tryz.f81) rfl rfl rfl rfl rfl rfl bndLang ?_
  refine OpC.callG rfl rfl rfl rfl rfl rfl (fun _ => Ctr.spread (end_ok sz [66] [87] [76] [81]) (fun ρ => rfl) _ [3] rfl rfl ⟨rfl, trivial⟩ rfl) ?_
  refine ⟨fun h => no_ft h, fun _ => ?_⟩
  refine ⟨fun h => no_ft h, fun _ => ?_⟩
  refine ⟨fun _ => ?_, fun h => ?_⟩
  rotate_left
  · have h : decide (dst = a) = false := h
    rw [decide_eq_true hd] at h; exact no_tf h
  refine WpC.dr tabOkF mixed 2 ?_
  refine OpD.callL rfl rfl rfl rfl [] 1 rfl rfl functions_ok rfl rfl rfl rfl trivial rfl rfl ?_
  refine ⟨fun _ => by show (0 : Int) ≤ 4 ∧ (4 : Int) < ((6 : Nat) : Int); decide, ?_⟩
  refine OpD.callG [0, 1] rfl rfl rfl rfl rfl rfl (r := .s (nmF [s0, s1, s2, s3, s4, s5, s6, s7] dst)) (fun _ H1 hH => Ctr.spread (lnm_ok s0 s1 s2 s3 s4 s5 s6 s7 h rd pw dst) (fun ρ => rfl) H1 [0, 1] rfl rfl ⟨hH 0 (by simp), hH 1 (by simp), trivial⟩ rfl) ?_
  refine OpD.callG [0, 1] rfl rfl rfl rfl rfl rfl (r := .s (orF [s0, s1, s2, s3, s4, s5, s6, s7] h b imm)) (fun _ H1 hH => Ctr.spread (lor_ok s0 s1 s2 s3 s4 s5 s6 s7 h rd pw b imm hi hh) (fun ρ => rfl) H1 [0, 1] rfl rfl ⟨hH 0 (by simp), hH 1 (by simp), trivial⟩ rfl) ?_
  refine OpD.callG [5] rfl rfl rfl rfl rfl rfl (r := .s (lineF [65, 78, 68] [nmF [s0, s1, s2, s3, s4, s5, s6, s7] dst, orF [s0, s1, s2, s3, s4, s5, s6, s7] h b imm])) (fun _ H1 hH => Ctr.spread (line_ok [65, 78, 68] [nmF [s0, s1, s2, s3, s4, s5, s6, s7] dst, orF [s0, s1, s2, s3, s4, s5, s6, s7] h b imm] 2 rfl (by decide) (by decide) (by rw [join2_len]; have := hs dst; have := orF_len (r := b) hs hi hh; omega) (by decide)) (fun ρ => rfl) H1 [5] rfl rfl ⟨hH 5 (by simp), trivial⟩ rfl) ?_
  refine ⟨by kernel_rfl, ?_⟩
  exact ⟨rfl, _, rfl⟩
set_option maxHeartbeats 1600000 in
theorem xp_35 (s0 s1 s2 s3 s4 s5 s6 s7 h : List UInt8) (rd pw : Nat) (hs : ∀ n, (nmF [s0, s1, s2, s3, s4, s5, s6, s7] n).length ≤ 3) (hh : h.length ≤ 10) (dst a b imm loc off ix sz pr su to : Int) (acq wk rel ze : Bool) (lb : List UInt8) (hd : dst = a) (hi : in64 imm) : Ctr Tryz.prog 81 [.ptr 1 1 0 [], .agg (ienc ⟨3, dst, a, b, imm, loc, off, ix, sz, 5, acq, wk, rel, pr, su, to, ze⟩), .s lb] [rowS s0 s1 s2 s3 s4 s5 s6 s7, langB h rd pw]
    (fun r h' => r = .tup [.s (lineF [79, 82] [nmF [s0, s1, s2, s3, s4, s5, s6, s7] dst, orF [s0, s1, s2, s3, s4, s5, s6, s7] h b imm]), .b true] ∧ h' = [rowS s0 s1 s2 s3 s4 s5 s6 s7, langB h rd pw]) := by
  refine Ctr.enterG tabOkF (fn := Tryz.f81) rfl rfl rfl rfl rfl rfl bndLang ?_
  refine OpC.callG rfl rfl rfl rfl rfl rfl (fun _ => Ctr.spread (end_ok sz [66] [87] [76] [81]) (fun ρ => rfl) _ [3] rfl rfl ⟨rfl, trivial⟩ rfl) ?_
  refine ⟨fun h => no_ft h, fun _ => ?_⟩
  refine ⟨fun h => no_ft h, fun _ => ?_⟩
  refine ⟨fun _ => ?_, fun h => ?_⟩
  rotate_left
  · have h : decide (dst = a) = false := h
    rw [decide_eq_true hd] at h; exact no_tf h
  refine WpC.dr tabOkF mixed 2 ?_
  refine OpD.callL rfl rfl rfl rfl [] 1 rfl rfl functions_ok rfl rfl rfl rfl trivial rfl rfl ?_
  refine ⟨fun _ => by show (0 : Int) ≤ 5 ∧ (5 : Int) < ((6 : Nat) : Int); decide, ?_⟩
  refine OpD.callG [0, 1] rfl rfl rfl rfl rfl rfl (r := .s (nmF [s0, s1, s2, s3, s4, s5, s6, s7] dst)) (fun _ H1 hH => Ctr.spread (lnm_ok s0 s1 s2 s3 s4 s5 s6 s7 h rd pw dst) (fun ρ => rfl) H1 [0, 1] rfl rfl ⟨hH 0 (by simp), hH 1 (by simp), trivial⟩ rfl) ?_
  refine OpD.callG [0, 1] rfl rfl rfl rfl rfl rfl (r := .s (orF [s0, s1, s2, s3, s4, s5, s6, s7] h b imm)) (fun _ H1 hH => Ctr.spread (lor_ok s0 s1 s2 s3 s4 s5 s6 s7 h rd pw b imm hi hh) (fun ρ => rfl) H1 [0, 1] rfl rfl ⟨hH 0 (by simp), hH 1 (by simp), trivial⟩ rfl) ?_
  refine OpD.callG [5] rfl rfl rfl rfl rfl rfl (r := .s (lineF [79, 82] [nmF [s0, s1, s2, s3, s4, s5, s6, s7] dst, orF [s0, s1, s2, s3, s4, s5, s6, s7] h b imm])) (fun _ H1 hH => Ctr.spread (line_ok [79, 82] [nmF [s0, s1, s2, s3, s4, s5, s6, s7] dst, orF [s0, s1, s2, s3, s4, s5, s6, s7] h b imm] 2 rfl (by decide) (by decide) (by rw [join2_len]; have := hs dst; have := orF_len (r := b) hs hi hh; omega) (by decide)) (fun ρ => rfl) H1 [5] rfl rfl ⟨hH 5 (by simp), trivial⟩ rfl) ?_
  refine ⟨by kernel_rfl, ?_⟩
  exact ⟨rfl, _, rfl⟩
set_option maxHeartbeats 1600000 in
theorem xp_3n (s0 s1 s2 s3 s4 s5 s6 s7 h : List UInt8) (rd pw : Nat) (hs : ∀ n, (nmF [s0, s1, s2, s3, s4, s5, s6, s7] n).length ≤ 3) (hh : h.length ≤ 10) (dst a b imm loc off ix sz fn pr su to : Int) (acq wk rel ze : Bool) (lb : List UInt8) (hd : ¬ dst = a) : Ctr Tryz.prog 81 [.ptr 1 1 0 [], .agg (ienc ⟨3, dst, a, b, imm, loc, off, ix, sz, fn, acq, wk, rel, pr, su, to, ze⟩), .s lb] [rowS s0 s1 s2 s3 s4 s5 s6 s7, langB h rd pw]
    (fun r h' => r = .tup [.s [], .b false] ∧ h' = [rowS s0 s1 s2 s3 s4 s5 s6 s7, langB h rd pw]) := by
  refine Ctr.enterG tabOkF (fn := Tryz.f81) rfl rfl rfl rfl rfl rfl bndLang ?_
  refine OpC.callG rfl rfl rfl rfl rfl rfl (fun _ => Ctr.spread (end_ok sz [66] [87] [76] [81]) (fun ρ => rfl) _ [3] rfl rfl ⟨rfl, trivial⟩ rfl) ?_
  refine ⟨fun h => no_ft h, fun _ => ?_⟩
  refine ⟨fun h => no_ft h, fun _ => ?_⟩
  refine ⟨fun h => ?_, fun _ => ?_⟩
  · have h : decide (dst = a) = true := h
    rw [decide_eq_false hd] at h; exact no_ft h
  refine ⟨fun h => no_ft h, fun _ => ?_⟩
  refine ⟨fun h => no_ft h, fun _ => ?_⟩
  refine ⟨fun h => no_ft h, fun _ => ?_⟩
  refine ⟨fun h => no_ft h, fun _ => ?_⟩
  refine ⟨fun h => no_ft h, fun _ => ?_⟩
  refine ⟨fun h => no_ft h, fun _ => ?_⟩
  refine ⟨fun h => no_ft h, fun _ => ?_⟩
  exact ⟨rfl, _, rfl⟩
set_option maxHeartbeats 1600000 in
theorem xp_6d (s0 s1 s2 s3 s4 s5 s6 s7 h : List UInt8) (rd pw : Nat) (hs : ∀ n, (nmF [s0, s1, s2, s3, s4, s5, s6, s7] n).length ≤ 3) (hh : h.length ≤ 10) (dst a b imm loc off ix sz fn pr su to : Int) (acq wk rel ze : Bool) (lb : List UInt8) (hd : ¬ dst = a) : Ctr Tryz.prog 81 [.ptr 1 1 0 [], .agg (ienc ⟨6, dst, a, b, imm, loc, off, ix, sz, fn, acq, wk, rel, pr, su, to, ze⟩), .s lb] [rowS s0 s1 s2 s3 s4 s5 s6 s7, langB h rd pw]
    (fun r h' => r = .tup [.s [], .b false] ∧ h' = [rowS s0 s1 s2 s3 s4 s5 s6 s7, langB h rd pw]) := by
  refine Ctr.enterG tabOkF (fn := Tryz.f81) rfl rfl rfl rfl rfl rfl bndLang ?_
  refine OpC.callG rfl rfl rfl rfl rfl rfl (fun _ => Ctr.spread (end_ok sz [66] [87] [76] [81]) (fun ρ => rfl) _ [3] rfl rfl ⟨rfl, trivial⟩ rfl) ?_
  refine ⟨fun h => no_ft h, fun _ => ?_⟩
  refine ⟨fun h => no_ft h, fun _ => ?_⟩
  refine ⟨fun h => no_ft h, fun _ => ?_⟩
  refine ⟨fun h => no_ft h, fun _ => ?_⟩
  refine ⟨fun h => no_ft h, fun _ => ?_⟩
  refine ⟨fun h => ?_, fun _ => ?_⟩
  · have h : (((decide (dst = a) && acq) && rel) && decide (fn = 6)) = true := h
    rw [decide_eq_false hd] at h; exact no_ft h
  refine ⟨fun h => ?_, fun _ => ?_⟩
  · have h : ((decide (dst = a) && acq) && rel) = true := h
    rw [decide_eq_false hd] at h; exact no_ft h
  refine ⟨fun h => no_ft h, fun _ => ?_⟩
  refine ⟨fun h => no_ft h, fun _ => ?_⟩
  refine ⟨fun h => no_ft h, fun _ => ?_⟩
  exact ⟨rfl, _, rfl⟩
set_option maxHeartbeats 1600000 in
theorem xp_6a (s0 s1 s2 s3 s4 s5 s6 s7 h : List UInt8) (rd pw : Nat) (hs : ∀ n, (nmF [s0, s1, s2, s3, s4, s5, s6, s7] n).length ≤ 3) (hh : h.length ≤ 10) (dst a b imm loc off ix sz fn pr su to : Int) (wk rel ze : Bool) (lb : List UInt8)  : Ctr Tryz.prog 81 [.ptr 1 1 0 [], .agg (ienc ⟨6, dst, a, b, imm, loc, off, ix, sz, fn, false, wk, rel, pr, su, to, ze⟩), .s lb] [rowS s0 s1 s2 s3 s4 s5 s6 s7, langB h rd pw]
    (fun r h' => r = .tup [.s [], .b false] ∧ h' = [rowS s0 s1 s2 s3 s4 s5 s6 s7, langB h rd pw]) := by
  refine Ctr.enterG tabOkF (fn := Tryz.f81) rfl rfl rfl rfl rfl rfl bndLang ?_
  refine OpC.callG rfl rfl rfl rfl rfl rfl (fun _ => Ctr.spread (end_ok sz [66] [87] [76] [81]) (fun ρ => rfl) _ [3] rfl rfl ⟨rfl, trivial⟩ rfl) ?_
  refine ⟨fun h => no_ft h, fun _ => ?_⟩
  refine ⟨fun h => no_ft h, fun _ => ?_⟩
  refine ⟨fun h => no_ft h, fun _ => ?_⟩
  refine ⟨fun h => no_ft h, fun _ => ?_⟩
  refine ⟨fun h => no_ft h, fun _ => ?_⟩
  refine ⟨fun h => ?_, fun _ => ?_⟩
  · have h : (((decide (dst = a) && false) && rel) && decide (fn = 6)) = true := h
    exact no_ft (by rw [← h]; simp)
  refine ⟨fun h => ?_, fun _ => ?_⟩
  · have h : ((decide (dst = a) && false) && rel) = true := h
    exact no_ft (by rw [← h]; simp)
  refine ⟨fun h => no_ft h, fun _ => ?_⟩
  refine ⟨fun h => no_ft h, fun _ => ?_⟩
  refine ⟨fun h => no_ft h, fun _ => ?_⟩
  exact ⟨rfl, _, rfl⟩
set_option maxHeartbeats 1600000 in
theorem xp_6r (s0 s1 s2 s3 s4 s5 s6 s7 h : List UInt8) (rd pw : Nat) (hs : ∀ n, (nmF [s0, s1, s2, s3, s4, s5, s6, s7] n).length ≤ 3) (hh : h.length ≤ 10) (dst a b imm loc off ix sz fn pr su to : Int) (wk ze : Bool) (lb : List UInt8)  : Ctr Tryz.prog 81 [.ptr 1 1 0 [], .agg (ienc ⟨6, dst, a, b, imm, loc, off, ix, sz, fn, true, wk, false, pr, su, to, ze⟩), .s lb] [rowS s0 s1 s2 s3 s4 s5 s6 s7, langB h rd pw]
    (fun r h' => r = .tup [.s [], .b false] ∧ h' = [rowS s0 s1 s2 s3 s4 s5 s6 s7, langB h rd pw]) := by
  refine Ctr.enterG tabOkF (fn := Tryz.f81) rfl rfl rfl rfl rfl rfl bndLang ?_
  refine OpC.callG rfl rfl rfl rfl rfl rfl (fun _ => Ctr.spread (end_ok sz [66] [87] [76] [81]) (fun ρ => rfl) _ [3] rfl rfl ⟨rfl, trivial⟩ rfl) ?_
  refine ⟨fun h => no_ft h, fun _ => ?_⟩
  refine ⟨fun h => no_ft h, fun _ => ?_⟩
  refine ⟨fun h => no_ft h, fun _ => ?_⟩
  refine ⟨fun h => no_ft h, fun _ => ?_⟩
  refine ⟨fun h => no_ft h, fun _ => ?_⟩
  refine ⟨fun h => ?_, fun _ => ?_⟩
  · have h : (((decide (dst = a) && true) && false) && decide (fn = 6)) = true := h
    exact no_ft (by rw [← h]; simp)
  refine ⟨fun h => ?_, fun _ => ?_⟩
  · have h : ((decide (dst = a) && true) && false) = true := h
    exact no_ft (by rw [← h]; simp)
  refine ⟨fun h => no_ft h, fun _ => ?_⟩
  refine ⟨fun h => no_ft h, fun _ => ?_⟩
  refine ⟨fun h => no_ft h, fun _ => ?_⟩
  exact ⟨rfl, _, rfl⟩
set_option maxHeartbeats 1600000 in
theorem xp_6x (s0 s1 s2 s3 s4 s5 s6 s7 h : List UInt8) (rd pw : Nat) (hs : ∀ n, (nmF [s0, s1, s2, s3, s4, s5, s6, s7] n).length ≤ 3) (hh : h.length ≤ 10) (dst a b imm loc off ix sz pr su to : Int) (wk ze : Bool) (lb : List UInt8) (hd : dst = a) (ha : accB ⟨6, dst, a, b, imm, loc, off, ix, sz, 6, true, wk, true, pr, su, to, ze⟩ = true) : Ctr Tryz.prog 81 [.ptr 1 1 0 [], .agg (ienc ⟨6, dst, a, b, imm, loc, off, ix, sz, 6, true, wk, true, pr, su, to, ze⟩), .s lb] [rowS s0 s1 s2 s3 s4 s5 s6 s7, langB h rd pw]
    (fun r h' => r = .tup [.s (lineF ([88, 67, 72, 71] ++ xEnd sz) [nmF [s0, s1, s2, s3, s4, s5, s6, s7] a, atF [s0, s1, s2, s3, s4, s5, s6, s7] ⟨6, dst, a, b, imm, loc, off, ix, sz, 6, true, wk, true, pr, su, to, ze⟩]), .b true] ∧ h' = [rowS s0 s1 s2 s3 s4 s5 s6 s7, langB h rd pw]) := by
  refine Ctr.enterG tabOkF (fn := Tryz.f81) rfl rfl rfl rfl rfl rfl bndLang ?_
  refine OpC.callG rfl rfl rfl rfl rfl rfl (fun _ => Ctr.spread (end_ok sz [66] [87] [76] [81]) (fun ρ => rfl) _ [3] rfl rfl ⟨rfl, trivial⟩ rfl) ?_
  refine ⟨fun h => no_ft h, fun _ => ?_⟩
  refine ⟨fun h => no_ft h, fun _ => ?_⟩
  refine ⟨fun h => no_ft h, fun _ => ?_⟩
  refine ⟨fun h => no_ft h, fun _ => ?_⟩
  refine ⟨fun h => no_ft h, fun _ => ?_⟩
  refine ⟨fun _ => ?_, fun h => ?_⟩
  rotate_left
  · have h : (((decide (dst = a) && true) && true) && decide ((6 : Int) = 6)) = false := h
    rw [decide_eq_true hd] at h; exact no_tf h
  refine WpC.dr tabOkF mixed 1 ?_
  have he := xEnd_len sz
  refine ⟨fun _ => ?_, ?_⟩
  · show 4 + (xEnd sz).length ≤ 9223372036854775807
    omega
  refine OpD.callG [0, 1] rfl rfl rfl rfl rfl rfl (r := .s (nmF [s0, s1, s2, s3, s4, s5, s6, s7] a)) (fun _ H1 hH => Ctr.spread (lnm_ok s0 s1 s2 s3 s4 s5 s6 s7 h rd pw a) (fun ρ => rfl) H1 [0, 1] rfl rfl ⟨hH 0 (by simp), hH 1 (by simp), trivial⟩ rfl) ?_
  refine OpD.callG [0, 1] rfl rfl rfl rfl rfl rfl (r := .s (atF [s0, s1, s2, s3, s4, s5, s6, s7] ⟨6, dst, a, b, imm, loc, off, ix, sz, 6, true, wk, true, pr, su, to, ze⟩)) (fun _ H1 hH => Ctr.spread (lat_ok s0 s1 s2 s3 s4 s5 s6 s7 h rd pw hs ⟨6, dst, a, b, imm, loc, off, ix, sz, 6, true, wk, true, pr, su, to, ze⟩ ha) (fun ρ => rfl) H1 [0, 1] rfl rfl ⟨hH 0 (by simp), hH 1 (by simp), trivial⟩ rfl) ?_
  refine OpD.callG [4] rfl rfl rfl rfl rfl rfl (r := .s (lineF ([88, 67, 72, 71] ++ xEnd sz) [nmF [s0, s1, s2, s3, s4, s5, s6, s7] a, atF [s0, s1, s2, s3, s4, s5, s6, s7] ⟨6, dst, a, b, imm, loc, off, ix, sz, 6, true, wk, true, pr, su, to, ze⟩])) (fun _ H1 hH => Ctr.spread (line_ok ([88, 67, 72, 71] ++ xEnd sz) [nmF [s0, s1, s2, s3, s4, s5, s6, s7] a, atF [s0, s1, s2, s3, s4, s5, s6, s7] ⟨6, dst, a, b, imm, loc, off, ix, sz, 6, true, wk, true, pr, su, to, ze⟩] 2 rfl (by decide) (by decide) (by rw [join2_len]; have := hs a; have := atF_len hs ha; omega) (by simp; omega)) (fun ρ => rfl) H1 [4] rfl rfl ⟨hH 4 (by simp), trivial⟩ rfl) ?_
  refine ⟨by kernel_rfl, ?_⟩
  exact ⟨rfl, _, rfl⟩
set_option maxHeartbeats 1600000 in
theorem xp_6y (s0 s1 s2 s3 s4 s5 s6 s7 h : List UInt8) (rd pw : Nat) (hs : ∀ n, (nmF [s0, s1, s2, s3, s4, s5, s6, s7] n).length ≤ 3) (hh : h.length ≤ 10) (dst a b imm loc off ix sz pr su to : Int) (wk ze : Bool) (lb : List UInt8) (hd : dst = a) (ha : accB ⟨6, dst, a, b, imm, loc, off, ix, sz, 1, true, wk, true, pr, su, to, ze⟩ = true) : Ctr Tryz.prog 81 [.ptr 1 1 0 [], .agg (ienc ⟨6, dst, a, b, imm, loc, off, ix, sz, 1, true, wk, true, pr, su, to, ze⟩), .s lb] [rowS s0 s1 s2 s3 s4 s5 s6 s7, langB h rd pw]
    (fun r h' => r = .tup [.s (lineF ([88, 65, 68, 68] ++ xEnd sz) [atF [s0, s1, s2, s3, s4, s5, s6, s7] ⟨6, dst, a, b, imm, loc, off, ix, sz, 1, true, wk, true, pr, su, to, ze⟩, nmF [s0, s1, s2, s3, s4, s5, s6, s7] a]), .b true] ∧ h' = [rowS s0 s1 s2 s3 s4 s5 s6 s7, langB h rd pw]) := by
  refine Ctr.enterG tabOkF (fn := Tryz.f81) rfl rfl rfl rfl rfl rfl bndLang ?_
  refine OpC.callG rfl rfl rfl rfl rfl rfl (fun _ => Ctr.spread (end_ok sz [66] [87] [76] [81]) (fun ρ => rfl) _ [3] rfl rfl ⟨rfl, trivial⟩ rfl) ?_
  refine ⟨fun h => no_ft h, fun _ => ?_⟩
  refine ⟨fun h => no_ft h, fun _ => ?_⟩
  refine ⟨fun h => no_ft h, fun _ => ?_⟩
  refine ⟨fun h => no_ft h, fun _ => ?_⟩
  refine ⟨fun h => no_ft h, fun _ => ?_⟩
  refine ⟨fun h => ?_, fun _ => ?_⟩
  · have h : (((decide (dst = a) && true) && true) && decide ((1 : Int) = 6)) = true := h
    rw [decide_eq_true hd] at h; exact no_ft h
  refine ⟨fun _ => ?_, fun h => ?_⟩
  rotate_left
  · have h : ((decide (dst = a) && true) && true) = false := h
    rw [decide_eq_true hd] at h; exact no_tf h
  refine WpC.dr tabOkF mixed 1 ?_
  have he := xEnd_len sz
  refine ⟨fun _ => ?_, ?_⟩
  · show 4 + (xEnd sz).length ≤ 9223372036854775807
    omega
  refine OpD.callG [0, 1] rfl rfl rfl rfl rfl rfl (r := .s (atF [s0, s1, s2, s3, s4, s5, s6, s7] ⟨6, dst, a, b, imm, loc, off, ix, sz, 1, true, wk, true, pr, su, to, ze⟩)) (fun _ H1 hH => Ctr.spread (lat_ok s0 s1 s2 s3 s4 s5 s6 s7 h rd pw hs ⟨6, dst, a, b, imm, loc, off, ix, sz, 1, true, wk, true, pr, su, to, ze⟩ ha) (fun ρ => rfl) H1 [0, 1] rfl rfl ⟨hH 0 (by simp), hH 1 (by simp), trivial⟩ rfl) ?_
  refine OpD.callG [0, 1] rfl rfl rfl rfl rfl rfl (r := .s (nmF [s0, s1, s2, s3, s4, s5, s6, s7] a)) (fun _ H1 hH => Ctr.spread (lnm_ok s0 s1 s2 s3 s4 s5 s6 s7 h rd pw a) (fun ρ => rfl) H1 [0, 1] rfl rfl ⟨hH 0 (by simp), hH 1 (by simp), trivial⟩ rfl) ?_
  refine OpD.callG [4] rfl rfl rfl rfl rfl rfl (r := .s (lineF ([88, 65, 68, 68] ++ xEnd sz) [atF [s0, s1, s2, s3, s4, s5, s6, s7] ⟨6, dst, a, b, imm, loc, off, ix, sz, 1, true, wk, true, pr, su, to, ze⟩, nmF [s0, s1, s2, s3, s4, s5, s6, s7] a])) (fun _ H1 hH => Ctr.spread (line_ok ([88, 65, 68, 68] ++ xEnd sz) [atF [s0, s1, s2, s3, s4, s5, s6, s7] ⟨6, dst, a, b, imm, loc, off, ix, sz, 1, true, wk, true, pr, su, to, ze⟩, nmF [s0, s1, s2, s3, s4, s5, s6, s7] a] 2 rfl (by decide) (by decide) (by rw [join2_len]; have := atF_len hs ha; have := hs a; omega) (by simp; omega)) (fun ρ => rfl) H1 [4] rfl rfl ⟨hH 4 (by simp), trivial⟩ rfl) ?_
  refine ⟨by kernel_rfl, ?_⟩
  exact ⟨rfl, _, rfl⟩
set_option maxHeartbeats 1600000 in
theorem xp_711 (s0 s1 s2 s3 s4 s5 s6 s7 h : List UInt8) (rd pw : Nat) (hs : ∀ n, (nmF [s0, s1, s2, s3, s4, s5, s6, s7] n).length ≤ 3) (hh : h.length ≤ 10) (dst a b imm loc off ix sz fn to : Int) (acq wk rel ze : Bool) (lb : List UInt8)  : Ctr Tryz.prog 81 [.ptr 1 1 0 [], .agg (ienc ⟨7, dst, a, b, imm, loc, off, ix, sz, fn, acq, wk, rel, 1, 1, to, ze⟩), .s lb] [rowS s0 s1 s2 s3 s4 s5 s6 s7, langB h rd pw]
    (fun r h' => r = .tup [.s [], .b false] ∧ h' = [rowS s0 s1 s2 s3 s4 s5 s6 s7, langB h rd pw]) := by
  refine Ctr.enterG tabOkF (fn := Tryz.f81) rfl rfl rfl rfl rfl rfl bndLang ?_
  refine OpC.callG rfl rfl rfl rfl rfl rfl (fun _ => Ctr.spread (end_ok sz [66] [87] [76] [81]) (fun ρ => rfl) _ [3] rfl rfl ⟨rfl, trivial⟩ rfl) ?_
  refine ⟨fun h => no_ft h, fun _ => ?_⟩
  refine ⟨fun h => no_ft h, fun _ => ?_⟩
  refine ⟨fun h => no_ft h, fun _ => ?_⟩
  refine ⟨fun h => no_ft h, fun _ => ?_⟩
  refine ⟨fun h => no_ft h, fun _ => ?_⟩
  refine ⟨fun h => no_ft h, fun _ => ?_⟩
  refine ⟨fun h => no_ft h, fun _ => ?_⟩
  refine ⟨fun h => ?_, fun _ => ?_⟩
  · have h : (decide ((7 : Int) = 7) && decide (bits BinOp.and IntKind.i64 1 1 = 3)) = true := h
    exact absurd h (by decide +kernel)
  refine ⟨fun h => no_ft h, fun _ => ?_⟩
  refine ⟨fun h => no_ft h, fun _ => ?_⟩
  exact ⟨rfl, _, rfl⟩
set_option maxHeartbeats 1600000 in
theorem xp_712 (s0 s1 s2 s3 s4 s5 s6 s7 h : List UInt8) (rd pw : Nat) (hs : ∀ n, (nmF [s0, s1, s2, s3, s4, s5, s6, s7] n).length ≤ 3) (hh : h.length ≤ 10) (dst a b imm loc off ix sz fn to : Int) (acq wk rel ze : Bool) (lb : List UInt8)  : Ctr Tryz.prog 81 [.ptr 1 1 0 [], .agg (ienc ⟨7, dst, a, b, imm, loc, off, ix, sz, fn, acq, wk, rel, 1, 2, to, ze⟩), .s lb] [rowS s0 s1 s2 s3 s4 s5 s6 s7, langB h rd pw]
    (fun r h' => r = .tup [.s [], .b false] ∧ h' = [rowS s0 s1 s2 s3 s4 s5 s6 s7, langB h rd pw]) := by
  refine Ctr.enterG tabOkF (fn := Tryz.f81) rfl rfl rfl rfl rfl rfl bndLang ?_
  refine OpC.callG rfl rfl rfl rfl rfl rfl (fun _ => Ctr.spread (end_ok sz [66] [87] [76] [81]) (fun ρ => rfl) _ [3] rfl rfl ⟨rfl, trivial⟩ rfl) ?_
  refine ⟨fun h => no_ft h, fun _ => ?_⟩
  refine ⟨fun h => no_ft h, fun _ => ?_⟩
  refine ⟨fun h => no_ft h, fun _ => ?_⟩
  refine ⟨fun h => no_ft h, fun _ => ?_⟩
  refine ⟨fun h => no_ft h, fun _ => ?_⟩
  refine ⟨fun h => no_ft h, fun _ => ?_⟩
  refine ⟨fun h => no_ft h, fun _ => ?_⟩
  refine ⟨fun h => ?_, fun _ => ?_⟩
  · have h : (decide ((7 : Int) = 7) && decide (bits BinOp.and IntKind.i64 1 2 = 3)) = true := h
    exact absurd h (by decide +kernel)
  refine ⟨fun h => no_ft h, fun _ => ?_⟩
  refine ⟨fun h => no_ft h, fun _ => ?_⟩
  exact ⟨rfl, _, rfl⟩
set_option maxHeartbeats 1600000 in
theorem xp_713 (s0 s1 s2 s3 s4 s5 s6 s7 h : List UInt8) (rd pw : Nat) (hs : ∀ n, (nmF [s0, s1, s2, s3, s4, s5, s6, s7] n).length ≤ 3) (hh : h.length ≤ 10) (dst a b imm loc off ix sz fn to : Int) (acq wk rel ze : Bool) (lb : List UInt8)  : Ctr Tryz.prog 81 [.ptr 1 1 0 [], .agg (ienc ⟨7, dst, a, b, imm, loc, off, ix, sz, fn, acq, wk, rel, 1, 3, to, ze⟩), .s lb] [rowS s0 s1 s2 s3 s4 s5 s6 s7, langB h rd pw]
    (fun r h' => r = .tup [.s [], .b false] ∧ h' = [rowS s0 s1 s2 s3 s4 s5 s6 s7, langB h rd pw]) := by
  refine Ctr.enterG tabOkF (fn := Tryz.f81) rfl rfl rfl rfl rfl rfl bndLang ?_
  refine OpC.callG rfl rfl rfl rfl rfl rfl (fun _ => Ctr.spread (end_ok sz [66] [87] [76] [81]) (fun ρ => rfl) _ [3] rfl rfl ⟨rfl, trivial⟩ rfl) ?_
  refine ⟨fun h => no_ft h, fun _ => ?_⟩
  refine ⟨fun h => no_ft h, fun _ => ?_⟩
  refine ⟨fun h => no_ft h, fun _ => ?_⟩
  refine ⟨fun h => no_ft h, fun _ => ?_⟩
  refine ⟨fun h => no_ft h, fun _ => ?_⟩
  refine ⟨fun h => no_ft h, fun _ => ?_⟩
  refine ⟨fun h => no_ft h, fun _ => ?_⟩
  refine ⟨fun h => ?_, fun _ => ?_⟩
  · have h : (decide ((7 : Int) = 7) && decide (bits BinOp.and IntKind.i64 1 3 = 3)) = true := h
    exact absurd h (by decide +kernel)
  refine ⟨fun h => no_ft h, fun _ => ?_⟩
  refine ⟨fun h => no_ft h, fun _ => ?_⟩
  exact ⟨rfl, _, rfl⟩
set_option maxHeartbeats 1600000 in
theorem xp_721 (s0 s1 s2 s3 s4 s5 s6 s7 h : List UInt8) (rd pw : Nat) (hs : ∀ n, (nmF [s0, s1, s2, s3, s4, s5, s6, s7] n).length ≤ 3) (hh : h.length ≤ 10) (dst a b imm loc off ix sz fn to : Int) (acq wk rel ze : Bool) (lb : List UInt8)  : Ctr Tryz.prog 81 [.ptr 1 1 0 [], .agg (ienc ⟨7, dst, a, b, imm, loc, off, ix, sz, fn, acq, wk, rel, 2, 1, to, ze⟩), .s lb] [rowS s0 s1 s2 s3 s4 s5 s6 s7, langB h rd pw]
    (fun r h' => r = .tup [.s [], .b false] ∧ h' = [rowS s0 s1 s2 s3 s4 s5 s6 s7, langB h rd pw]) := by
  refine Ctr.enterG tabOkF (fn := Tryz.f81) rfl rfl rfl rfl rfl rfl bndLang ?_
  refine OpC.callG rfl rfl rfl rfl rfl rfl (fun _ => Ctr.spread (end_ok sz [66] [87] [76] [81]) (fun ρ => rfl) _ [3] rfl rfl ⟨rfl, trivial⟩ rfl) ?_
  refine ⟨fun h => no_ft h, fun _ => ?_⟩
  refine ⟨fun h => no_ft h, fun _ => ?_⟩
  refine ⟨fun h => no_ft h, fun _ => ?_⟩
  refine ⟨fun h => no_ft h, fun _ => ?_⟩
  refine ⟨fun h => no_ft h, fun _ => ?_⟩
  refine ⟨fun h => no_ft h, fun _ => ?_⟩
  refine ⟨fun h => no_ft h, fun _ => ?_⟩
  refine ⟨fun h => ?_, fun _ => ?_⟩
  · have h : (decide ((7 : Int) = 7) && decide (bits BinOp.and IntKind.i64 2 1 = 3)) = true := h
    exact absurd h (by decide +kernel)
  refine ⟨fun h => no_ft h, fun _ => ?_⟩
  refine ⟨fun h => no_ft h, fun _ => ?_⟩
  exact ⟨rfl, _, rfl⟩
set_option maxHeartbeats 1600000 in
theorem xp_722 (s0 s1 s2 s3 s4 s5 s6 s7 h : List UInt8) (rd pw : Nat) (hs : ∀ n, (nmF [s0, s1, s2, s3, s4, s5, s6, s7] n).length ≤ 3) (hh : h.length ≤ 10) (dst a b imm loc off ix sz fn to : Int) (acq wk rel ze : Bool) (lb : List UInt8)  : Ctr Tryz.prog 81 [.ptr 1 1 0 [], .agg (ienc ⟨7, dst, a, b, imm, loc, off, ix, sz, fn, acq, wk, rel, 2, 2, to, ze⟩), .s lb] [rowS s0 s1 s2 s3 s4 s5 s6 s7, langB h rd pw]
    (fun r h' => r = .tup [.s [], .b false] ∧ h' = [rowS s0 s1 s2 s3 s4 s5 s6 s7, langB h rd pw]) := by
  refine Ctr.enterG tabOkF (fn := Tryz.f81) rfl rfl rfl rfl rfl rfl bndLang ?_
  refine OpC.callG rfl rfl rfl rfl rfl rfl (fun _ => Ctr.spread (end_ok sz [66] [87] [76] [81]) (fun ρ => rfl) _ [3] rfl rfl ⟨rfl, trivial⟩ rfl) ?_
  refine ⟨fun h => no_ft h, fun _ => ?_⟩
  refine ⟨fun h => no_ft h, fun _ => ?_⟩
  refine ⟨fun h => no_ft h, fun _ => ?_⟩
  refine ⟨fun h => no_ft h, fun _ => ?_⟩
  refine ⟨fun h => no_ft h, fun _ => ?_⟩
  refine ⟨fun h => no_ft h, fun _ => ?_⟩
  refine ⟨fun h => no_ft h, fun _ => ?_⟩
  refine ⟨fun h => ?_, fun _ => ?_⟩
  · have h : (decide ((7 : Int) = 7) && decide (bits BinOp.and IntKind.i64 2 2 = 3)) = true := h
    exact absurd h (by decide +kernel)
  refine ⟨fun h => no_ft h, fun _ => ?_⟩
  refine ⟨fun h => no_ft h, fun _ => ?_⟩
  exact ⟨rfl, _, rfl⟩
set_option maxHeartbeats 1600000 in
theorem xp_723 (s0 s1 s2 s3 s4 s5 s6 s7 h : List UInt8) (rd pw : Nat) (hs : ∀ n, (nmF [s0, s1, s2, s3, s4, s5, s6, s7] n).length ≤ 3) (hh : h.length ≤ 10) (dst a b imm loc off ix sz fn to : Int) (acq wk rel ze : Bool) (lb : List UInt8)  : Ctr Tryz.prog 81 [.ptr 1 1 0 [], .agg (ienc ⟨7, dst, a, b, imm, loc, off, ix, sz, fn, acq, wk, rel, 2, 3, to, ze⟩), .s lb] [rowS s0 s1 s2 s3 s4 s5 s6 s7, langB h rd pw]
    (fun r h' => r = .tup [.s [], .b false] ∧ h' = [rowS s0 s1 s2 s3 s4 s5 s6 s7, langB h rd pw]) := by
  refine Ctr.enterG tabOkF (fn := Tryz.f81) rfl rfl rfl rfl rfl rfl bndLang ?_
  refine OpC.callG rfl rfl rfl rfl rfl rfl (fun _ => Ctr.spread (end_ok sz [66] [87] [76] [81]) (fun ρ => rfl) _ [3] rfl rfl ⟨rfl, trivial⟩ rfl) ?_
  refine ⟨fun h => no_ft h, fun _ => ?_⟩
  refine ⟨fun h => no_ft h, fun _ => ?_⟩
  refine ⟨fun h => no_ft h, fun _ => ?_⟩
  refine ⟨fun h => no_ft h, fun _ => ?_⟩
  refine ⟨fun h => no_ft h, fun _ => ?_⟩
  refine ⟨fun h => no_ft h, fun _ => ?_⟩
  refine ⟨fun h => no_ft h, fun _ => ?_⟩
  refine ⟨fun h => ?_, fun _ => ?_⟩
  · have h : (decide ((7 : Int) = 7) && decide (bits BinOp.and IntKind.i64 2 3 = 3)) = true := h
    exact absurd h (by decide +kernel)
  refine ⟨fun h => no_ft h, fun _ => ?_⟩
  refine ⟨fun h => no_ft h, fun _ => ?_⟩
  exact ⟨rfl, _, rfl⟩
set_option maxHeartbeats 1600000 in
theorem xp_731 (s0 s1 s2 s3 s4 s5 s6 s7 h : List UInt8) (rd pw : Nat) (hs : ∀ n, (nmF [s0, s1, s2, s3, s4, s5, s6, s7] n).length ≤ 3) (hh : h.length ≤ 10) (dst a b imm loc off ix sz fn to : Int) (acq wk rel ze : Bool) (lb : List UInt8)  : Ctr Tryz.prog 81 [.ptr 1 1 0 [], .agg (ienc ⟨7, dst, a, b, imm, loc, off, ix, sz, fn, acq, wk, rel, 3, 1, to, ze⟩), .s lb] [rowS s0 s1 s2 s3 s4 s5 s6 s7, langB h rd pw]
    (fun r h' => r = .tup [.s [], .b false] ∧ h' = [rowS s0 s1 s2 s3 s4 s5 s6 s7, langB h rd pw]) := by
  refine Ctr.enterG tabOkF (fn := Tryz.f81) rfl rfl rfl rfl rfl rfl bndLang ?_
  refine OpC.callG rfl rfl rfl rfl rfl rfl (fun _ => Ctr.spread (end_ok sz [66] [87] [76] [81]) (fun ρ => rfl) _ [3] rfl rfl ⟨rfl, trivial⟩ rfl) ?_
  refine ⟨fun h => no_ft h, fun _ => ?_⟩
  refine ⟨fun h => no_ft h, fun _ => ?_⟩
  refine ⟨fun h => no_ft h, fun _ => ?_⟩
  refine ⟨fun h => no_ft h, fun _ => ?_⟩
  refine ⟨fun h => no_ft h, fun _ => ?_⟩
  refine ⟨fun h => no_ft h, fun _ => ?_⟩
  refine ⟨fun h => no_ft h, fun _ => ?_⟩
  refine ⟨fun h => ?_, fun _ => ?_⟩
  · have h : (decide ((7 : Int) = 7) && decide (bits BinOp.and IntKind.i64 3 1 = 3)) = true := h
    exact absurd h (by decide +kernel)
  refine ⟨fun h => no_ft h, fun _ => ?_⟩
  refine ⟨fun h => no_ft h, fun _ => ?_⟩
  exact ⟨rfl, _, rfl⟩
set_option maxHeartbeats 1600000 in
theorem xp_732 (s0 s1 s2 s3 s4 s5 s6 s7 h : List UInt8) (rd pw : Nat) (hs : ∀ n, (nmF [s0, s1, s2, s3, s4, s5, s6, s7] n).length ≤ 3) (hh : h.length ≤ 10) (dst a b imm loc off ix sz fn to : Int) (acq wk rel ze : Bool) (lb : List UInt8)  : Ctr Tryz.prog 81 [.ptr 1 1 0 [], .agg (ienc ⟨7, dst, a, b, imm, loc, off, ix, sz, fn, acq, wk, rel, 3, 2, to, ze⟩), .s lb] [rowS s0 s1 s2 s3 s4 s5 s6 s7, langB h rd pw]
    (fun r h' => r = .tup [.s [], .b false] ∧ h' = [rowS s0 s1 s2 s3 s4 s5 s6 s7, langB h rd pw]) := by
  refine Ctr.enterG tabOkF (fn := Tryz.f81) rfl rfl rfl rfl rfl rfl bndLang ?_
  refine OpC.callG rfl rfl rfl rfl rfl rfl (fun _ => Ctr.spread (end_ok sz [66] [87] [76] [81]) (fun ρ => rfl) _ [3] rfl rfl ⟨rfl, trivial⟩ rfl) ?_
  refine ⟨fun h => no_ft h, fun _ => ?_⟩
  refine ⟨fun h => no_ft h, fun _ => ?_⟩
  refine ⟨fun h => no_ft h, fun _ => ?_⟩
  refine ⟨fun h => no_ft h, fun _ => ?_⟩
  refine ⟨fun h => no_ft h, fun _ => ?_⟩
  refine ⟨fun h => no_ft h, fun _ => ?_⟩
  refine ⟨fun h => no_ft h, fun _ => ?_⟩
  refine ⟨fun h => ?_, fun _ => ?_⟩
  · have h : (decide ((7 : Int) = 7) && decide (bits BinOp.and IntKind.i64 3 2 = 3)) = true := h
    exact absurd h (by decide +kernel)
  refine ⟨fun h => no_ft h, fun _ => ?_⟩
  refine ⟨fun h => no_ft h, fun _ => ?_⟩
  exact ⟨rfl, _, rfl⟩
set_option maxHeartbeats 1600000 in
theorem xp_733 (s0 s1 s2 s3 s4 s5 s6 s7 h : List UInt8) (rd pw : Nat) (hs : ∀ n, (nmF [s0, s1, s2, s3, s4, s5, s6, s7] n).length ≤ 3) (hh : h.length ≤ 10) (dst a b imm loc off ix sz fn to : Int) (acq wk rel ze : Bool) (lb : List UInt8)  : Ctr Tryz.prog 81 [.ptr 1 1 0 [], .agg (ienc ⟨7, dst, a, b, imm, loc, off, ix, sz, fn, acq, wk, rel, 3, 3, to, ze⟩), .s lb] [rowS s0 s1 s2 s3 s4 s5 s6 s7, langB h rd pw]
    (fun r h' => r = .tup [.s [77, 70, 69, 78, 67, 69], .b true] ∧ h' = [rowS s0 s1 s2 s3 s4 s5 s6 s7, langB h rd pw]) := by
  refine Ctr.enterG tabOkF (fn := Tryz.f81) rfl rfl rfl rfl rfl rfl bndLang ?_
  refine OpC.callG rfl rfl rfl rfl rfl rfl (fun _ => Ctr.spread (end_ok sz [66] [87] [76] [81]) (fun ρ => rfl) _ [3] rfl rfl ⟨rfl, trivial⟩ rfl) ?_
  refine ⟨fun h => no_ft h, fun _ => ?_⟩
  refine ⟨fun h => no_ft h, fun _ => ?_⟩
  refine ⟨fun h => no_ft h, fun _ => ?_⟩
  refine ⟨fun h => no_ft h, fun _ => ?_⟩
  refine ⟨fun h => no_ft h, fun _ => ?_⟩
  refine ⟨fun h => no_ft h, fun _ => ?_⟩
  refine ⟨fun h => no_ft h, fun _ => ?_⟩
  refine ⟨fun _ => ?_, fun h => ?_⟩
  rotate_left
  · have h : (decide ((7 : Int) = 7) && decide (bits BinOp.and IntKind.i64 3 3 = 3)) = false := h
    exact absurd h (by decide +kernel)
  exact ⟨rfl, _, rfl⟩
set_option maxHeartbeats 1600000 in
theorem xp_8 (s0 s1 s2 s3 s4 s5 s6 s7 h : List UInt8) (rd pw : Nat) (hs : ∀ n, (nmF [s0, s1, s2, s3, s4, s5, s6, s7] n).length ≤ 3) (hh : h.length ≤ 10) (dst a b imm loc off ix sz fn pr su to : Int) (acq wk rel ze : Bool) (lb : List UInt8)  : Ctr Tryz.prog 81 [.ptr 1 1 0 [], .agg (ienc ⟨8, dst, a, b, imm, loc, off, ix, sz, fn, acq, wk, rel, pr, su, to, ze⟩), .s lb] [rowS s0 s1 s2 s3 s4 s5 s6 s7, langB h rd pw]
    (fun r h' => r = .tup [.s [], .b false] ∧ h' = [rowS s0 s1 s2 s3 s4 s5 s6 s7, langB h rd pw]) := by
  refine Ctr.enterG tabOkF (fn := Tryz.f81) rfl rfl rfl rfl rfl rfl bndLang ?_
  refine OpC.callG rfl rfl rfl rfl rfl rfl (fun _ => Ctr.spread (end_ok sz [66] [87] [76] [81]) (fun ρ => rfl) _ [3] rfl rfl ⟨rfl, trivial⟩ rfl) ?_
  refine ⟨fun h => no_ft h, fun _ => ?_⟩
  refine ⟨fun h => no_ft h, fun _ => ?_⟩
  refine ⟨fun h => no_ft h, fun _ => ?_⟩
  refine ⟨fun h => no_ft h, fun _ => ?_⟩
  refine ⟨fun h => no_ft h, fun _ => ?_⟩
  refine ⟨fun h => no_ft h, fun _ => ?_⟩
  refine ⟨fun h => no_ft h, fun _ => ?_⟩
  refine ⟨fun h => no_ft h, fun _ => ?_⟩
  refine ⟨fun h => no_ft h, fun _ => ?_⟩
  refine ⟨fun h => no_ft h, fun _ => ?_⟩
  exact ⟨rfl, _, rfl⟩
set_option maxHeartbeats 1600000 in
theorem xp_9z (s0 s1 s2 s3 s4 s5 s6 s7 h : List UInt8) (rd pw : Nat) (hs : ∀ n, (nmF [s0, s1, s2, s3, s4, s5, s6, s7] n).length ≤ 3) (hh : h.length ≤ 10) (dst a b imm loc off ix sz fn pr su to : Int) (acq wk rel : Bool) (lb : List UInt8) (hl : lb.length ≤ 90000) : Ctr Tryz.prog 81 [.ptr 1 1 0 [], .agg (ienc ⟨9, dst, a, b, imm, loc, off, ix, sz, fn, acq, wk, rel, pr, su, to, true⟩), .s lb] [rowS s0 s1 s2 s3 s4 s5 s6 s7, langB h rd pw]
    (fun r h' => r = .tup [.s (lineF [74, 90] [nmF [s0, s1, s2, s3, s4, s5, s6, s7] a, lb]), .b true] ∧ h' = [rowS s0 s1 s2 s3 s4 s5 s6 s7, langB h rd pw]) := by
  refine Ctr.enterG tabOkF (fn := Tryz.f81) rfl rfl rfl rfl rfl rfl bndLang ?_
  refine OpC.callG rfl rfl rfl rfl rfl rfl (fun _ => Ctr.spread (end_ok sz [66] [87] [76] [81]) (fun ρ => rfl) _ [3] rfl rfl ⟨rfl, trivial⟩ rfl) ?_
  refine ⟨fun h => no_ft h, fun _ => ?_⟩
  refine ⟨fun h => no_ft h, fun _ => ?_⟩
  refine ⟨fun h => no_ft h, fun _ => ?_⟩
  refine ⟨fun h => no_ft h, fun _ => ?_⟩
  refine ⟨fun h => no_ft h, fun _ => ?_⟩
  refine ⟨fun h => no_ft h, fun _ => ?_⟩
  refine ⟨fun h => no_ft h, fun _ => ?_⟩
  refine ⟨fun h => no_ft h, fun _ => ?_⟩
  refine ⟨fun _ => ?_, fun h => no_tf h⟩
  refine OpC.callG rfl rfl rfl rfl rfl rfl (fun _ => Ctr.spread (lnm_ok s0 s1 s2 s3 s4 s5 s6 s7 h rd pw a) (fun ρ => rfl) _ [0, 1] rfl rfl ⟨rfl, rfl, trivial⟩ rfl) ?_
  refine OpC.callG rfl rfl rfl rfl rfl rfl (fun _ => Ctr.spread (line_ok [74, 90] [nmF [s0, s1, s2, s3, s4, s5, s6, s7] a, lb] 2 rfl (by decide) (by decide) (by rw [join2_len]; have := hs a; omega) (by decide)) (fun ρ => rfl) _ [4] rfl rfl ⟨rfl, trivial⟩ rfl) ?_
  exact ⟨rfl, _, rfl⟩
set_option maxHeartbeats 1600000 in
theorem xp_9n (s0 s1 s2 s3 s4 s5 s6 s7 h : List UInt8) (rd pw : Nat) (hs : ∀ n, (nmF [s0, s1, s2, s3, s4, s5, s6, s7] n).length ≤ 3) (hh : h.length ≤ 10) (dst a b imm loc off ix sz fn pr su to : Int) (acq wk rel : Bool) (lb : List UInt8) (hl : lb.length ≤ 90000) : Ctr Tryz.prog 81 [.ptr 1 1 0 [], .agg (ienc ⟨9, dst, a, b, imm, loc, off, ix, sz, fn, acq, wk, rel, pr, su, to, false⟩), .s lb] [rowS s0 s1 s2 s3 s4 s5 s6 s7, langB h rd pw]
    (fun r h' => r = .tup [.s (lineF [74, 78, 90] [nmF [s0, s1, s2, s3, s4, s5, s6, s7] a, lb]), .b true] ∧ h' = [rowS s0 s1 s2 s3 s4 s5 s6 s7, langB h rd pw]) := by
  refine Ctr.enterG tabOkF (fn := Tryz.f81) rfl rfl rfl rfl rfl rfl bndLang ?_
  refine OpC.callG rfl rfl rfl rfl rfl rfl (fun _ => Ctr.spread (end_ok sz [66] [87] [76] [81]) (fun ρ => rfl) _ [3] rfl rfl ⟨rfl, trivial⟩ rfl) ?_
  refine ⟨fun h => no_ft h, fun _ => ?_⟩
  refine ⟨fun h => no_ft h, fun _ => ?_⟩
  refine ⟨fun h => no_ft h, fun _ => ?_⟩
  refine ⟨fun h => no_ft h, fun _ => ?_⟩
  refine ⟨fun h => no_ft h, fun _ => ?_⟩
  refine ⟨fun h => no_ft h, fun _ => ?_⟩
  refine ⟨fun h => no_ft h, fun _ => ?_⟩
  refine ⟨fun h => no_ft h, fun _ => ?_⟩
  refine ⟨fun h => no_ft h, fun _ => ?_⟩
  refine ⟨fun _ => ?_, fun h => no_tf h⟩
  refine OpC.callG rfl rfl rfl rfl rfl rfl (fun _ => Ctr.spread (lnm_ok s0 s1 s2 s3 s4 s5 s6 s7 h rd pw a) (fun ρ => rfl) _ [0, 1] rfl rfl ⟨rfl, rfl, trivial⟩ rfl) ?_
  refine OpC.callG rfl rfl rfl rfl rfl rfl (fun _ => Ctr.spread (line_ok [74, 78, 90] [nmF [s0, s1, s2, s3, s4, s5, s6, s7] a, lb] 2 rfl (by decide) (by decide) (by rw [join2_len]; have := hs a; omega) (by decide)) (fun ρ => rfl) _ [4] rfl rfl ⟨rfl, trivial⟩ rfl) ?_
  exact ⟨rfl, _, rfl⟩
end SX
end Go.Proofs.YthkedcneehdinaaGreatDoor

/- The reference's texts of instructions, x86: accesses. Printed by rfb.py. -/
set_option linter.unusedVariables false
set_option maxRecDepth 100000
namespace Go.Proofs.YthkedcneehdinaaGreatDoor
namespace SX
open Go Go.Proofs
theorem join2 {x y : List UInt8} : Lib.join [x, y] [44] = x ++ ([44] ++ y) := by simp [Lib.join, List.intercalate]
theorem atR_len {a : Int} {i : In} (ha : accB i = true) : (atF (regsL a) i).length ≤ 40 := by
  obtain ⟨h1, h2, h3, h4⟩ := accB_ok ha
  have hi := itoa_small h2.1 h2.2
  have hn := name_len a i.ix
  unfold atF offF ixF locF
  simp only [List.length_append, List.length_cons, List.length_nil]
  split <;> split <;> simp <;> omega
end SX
end Go.Proofs.YthkedcneehdinaaGreatDoor

/- The reference's texts of instructions, x86. Printed by rfc.py. -/
set_option linter.unusedVariables false
set_option maxRecDepth 100000
namespace Go.Proofs.YthkedcneehdinaaGreatDoor
namespace SX
open Go Go.Proofs
end SX
end Go.Proofs.YthkedcneehdinaaGreatDoor

/- x86: the program's and the reference's text are one. Printed by xtx.py. -/
set_option linter.unusedVariables false
set_option maxRecDepth 100000
namespace Go.Proofs.YthkedcneehdinaaGreatDoor
namespace SX
open Go Go.Proofs
def xH : List SB := [rowS [82, 65, 88] [82, 66, 88] [82, 67, 88] [82, 68, 88] [82, 83, 73] [82, 68, 73] [82, 56] [82, 57], langB [36] 80 81]
/-- A text that the program gives. -/
def XOne (i : In) (lb t : List UInt8) : Prop :=
  Ctr Tryz.prog 81 [.ptr 1 1 0 [], .agg (ienc i), .s lb] xH (fun r h' => r = .tup [.s t, .b (!decide (t = []))] ∧ h' = xH) ∧ t.length ≤ 100000
theorem XOne.line {i : In} {lb n : List UInt8} {xs : List (List UInt8)} (hl : (lineF n xs).length ≤ 100000)
    (h1 : Ctr Tryz.prog 81 [.ptr 1 1 0 [], .agg (ienc i), .s lb] xH (fun r h' => r = .tup [.s (lineF n xs), .b true] ∧ h' = xH)) (ht : pxT i lb = lineF n xs) : XOne i lb (pxT i lb) := by
  rw [ht]
  refine ⟨?_, hl⟩
  rw [decide_eq_false line_ne]
  exact h1
theorem XOne.none {i : In} {lb : List UInt8} (h1 : Ctr Tryz.prog 81 [.ptr 1 1 0 [], .agg (ienc i), .s lb] xH (fun r h' => r = .tup [.s [], .b false] ∧ h' = xH)) (ht : pxT i lb = []) : XOne i lb (pxT i lb) := by
  rw [ht]; exact ⟨h1, by decide⟩
theorem line_len {n x y : List UInt8} {p q r : Nat} (h1 : n.length ≤ p) (h2 : x.length ≤ q) (h3 : y.length ≤ r) (h4 : p + q + r ≤ 99000) : (lineF n [x, y]).length ≤ 100000 := by
  unfold lineF; rw [join2]; simp; omega
theorem ro_len (r n : Int) (hn : in64 n) : (orF (regsL 1) [36] r n).length ≤ 40 := orF_len (fun n => name_len 1 n) hn (by decide)
theorem x86_one (i : In) (lb : List UInt8) (hf : formP i = true) (hi : in64 i.imm) (hl : lb.length ≤ 90000) : XOne i lb (pxT i lb) := by
  obtain ⟨op, dst, a, b, imm, loc, off, ix, sz, fn, acq, wk, rel, pr, su, to, ze⟩ := i
  have hi : in64 imm := hi
  by_cases h1 : op = 1
  · subst h1
    exact XOne.line (line_len (p := 8) (by decide) (name_len 1 dst) (ro_len (-1) imm hi) (by decide)) (xp_1 [82, 65, 88] [82, 66, 88] [82, 67, 88] [82, 68, 88] [82, 83, 73] [82, 68, 73] [82, 56] [82, 57] [36] 80 81 (fun n => name_len 1 n) (by decide) dst a b imm loc off ix sz fn pr su to acq wk rel ze lb hi) rfl
  by_cases h2 : op = 2
  · subst h2
    exact XOne.line (line_len (p := 8) (by decide) (name_len 1 dst) (name_len 1 a) (by decide)) (xp_2 [82, 65, 88] [82, 66, 88] [82, 67, 88] [82, 68, 88] [82, 83, 73] [82, 68, 73] [82, 56] [82, 57] [36] 80 81 (fun n => name_len 1 n) (by decide) dst a b imm loc off ix sz fn pr su to acq wk rel ze lb ) rfl
  by_cases h3 : op = 3
  · subst h3
    have hq : form3 ⟨3, dst, a, b, imm, loc, off, ix, sz, fn, acq, wk, rel, pr, su, to, ze⟩ = true := hf
    have hfn : fn = 1 ∨ fn = 2 ∨ fn = 3 ∨ fn = 4 ∨ fn = 5 := by
      unfold form3 at hq
      split at hq <;> simp only [Bool.and_eq_true, decide_eq_true_eq] at hq <;> omega
    by_cases hd : dst = a
    · rcases hfn with rfl | rfl | rfl | rfl | rfl
      · exact XOne.line (line_len (p := 8) (by decide) (name_len 1 dst) (ro_len b imm hi) (by decide)) (xp_31 [82, 65, 88] [82, 66, 88] [82, 67, 88] [82, 68, 88] [82, 83, 73] [82, 68, 73] [82, 56] [82, 57] [36] 80 81 (fun n => name_len 1 n) (by decide) dst a b imm loc off ix sz pr su to acq wk rel ze lb hd hi) (pxT_3 hd)
      · exact XOne.line (line_len (p := 8) (by decide) (name_len 1 dst) (ro_len b imm hi) (by decide)) (xp_32 [82, 65, 88] [82, 66, 88] [82, 67, 88] [82, 68, 88] [82, 83, 73] [82, 68, 73] [82, 56] [82, 57] [36] 80 81 (fun n => name_len 1 n) (by decide) dst a b imm loc off ix sz pr su to acq wk rel ze lb hd hi) (pxT_3 hd)
      · exact XOne.line (line_len (p := 8) (by decide) (name_len 1 dst) (ro_len b imm hi) (by decide)) (xp_33 [82, 65, 88] [82, 66, 88] [82, 67, 88] [82, 68, 88] [82, 83, 73] [82, 68, 73] [82, 56] [82, 57] [36] 80 81 (fun n => name_len 1 n) (by decide) dst a b imm loc off ix sz pr su to acq wk rel ze lb hd hi) (pxT_3 hd)
      · exact XOne.line (line_len (p := 8) (by decide) (name_len 1 dst) (ro_len b imm hi) (by decide)) (xp_34 [82, 65, 88] [82, 66, 88] [82, 67, 88] [82, 68, 88] [82, 83, 73] [82, 68, 73] [82, 56] [82, 57] [36] 80 81 (fun n => name_len 1 n) (by decide) dst a b imm loc off ix sz pr su to acq wk rel ze lb hd hi) (pxT_3 hd)
      · exact XOne.line (line_len (p := 8) (by decide) (name_len 1 dst) (ro_len b imm hi) (by decide)) (xp_35 [82, 65, 88] [82, 66, 88] [82, 67, 88] [82, 68, 88] [82, 83, 73] [82, 68, 73] [82, 56] [82, 57] [36] 80 81 (fun n => name_len 1 n) (by decide) dst a b imm loc off ix sz pr su to acq wk rel ze lb hd hi) (pxT_3 hd)
    · exact XOne.none (xp_3n [82, 65, 88] [82, 66, 88] [82, 67, 88] [82, 68, 88] [82, 83, 73] [82, 68, 73] [82, 56] [82, 57] [36] 80 81 (fun n => name_len 1 n) (by decide) dst a b imm loc off ix sz fn pr su to acq wk rel ze lb hd) (pxT_3n hd)
  by_cases h4 : op = 4
  · subst h4
    have hq : form4 ⟨4, dst, a, b, imm, loc, off, ix, sz, fn, acq, wk, rel, pr, su, to, ze⟩ = true := hf
    have ha : accB ⟨4, dst, a, b, imm, loc, off, ix, sz, fn, acq, wk, rel, pr, su, to, ze⟩ = true := by
      unfold form4 at hq
      simp only [Bool.and_eq_true] at hq; exact hq.1.1.2
    cases acq with
    | true => exact XOne.none (xp_4a [82, 65, 88] [82, 66, 88] [82, 67, 88] [82, 68, 88] [82, 83, 73] [82, 68, 73] [82, 56] [82, 57] [36] 80 81 (fun n => name_len 1 n) (by decide) dst a b imm loc off ix sz fn pr su to wk rel ze lb ) pxT_4a
    | false =>
      cases wk with
      | true => exact XOne.none (xp_4w [82, 65, 88] [82, 66, 88] [82, 67, 88] [82, 68, 88] [82, 83, 73] [82, 68, 73] [82, 56] [82, 57] [36] 80 81 (fun n => name_len 1 n) (by decide) dst a b imm loc off ix sz fn pr su to rel ze lb ) pxT_4w
      | false => exact XOne.line (line_len (p := 10) (by have := xEnd_len sz; simp; omega) (name_len 1 dst) (atR_len (a := 1) ha) (by decide)) (xp_4 [82, 65, 88] [82, 66, 88] [82, 67, 88] [82, 68, 88] [82, 83, 73] [82, 68, 73] [82, 56] [82, 57] [36] 80 81 (fun n => name_len 1 n) (by decide) dst a b imm loc off ix sz fn pr su to rel ze lb ha) rfl
  by_cases h5 : op = 5
  · subst h5
    have hq : form5 ⟨5, dst, a, b, imm, loc, off, ix, sz, fn, acq, wk, rel, pr, su, to, ze⟩ = true := hf
    have ha : accB ⟨5, dst, a, b, imm, loc, off, ix, sz, fn, acq, wk, rel, pr, su, to, ze⟩ = true := by
      unfold form5 at hq
      split at hq <;> simp only [Bool.and_eq_true] at hq
      · exact hq.1
      · exact hq.1.1
    cases rel with
    | true => exact XOne.none (xp_5r [82, 65, 88] [82, 66, 88] [82, 67, 88] [82, 68, 88] [82, 83, 73] [82, 68, 73] [82, 56] [82, 57] [36] 80 81 (fun n => name_len 1 n) (by decide) dst a b imm loc off ix sz fn pr su to acq wk ze lb ) rfl
    | false => exact XOne.line (line_len (p := 10) (by have := xEnd_len sz; simp; omega) (atR_len (a := 1) ha) (ro_len a imm hi) (by decide)) (xp_5 [82, 65, 88] [82, 66, 88] [82, 67, 88] [82, 68, 88] [82, 83, 73] [82, 68, 73] [82, 56] [82, 57] [36] 80 81 (fun n => name_len 1 n) (by decide) dst a b imm loc off ix sz fn pr su to acq wk ze lb hi ha) rfl
  by_cases h6 : op = 6
  · subst h6
    have hq : form6 ⟨6, dst, a, b, imm, loc, off, ix, sz, fn, acq, wk, rel, pr, su, to, ze⟩ = true := hf
    have ha : accB ⟨6, dst, a, b, imm, loc, off, ix, sz, fn, acq, wk, rel, pr, su, to, ze⟩ = true := by
      unfold form6 at hq
      simp only [Bool.and_eq_true] at hq; exact hq.1.1.2
    have hfn : fn = 6 ∨ fn = 1 := by
      unfold form6 at hq
      simp only [Bool.and_eq_true, Bool.or_eq_true, decide_eq_true_eq] at hq
      exact hq.1.2
    by_cases hd : dst = a
    · cases acq with
      | false => exact XOne.none (xp_6a [82, 65, 88] [82, 66, 88] [82, 67, 88] [82, 68, 88] [82, 83, 73] [82, 68, 73] [82, 56] [82, 57] [36] 80 81 (fun n => name_len 1 n) (by decide) dst a b imm loc off ix sz fn pr su to wk rel ze lb ) pxT_6a
      | true =>
        cases rel with
        | false => exact XOne.none (xp_6r [82, 65, 88] [82, 66, 88] [82, 67, 88] [82, 68, 88] [82, 83, 73] [82, 68, 73] [82, 56] [82, 57] [36] 80 81 (fun n => name_len 1 n) (by decide) dst a b imm loc off ix sz fn pr su to wk ze lb ) pxT_6r
        | true =>
          subst hd
          rcases hfn with rfl | rfl
          · exact XOne.line (line_len (p := 10) (by have := xEnd_len sz; simp; omega) (name_len 1 dst) (atR_len (a := 1) ha) (by decide)) (xp_6x [82, 65, 88] [82, 66, 88] [82, 67, 88] [82, 68, 88] [82, 83, 73] [82, 68, 73] [82, 56] [82, 57] [36] 80 81 (fun n => name_len 1 n) (by decide) dst dst b imm loc off ix sz pr su to wk ze lb rfl ha) (pxT_6 rfl)
          · exact XOne.line (line_len (p := 10) (by have := xEnd_len sz; simp; omega) (atR_len (a := 1) ha) (name_len 1 dst) (by decide)) (xp_6y [82, 65, 88] [82, 66, 88] [82, 67, 88] [82, 68, 88] [82, 83, 73] [82, 68, 73] [82, 56] [82, 57] [36] 80 81 (fun n => name_len 1 n) (by decide) dst dst b imm loc off ix sz pr su to wk ze lb rfl ha) (pxT_6 rfl)
    · exact XOne.none (xp_6d [82, 65, 88] [82, 66, 88] [82, 67, 88] [82, 68, 88] [82, 83, 73] [82, 68, 73] [82, 56] [82, 57] [36] 80 81 (fun n => name_len 1 n) (by decide) dst a b imm loc off ix sz fn pr su to acq wk rel ze lb hd) (pxT_6d hd)
  by_cases h7 : op = 7
  · subst h7
    have hq : form7 ⟨7, dst, a, b, imm, loc, off, ix, sz, fn, acq, wk, rel, pr, su, to, ze⟩ = true := hf
    have hps : (pr = 1 ∨ pr = 2 ∨ pr = 3) ∧ (su = 1 ∨ su = 2 ∨ su = 3) := by
      unfold form7 fnB at hq
      simp only [Bool.and_eq_true, decide_eq_true_eq] at hq
      omega
    obtain ⟨hp, hs⟩ := hps
    rcases hp with rfl | rfl | rfl <;> rcases hs with rfl | rfl | rfl
    · exact XOne.none (xp_711 [82, 65, 88] [82, 66, 88] [82, 67, 88] [82, 68, 88] [82, 83, 73] [82, 68, 73] [82, 56] [82, 57] [36] 80 81 (fun n => name_len 1 n) (by decide) dst a b imm loc off ix sz fn to acq wk rel ze lb) rfl
    · exact XOne.none (xp_712 [82, 65, 88] [82, 66, 88] [82, 67, 88] [82, 68, 88] [82, 83, 73] [82, 68, 73] [82, 56] [82, 57] [36] 80 81 (fun n => name_len 1 n) (by decide) dst a b imm loc off ix sz fn to acq wk rel ze lb) rfl
    · exact XOne.none (xp_713 [82, 65, 88] [82, 66, 88] [82, 67, 88] [82, 68, 88] [82, 83, 73] [82, 68, 73] [82, 56] [82, 57] [36] 80 81 (fun n => name_len 1 n) (by decide) dst a b imm loc off ix sz fn to acq wk rel ze lb) rfl
    · exact XOne.none (xp_721 [82, 65, 88] [82, 66, 88] [82, 67, 88] [82, 68, 88] [82, 83, 73] [82, 68, 73] [82, 56] [82, 57] [36] 80 81 (fun n => name_len 1 n) (by decide) dst a b imm loc off ix sz fn to acq wk rel ze lb) rfl
    · exact XOne.none (xp_722 [82, 65, 88] [82, 66, 88] [82, 67, 88] [82, 68, 88] [82, 83, 73] [82, 68, 73] [82, 56] [82, 57] [36] 80 81 (fun n => name_len 1 n) (by decide) dst a b imm loc off ix sz fn to acq wk rel ze lb) rfl
    · exact XOne.none (xp_723 [82, 65, 88] [82, 66, 88] [82, 67, 88] [82, 68, 88] [82, 83, 73] [82, 68, 73] [82, 56] [82, 57] [36] 80 81 (fun n => name_len 1 n) (by decide) dst a b imm loc off ix sz fn to acq wk rel ze lb) rfl
    · exact XOne.none (xp_731 [82, 65, 88] [82, 66, 88] [82, 67, 88] [82, 68, 88] [82, 83, 73] [82, 68, 73] [82, 56] [82, 57] [36] 80 81 (fun n => name_len 1 n) (by decide) dst a b imm loc off ix sz fn to acq wk rel ze lb) rfl
    · exact XOne.none (xp_732 [82, 65, 88] [82, 66, 88] [82, 67, 88] [82, 68, 88] [82, 83, 73] [82, 68, 73] [82, 56] [82, 57] [36] 80 81 (fun n => name_len 1 n) (by decide) dst a b imm loc off ix sz fn to acq wk rel ze lb) rfl
    · exact (⟨xp_733 [82, 65, 88] [82, 66, 88] [82, 67, 88] [82, 68, 88] [82, 83, 73] [82, 68, 73] [82, 56] [82, 57] [36] 80 81 (fun n => name_len 1 n) (by decide) dst a b imm loc off ix sz fn to acq wk rel ze lb, by decide⟩ : XOne _ lb [77, 70, 69, 78, 67, 69])
  by_cases h8 : op = 8
  · subst h8
    exact XOne.none (xp_8 [82, 65, 88] [82, 66, 88] [82, 67, 88] [82, 68, 88] [82, 83, 73] [82, 68, 73] [82, 56] [82, 57] [36] 80 81 (fun n => name_len 1 n) (by decide) dst a b imm loc off ix sz fn pr su to acq wk rel ze lb ) rfl
  by_cases h9 : op = 9
  · subst h9
    cases ze with
    | true => exact XOne.line (line_len (p := 8) (by decide) (name_len 1 a) hl (by decide)) (xp_9z [82, 65, 88] [82, 66, 88] [82, 67, 88] [82, 68, 88] [82, 83, 73] [82, 68, 73] [82, 56] [82, 57] [36] 80 81 (fun n => name_len 1 n) (by decide) dst a b imm loc off ix sz fn pr su to acq wk rel lb hl) rfl
    | false => exact XOne.line (line_len (p := 8) (by decide) (name_len 1 a) hl (by decide)) (xp_9n [82, 65, 88] [82, 66, 88] [82, 67, 88] [82, 68, 88] [82, 83, 73] [82, 68, 73] [82, 56] [82, 57] [36] 80 81 (fun n => name_len 1 n) (by decide) dst a b imm loc off ix sz fn pr su to acq wk rel lb hl) rfl
  unfold formP at hf
  simp only [if_neg h1, if_neg h2, if_neg h3, if_neg h4, if_neg h5, if_neg h6, if_neg h7, if_neg h8, if_neg h9] at hf
  cases hf
end SX
end Go.Proofs.YthkedcneehdinaaGreatDoor

/- What a writer of instructions answers. -/
set_option linter.unusedVariables false
set_option maxRecDepth 100000
namespace Go.Proofs.YthkedcneehdinaaGreatDoor
namespace SX
open Go Go.Proofs
theorem rgt_no {i : In} {lo hi : Int} (h : formP i = false) : rgtF i lo hi = 34 := by unfold rgtF; rw [h]; rfl
theorem rgt_yes {i : In} {lo hi : Int} (h : formP i = true) : rgtF i lo hi = if toX i lo hi = true then 35 else 0 := by unfold rgtF; rw [h]; rfl
/-- What is answered: a text, an error's number. -/
def ansF (i : In) (lb t : List UInt8) : SV :=
  if formP i = false then .tup [.s [], .i .i64 34] else if t = [] then .tup [.s [], .i .i64 36] else if i.op = 9 ∧ namedF lb = false then .tup [.s [], .i .i64 37] else .tup [.s t, .i .i64 0]
theorem ansF_any {p : SV → Prop} {i : In} {lb t : List UInt8} (h : ∀ (x : List UInt8) (n : Int), p (.tup [.s x, .i .i64 n])) : p (ansF i lb t) := by
  unfold ansF
  split
  · exact h _ _
  · split
    · exact h _ _
    · split <;> exact h _ _
theorem ans_yes {i : In} {lb t : List UInt8} (h1 : formP i = true) (h2 : t ≠ []) (h3 : i.op = 9 → namedF lb = true) : ansF i lb t = .tup [.s t, .i .i64 0] := by
  unfold ansF
  rw [if_neg (by rw [h1]; decide), if_neg h2, if_neg]
  rintro ⟨h4, h5⟩
  rw [h3 h4] at h5; cases h5
theorem ans_no {i : In} {lb t : List UInt8} (h : ¬ (formP i = true ∧ t ≠ [] ∧ (i.op = 9 → namedF lb = true))) : ∃ e : Int, e ≠ 0 ∧ ansF i lb t = .tup [.s [], .i .i64 e] := by
  unfold ansF
  split
  · exact ⟨_, by decide, rfl⟩
  · rename_i h1
    split
    · exact ⟨_, by decide, rfl⟩
    · rename_i h2
      split
      · exact ⟨_, by decide, rfl⟩
      · rename_i h3
        refine absurd ⟨by simpa using h1, h2, fun h4 => ?_⟩ h
        cases hq : namedF lb with
        | true => rfl
        | false => exact absurd ⟨h4, hq⟩ h3
end SX
end Go.Proofs.YthkedcneehdinaaGreatDoor

/- x86: print and its reference answer alike. -/
set_option linter.unusedVariables false
set_option maxRecDepth 100000
namespace Go.Proofs.YthkedcneehdinaaGreatDoor
namespace SX
open Go Go.Proofs
set_option maxHeartbeats 1000000 in
theorem ltext_ok (i : In) (lb t : List UInt8) (hb : formP i = true → XOne i lb t) : Ctr Tryz.prog 38 [.ptr 1 1 0 [], .agg (ienc i), .s lb] xH (fun r h' => r = ansF i lb t ∧ h' = xH) := by
  refine Ctr.enterG tabOkF (fn := Tryz.f38) rfl rfl rfl rfl rfl (ansF_any fun _ _ => rfl) bndLang ?_
  refine OpC.callV rfl rfl rfl rfl rfl rfl rfl (fun _ => uright_ok i 0 1) ?_
  unfold ansF
  cases hf : formP i with
  | false =>
    refine ⟨fun _ => ⟨rfl, _, rfl⟩, fun h => absurd (rgt_no hf) (of_decide_eq_false h)⟩
  | true =>
    have hb := hb hf
    refine ⟨fun h => ?_, fun _ => ?_⟩
    · have h : rgtF i 0 1 = 34 := of_decide_eq_true h
      rw [rgt_yes hf] at h
      split at h <;> omega
    refine WpC.dr tabOkF mixed 0 ?_
    refine OpD.callG [0, 1] rfl rfl rfl rfl rfl rfl (r := .tup [.s t, .b (!decide (t = []))]) (fun _ H1 hH => Ctr.spread hb.1 (fun ρ => rfl) H1 [0, 1] rfl rfl ⟨hH 0 (by simp), hH 1 (by simp), trivial⟩ rfl) ?_
    refine ⟨by kernel_rfl, ?_⟩
    rw [if_neg (by decide)]
    refine ⟨fun h => ?_, fun h => ?_⟩
    · have h : (!(!decide (t = []))) = true := h
      have h : t = [] := by simpa using h
      rw [if_pos h]
      exact ⟨rfl, _, rfl⟩
    · have h : (!(!decide (t = []))) = false := h
      have h : ¬ t = [] := by simpa using h
      rw [if_neg h]
      refine OpC.callV rfl rfl rfl rfl rfl rfl rfl (fun _ => named_ok lb) ?_
      refine ⟨fun h2 => ?_, fun h2 => ?_⟩
      · have h2 : (decide (i.op = 9) && !namedF lb) = true := h2
        rw [if_pos (by simpa using h2)]
        exact ⟨rfl, _, rfl⟩
      · have h2 : (decide (i.op = 9) && !namedF lb) = false := h2
        rw [if_neg (by intro hh; rw [hh.2, decide_eq_true hh.1] at h2; cases h2)]
        exact ⟨rfl, _, rfl⟩
end SX
end Go.Proofs.YthkedcneehdinaaGreatDoor

/- x86: a register's number, by its name. Printed by xrg.py. -/
set_option linter.unusedVariables false
set_option maxRecDepth 100000
namespace Go.Proofs.YthkedcneehdinaaGreatDoor
namespace SX
open Go Go.Proofs
theorem x86Print_ok (i : In) (lb t : List UInt8) (hb : formP i = true → XOne i lb t) : CtrV Tryz.prog 12 [.agg (ienc i), .s lb] (ansF i lb t) := by
  have ht := ltext_ok i lb t hb
  obtain ⟨x, n, hx⟩ : ∃ x n, ansF i lb t = .tup [.s x, .i .i64 n] := ansF_any (p := fun r => ∃ x n, r = .tup [.s x, .i .i64 n]) fun x n => ⟨x, n, rfl⟩
  rw [hx] at ht ⊢
  refine Ctr.enterV tabOkF (fn := Tryz.f12) rfl rfl rfl rfl rfl rfl ?_
  refine WpC.dr tabOkF mixed 2 ?_
  refine OpD.callL rfl rfl rfl rfl [] 2 rfl rfl x86_lang rfl rfl rfl rfl trivial rfl rfl ?_
  refine OpD.callG [1, 2] rfl rfl rfl rfl rfl rfl (r := .tup [.s x, .i .i64 n]) (fun _ H1 hH => Ctr.spread ht (fun ρ => rfl) H1 [1, 2] rfl rfl ⟨hH 1 (by simp), hH 2 (by simp), trivial⟩ rfl) ?_
  refine ⟨by kernel_rfl, ?_⟩
  exact rfl
end SX
end Go.Proofs.YthkedcneehdinaaGreatDoor

/- x86.Print, with its text told. -/
set_option linter.unusedVariables false
set_option maxRecDepth 100000
namespace Go.Proofs.YthkedcneehdinaaGreatDoor
namespace SX
open Go Go.Proofs
theorem x86PrintT (i : In) (lb : List UInt8) (hi : in64 i.imm) (hl : lb.length ≤ 90000) : CtrV Tryz.prog 12 [.agg (ienc i), .s lb] (ansF i lb (pxT i lb)) := x86Print_ok i lb (pxT i lb) fun h => x86_one i lb h hi hl
end SX
end Go.Proofs.YthkedcneehdinaaGreatDoor

/- What a run of law 5's able() asks of the library, as memos. -/
set_option linter.unusedVariables false
set_option maxRecDepth 100000
namespace Go.Proofs.YthkedcneehdinaaGreatDoor
namespace SX
open Go Go.Proofs
def mIB (c n : Int) : Memo := ⟨47, [.s [123, 125, 40, 41, 91, 93, 59, 124, 44, 58, 61, 43, 45, 35, 36, 126, 42, 47, 92, 38, 63, 94], .i .u8 c], [], .i .i64 n, []⟩
theorem mIB_ok {c n : Int} (h : Lib.indexByte marksL c.toNat.toUInt8 = n) : MemoOk Tryz.prog (mIB c n) := by
  subst h
  exact sIndexByte_ok marksL c
def mLoc (s : List UInt8) (n : Int) : Memo := ⟨40, [.s [120, 121, 122], .s s], [], .i .i64 n, []⟩
theorem mLoc_ok {s : List UInt8} {n : Int} (h : Lib.index [120, 121, 122] s = n) : MemoOk Tryz.prog (mLoc s n) := by
  subst h
  exact sIndex_ok [120, 121, 122] s (by decide)
def mNum (w : List UInt8) (n : Nat) : Memo := ⟨45, [.s w], [], .tup [.i .i64 n, .b true], []⟩
theorem mNum_ok {w : List UInt8} {n : Nat} (h : numF w = some n) (hn : (w.all fun c => numB (c.toNat : Int)) = true) (hw : w.length ≤ 10000) (h2 : n ≤ 9223372036854775807) : MemoOk Tryz.prog (mNum w n) := by
  refine (number_ok w (fun c hc => List.all_eq_true.1 hn c hc) hw).mono callX_m ?_
  rintro r h' ⟨hr, rfl⟩
  rw [h] at hr
  have hr : r = .tup [.i .i64 (IntKind.i64.wrap n), .b true] := hr
  rw [w64 (by omega) (by omega)] at hr
  exact ⟨hr, rfl⟩
def mJoin (xs : List (List UInt8)) (n : Nat) (r : List UInt8) : Memo := ⟨199, [.sl 0 1 0 n (some n) 0, .s [44]], [.mem 9 (xs.map .s) 1 0], .s r, [.mem 9 (xs.map .s) 1 0]⟩
theorem mJoin_ok {xs : List (List UInt8)} {n : Nat} {r : List UInt8} (hn : xs.length = n) (hn2 : n ≤ 1000) (h : Lib.join xs [44] = r) (hl : r.length ≤ 1000) : MemoOk Tryz.prog (mJoin xs n r) := by
  subst h
  exact join_ok xs n hn hn2 [44] (by omega)
def x5ms : List Memo := [mIB 91 4, mIB 93 5, mIB 43 11, mIB 44 8, mLoc [120] 0, mNum [52] 4, mJoin [[91, 120, 43, 52, 93], [82, 66, 88]] 2 [91, 120, 43, 52, 93, 44, 82, 66, 88]]
theorem x5ms_ok : ∀ m ∈ x5ms, MemoOk Tryz.prog m := by
  intro m hm
  simp only [x5ms, List.mem_cons, List.not_mem_nil, or_false] at hm
  rcases hm with rfl | rfl | rfl | rfl | rfl | rfl | rfl
  · exact mIB_ok (by decide)
  · exact mIB_ok (by decide)
  · exact mIB_ok (by decide)
  · exact mIB_ok (by decide)
  · exact mLoc_ok (by decide)
  · exact mNum_ok (by decide) (by decide) (by decide) (by decide)
  · exact mJoin_ok rfl (by decide) (by decide) (by decide)
end SX
end Go.Proofs.YthkedcneehdinaaGreatDoor

/- Law 5: able() answers true. -/
set_option maxRecDepth 100000
namespace Go.Proofs.YthkedcneehdinaaGreatDoor
namespace SX
open Go Go.Proofs
def x5able : Memo := ⟨11, [], [], .b true, []⟩
theorem able5_ok : CtrV Tryz.prog 11 [] (.b true) := (memo_of (m := x5able) (tr := treeF) (ft := ftree) (ms := x5ms) (n := 40) tabOkF ftOk mixed x5ms_ok (by decide +kernel) : MemoOk Tryz.prog x5able)
end SX
end Go.Proofs.YthkedcneehdinaaGreatDoor

/- No words, and what is wrong with none. -/
set_option linter.unusedVariables false
set_option maxRecDepth 100000
namespace Go.Proofs.YthkedcneehdinaaGreatDoor
namespace SX
open Go Go.Proofs
theorem outq (x : Rd) (s : RS) (h : (outF x s).e = 0) : (outF x s).q = 0 := by
  unfold outF at h ⊢
  split
  · rfl
  · rename_i h0; rw [if_neg h0] at h; exact absurd h h0
theorem parse_q {rd : List Tk → List UInt8 → RS → Rd × RS} {ts : List Tk} {x : In} {l : List UInt8} {q : Int} (h : parseP rd ts = ⟨x, l, 0, q⟩) : q = 0 := by
  have h1 : (parseP rd ts).q = 0 := outq _ _ (by show (parseP rd ts).e = 0; rw [h])
  rw [h] at h1; exact h1
theorem Cp.nils1 {X : List Value → World → (Value → World → Prop) → Prop} {H : List SB} {K : SV → List SB → Prop} (h : Cp X [.imm Tk tk0 4 tkenc [] none 0] H K) : Cp X [.nils] H K :=
  ⟨fun C E m w hr ha => h.out C E m w hr ⟨⟨rfl, ⟨Nat.le_refl _, fun h => absurd rfl h, tkw, fun j hj => absurd hj (Nat.not_lt_zero _)⟩⟩, trivial⟩⟩
end SX
end Go.Proofs.YthkedcneehdinaaGreatDoor

/- belatedlaw5.X86Back: the law's contract. Printed by xlb.py. -/
set_option linter.unusedVariables false
set_option linter.unusedSimpArgs false
set_option maxRecDepth 100000
namespace Go.Proofs.YthkedcneehdinaaGreatDoor
namespace SX
open Go Go.Proofs
set_option maxHeartbeats 4000000 in
theorem x86Back_ok (i : In) (lb text : List UInt8) (hi : InW i) (hl : lb.length ≤ 2 ^ 47) (htl : text.length ≤ 2 ^ 47) : CtrV Tryz.prog 3 [.agg (ienc i), .s lb, .s text] (.b true) := by
  have pnil : CtrV Tryz.prog 14 [.nils] (prV5 (parseP readXP [])) := Cp.nils1 (x86Parse_v [] none 0 (by decide) (by decide))
  refine Ctr.enterV tabOkM (fn := Tryz.f3) rfl rfl rfl rfl rfl rfl ?_
  refine OpC.callV rfl rfl rfl rfl rfl rfl rfl (fun _ => able5_ok) ?_
  refine ⟨fun h => no_ft h, fun _ => ?_⟩
  refine ⟨fun _ => rfl, fun h1 => ?_⟩
  have h1 : (decide ((8000 : Int) < lb.length) || decide ((8000 : Int) < text.length)) = false := h1
  have hl1 : lb.length ≤ 8000 ∧ text.length ≤ 8000 := by
    simp only [Bool.or_eq_false_iff, decide_eq_false_iff_not] at h1
    omega
  have c1 := x86PrintT i lb hi.imm (by omega)
  by_cases hy : formP i = true ∧ pxT i lb ≠ [] ∧ (i.op = 9 → namedF lb = true)
  · rw [ans_yes hy.1 hy.2.1 hy.2.2] at c1
    refine OpC.callV rfl rfl rfl rfl rfl rfl rfl (fun _ => c1) ?_
    refine ⟨fun _ => ?_, fun h => absurd (show decide ((0 : Int) = 0) = false from h) (by decide)⟩
    have hlen := x86_back.len i lb hy.1 hi.imm
    obtain ⟨vs, v1, v2⟩ := x86_back.out i lb hy.1 hi.imm hy.2.1 hy.2.2 (by omega)
    refine OpC.callL rfl rfl rfl rfl [] 1 rfl rfl rfl (tokensI_ok (pxT i lb)) rfl rfl rfl rfl trivial rfl (fun r H' hk => ?_) ?_
    · rcases hk with ⟨ts, ad, cap, B, h1, rfl, rfl⟩ | ⟨e, p, h1, he, rfl, rfl⟩
      · exact ⟨Nat.zero_le _, Nat.le_refl _⟩
      · exact ⟨Nat.zero_le _, Nat.zero_le _⟩
    rintro r H' (⟨ts0, ad0, cap0, B0, h0, rfl, rfl⟩ | ⟨e, p, h0, he, rfl, rfl⟩)
    rotate_left
    · rw [v1] at h0; cases h0; exact absurd rfl he
    obtain rfl : vs = ts0 := by rw [v1] at h0; cases h0; rfl
    have hz := x86Parse_v vs ad0 cap0 (by have := tok_count (pxT i lb); rw [v1] at this; exact Nat.le_trans this (by decide)) (tk_at_len (s := pxT i lb) (by rw [v1]) 0)
    rw [v2] at hz
    refine OpC.callV rfl rfl rfl rfl rfl rfl rfl (fun _ => hz) ?_
    refine ⟨fun h => ?_, fun _ => ?_⟩
    · have h : (decide (((pxT i lb).length : Int) ≤ 8000) && ((!decide ((0 : Int) = 0) || !eqI { i with to := 0 } { i with to := 0 }) || (decide (i.op = 9) && !decide ((if i.op = 9 then lb else []) = lb)))) = true := h
      rw [eqI_rfl] at h
      by_cases h9 : i.op = 9
      · rw [if_pos h9] at h; simp at h
      · rw [decide_eq_false h9] at h; simp at h
    refine OpC.callL rfl rfl rfl rfl [] 1 rfl rfl rfl (tokensI_ok text) rfl rfl rfl rfl trivial rfl (fun r H' hk => ?_) ?_
    · rcases hk with ⟨ts, ad, cap, B, h1, rfl, rfl⟩ | ⟨e, p, h1, he, rfl, rfl⟩
      · exact ⟨Nat.zero_le _, Nat.le_refl _⟩
      · exact ⟨Nat.zero_le _, Nat.zero_le _⟩
    rintro r H' (⟨ts, ad, cap, B, h1, rfl, rfl⟩ | ⟨e, p, h1, he, rfl, rfl⟩)
    rotate_left
    · refine OpC.callV rfl rfl rfl rfl rfl rfl rfl (fun _ => pnil) ?_
      refine ⟨fun _ => rfl, fun h => ?_⟩
      exact absurd (by simpa [he] using (show (!decide (e = 0) || _) = false from h)) id
    have hts : (tokF text).1 = ts := by rw [h1]
    have hx := x86Parse_v ts ad cap (by have := tok_count text; rw [hts] at this; omega) (tk_at_len hts 0)
    obtain ⟨P, hP⟩ : ∃ P, parseP readXP ts = P := ⟨_, rfl⟩
    rw [hP] at hx
    obtain ⟨x, l, f, q⟩ := P
    refine OpC.callV rfl rfl rfl rfl rfl rfl rfl (fun _ => hx) ?_
    refine ⟨fun _ => rfl, fun h => ?_⟩
    have h : (!decide ((0 : Int) = 0) || !decide (f = 0)) = false := h
    have hf0 : f = 0 := by simpa using h
    subst hf0
    obtain rfl : q = 0 := parse_q hP
    obtain ⟨b1, b2, b3, b4, b5, b6, us, b7, b8⟩ := x86_back.read h1 hl1.2 hP
    have hpr := x86PrintT x l b2 (by omega)
    rw [ans_yes b1 b3 b4] at hpr
    refine OpC.callV rfl rfl rfl rfl rfl rfl rfl (fun _ => hpr) ?_
    refine OpC.callL rfl rfl rfl rfl [] 1 rfl rfl rfl (tokensI_ok (pxT x l)) rfl rfl rfl rfl trivial rfl (fun r H' hk => ?_) ?_
    · rcases hk with ⟨ts, ad, cap, B, h1, rfl, rfl⟩ | ⟨e, p, h1, he, rfl, rfl⟩
      · exact ⟨Nat.zero_le _, Nat.le_refl _⟩
      · exact ⟨Nat.zero_le _, Nat.zero_le _⟩
    rintro r H' (⟨ts2, ad2, cap2, B2, h2, rfl, rfl⟩ | ⟨e, p, h2, he, rfl, rfl⟩)
    rotate_left
    · rw [b7] at h2; cases h2; exact absurd rfl he
    obtain rfl : us = ts2 := by rw [b7] at h2; cases h2; rfl
    have hy := x86Parse_v us ad2 cap2 (by have := tok_count (pxT x l); rw [b7] at this; exact Nat.le_trans this (by decide)) (tk_at_len (s := pxT x l) (by rw [b7]) 0)
    rw [b8] at hy
    refine OpC.callV rfl rfl rfl rfl rfl rfl rfl (fun _ => hy) ?_
    refine b_cg ?_
    show (((decide ((0 : Int) = 0) && decide ((0 : Int) = 0)) && eqI x x) && decide (l = l)) = true
    rw [eqI_rfl]
    simp
  · obtain ⟨e0, he0, ha0⟩ := ans_no hy
    rw [ha0] at c1
    refine OpC.callV rfl rfl rfl rfl rfl rfl rfl (fun _ => c1) ?_
    refine ⟨fun h => absurd (of_decide_eq_true (show decide (e0 = 0) = true from h)) he0, fun _ => ?_⟩
    refine OpC.callL rfl rfl rfl rfl [] 1 rfl rfl rfl (tokensI_ok text) rfl rfl rfl rfl trivial rfl (fun r H' hk => ?_) ?_
    · rcases hk with ⟨ts, ad, cap, B, h1, rfl, rfl⟩ | ⟨e, p, h1, he, rfl, rfl⟩
      · exact ⟨Nat.zero_le _, Nat.le_refl _⟩
      · exact ⟨Nat.zero_le _, Nat.zero_le _⟩
    rintro r H' (⟨ts, ad, cap, B, h1, rfl, rfl⟩ | ⟨e, p, h1, he, rfl, rfl⟩)
    rotate_left
    · refine OpC.callV rfl rfl rfl rfl rfl rfl rfl (fun _ => pnil) ?_
      refine ⟨fun _ => rfl, fun h => ?_⟩
      exact absurd (by simpa [he] using (show (!decide (e = 0) || _) = false from h)) id
    have hts : (tokF text).1 = ts := by rw [h1]
    have hx := x86Parse_v ts ad cap (by have := tok_count text; rw [hts] at this; omega) (tk_at_len hts 0)
    obtain ⟨P, hP⟩ : ∃ P, parseP readXP ts = P := ⟨_, rfl⟩
    rw [hP] at hx
    obtain ⟨x, l, f, q⟩ := P
    refine OpC.callV rfl rfl rfl rfl rfl rfl rfl (fun _ => hx) ?_
    refine ⟨fun _ => rfl, fun h => ?_⟩
    have h : (!decide ((0 : Int) = 0) || !decide (f = 0)) = false := h
    have hf0 : f = 0 := by simpa using h
    subst hf0
    obtain rfl : q = 0 := parse_q hP
    obtain ⟨b1, b2, b3, b4, b5, b6, us, b7, b8⟩ := x86_back.read h1 hl1.2 hP
    have hpr := x86PrintT x l b2 (by omega)
    rw [ans_yes b1 b3 b4] at hpr
    refine OpC.callV rfl rfl rfl rfl rfl rfl rfl (fun _ => hpr) ?_
    refine OpC.callL rfl rfl rfl rfl [] 1 rfl rfl rfl (tokensI_ok (pxT x l)) rfl rfl rfl rfl trivial rfl (fun r H' hk => ?_) ?_
    · rcases hk with ⟨ts, ad, cap, B, h1, rfl, rfl⟩ | ⟨e, p, h1, he, rfl, rfl⟩
      · exact ⟨Nat.zero_le _, Nat.le_refl _⟩
      · exact ⟨Nat.zero_le _, Nat.zero_le _⟩
    rintro r H' (⟨ts2, ad2, cap2, B2, h2, rfl, rfl⟩ | ⟨e, p, h2, he, rfl, rfl⟩)
    rotate_left
    · rw [b7] at h2; cases h2; exact absurd rfl he
    obtain rfl : us = ts2 := by rw [b7] at h2; cases h2; rfl
    have hy := x86Parse_v us ad2 cap2 (by have := tok_count (pxT x l); rw [b7] at this; exact Nat.le_trans this (by decide)) (tk_at_len (s := pxT x l) (by rw [b7]) 0)
    rw [b8] at hy
    refine OpC.callV rfl rfl rfl rfl rfl rfl rfl (fun _ => hy) ?_
    refine b_cg ?_
    show (((decide ((0 : Int) = 0) && decide ((0 : Int) = 0)) && eqI x x) && decide (l = l)) = true
    rw [eqI_rfl]
    simp
end SX
end Go.Proofs.YthkedcneehdinaaGreatDoor

/- X86Back: the row. Written by row.py. -/
set_option linter.unusedVariables false
set_option linter.unusedSimpArgs false
set_option maxRecDepth 100000
namespace Go.Proofs.YthkedcneehdinaaGreatDoor
open Go Go.ChangeShapes Go.WideShapes Go.ChangeAt Go.RowKit
theorem params_in : ∀ t ∈ Tryz.f3.params.toList, t < Tryz.prog.types.size := by
  have : (Tryz.f3.params.toList.all fun t => Nat.blt t Tryz.prog.types.size) = true := by kernel_rfl
  exact fun t ht => Nat.le_of_ble_eq_true (List.all_eq_true.1 this t ht)
theorem door_met (os : Os) (args : Array Value) : laidMetH Tryz.prog Rows.x86BackRow.laid ((World.doorLaid Tryz.prog 400 os).forCall (fun _ _ => 0) ⟨#[], args, []⟩).memory :=
  laidMetH_of_parts3 (fuel := 8) (laidMet_of_run' 8 (by kernel_rfl) (by kernel_rfl)) (by kernel_rfl) (by kernel_rfl)
theorem lifted (os : Os) (started : os.Started) (H : Type) (enc : TypeId × Value → H) :
    ReturnsInHanded {} Tryz.checked os 3 .any (fun w args => (Rows.x86BackSpec.pre enc Tryz.prog Tryz.f3 [] false w args ∧ laidMetH Tryz.prog Rows.x86BackRow.laid w) ∧ sizedMet enc Tryz.prog Tryz.f3 (OpenSpec.ofChange Rows.x86BackSpec) false w args)
      (Rows.x86BackSpec.post enc Tryz.prog Tryz.f3 false true false false) := by
  refine SX.returns_shaped (C := Tryz.checked) (X := fun w _ => laidMetH Tryz.prog Rows.x86BackRow.laid w) (fun _ _ _ hh h => h.of_heap hh) own started (by kernel_rfl) Tryz.func3
    (ChangeSpec.witness_shaped (enc := enc) (C := Tryz.checked) (os := os) (X := fun w _ => laidMetH Tryz.prog Rows.x86BackRow.laid w) false (World.doorLaid Tryz.prog 400 os) #[.agg #[.int .i64 0, .int .i64 0, .int .i64 0, .int .i64 0, .int .i64 0, .int .i64 0, .int .i64 0, .int .i64 0, .int .i64 0, .int .i64 0, .bool false, .bool false, .bool false, .int .i64 0, .int .i64 0, .int .i64 0, .bool false], .string ⟨#[]⟩, .string ⟨#[]⟩] 8 rfl (World.shaped_of_RefB (by kernel_rfl) (by kernel_rfl)) (by kernel_rfl) (by kernel_rfl) (by kernel_rfl) (door_met os _)) ?_
  intro W base args ds gs before hval0 hW hz hL hSh
  have hval : ∀ (j : Nat) t v, Tryz.f3.params[j]? = some t → args[j]? = some v → Value.okWide Tryz.prog W .any base t v := hval0
  have hW' := hW
  obtain ⟨p, q, hA0, hV, rfl, hfz, hnd⟩ := hW
  have hA : DataW.TrodAll enc Tryz.prog W 0 (fun _ => true) true Tryz.f3.params.toList args.toList ds p := hA0
  rw [Tryz.params3] at hA hval
  obtain ⟨v0, v1, v2, d0, d1, d2, p0, p1, p2, rfl, rfl, rfl, h0, h1, h2⟩ := trodAll_three hA
  obtain ⟨rfl, rfl⟩ := trodVars_none hV
  obtain ⟨x0, rfl, w0⟩ := ins_open (hval 0 _ v0 rfl rfl) h0
  obtain ⟨s1, rfl, e1, _, _⟩ := Go.ChangeMaps.open_string Tryz.underlying9 (hval 1 _ v1 rfl rfl) h1
  have w1 := sized_string hz (j := 1) rfl (congrArg some e1)
  obtain ⟨s2, rfl, e2, _, _⟩ := Go.ChangeMaps.open_string Tryz.underlying9 (hval 2 _ v2 rfl rfl) h2
  have w2 := sized_string hz (j := 2) rfl (congrArg some e2)
  clear hA0 hval0
  have hT := SX.tabsIn_row hL rfl hSh (List.mem_of_getElem? (i := 0) rfl) (List.mem_of_getElem? (i := 1) rfl) (List.mem_of_getElem? (i := 2) rfl) (List.mem_of_getElem? (i := 3) rfl) (List.mem_of_getElem? (i := 4) rfl) (List.mem_of_getElem? (i := 6) rfl) (by kernel_rfl) (by kernel_rfl) (by kernel_rfl) (by kernel_rfl) (by kernel_rfl) (by kernel_rfl)
  refine (SX.law_callsM (args := [.agg (SX.ienc x0), .s s1.data.toList, .s s2.data.toList]) Tryz.func3 rfl rfl (SX.x86Back_ok x0 s1.data.toList s2.data.toList w0 (Nat.le_of_lt (Nat.lt_of_le_of_lt w1 reachBytes_lt)) (Nat.le_of_lt (Nat.lt_of_le_of_lt w2 reachBytes_lt))) W hT (fun _ => false) ?_ (by simp [SX.den, SX.denL, SX.wrapV, SX.cells])).mono fun e W' ⟨he, hk, ho, hu⟩ => ?_
  · exact ⟨⟨rfl, by simp [SX.Ok, SX.ienc, SX.OkL, SX.isUnit]⟩, ⟨rfl, trivial⟩, ⟨rfl, trivial⟩, trivial⟩
  subst he
  exact ⟨_, rfl, SX.post_kept hk compsOk params_in (fun n hn => by cases hn) hW' ho hu rfl rfl rfl (fun _ _ _ => trodAll_mk1 (shut_bool Tryz.underlying4 _)) (ok_one (by kernel_rfl) rfl (okWide_bool_mk Tryz.underlying4 _))⟩
theorem fact0 : (fun (P : Program) (f : FuncId) (fn : Func) (s : ChangeSpec) (c : OpenClaim) => c.wf (OpenSpec.ofChange s)) Tryz.prog 3 Tryz.f3 Rows.x86BackSpec Rows.x86BackRow = true := by kernel_rfl
theorem fact1 : (fun (P : Program) (f : FuncId) (fn : Func) (s : ChangeSpec) (c : OpenClaim) => laidOutB P) Tryz.prog 3 Tryz.f3 Rows.x86BackSpec Rows.x86BackRow = true := by kernel_rfl
theorem fact2 : (fun (P : Program) (f : FuncId) (fn : Func) (s : ChangeSpec) (c : OpenClaim) => mapsRowed P) Tryz.prog 3 Tryz.f3 Rows.x86BackSpec Rows.x86BackRow = true := by kernel_rfl
theorem fact3 : (fun (P : Program) (f : FuncId) (fn : Func) (s : ChangeSpec) (c : OpenClaim) => fn.params.all (P.readableRec ·)) Tryz.prog 3 Tryz.f3 Rows.x86BackSpec Rows.x86BackRow = true := by kernel_rfl
theorem fact4 : (fun (P : Program) (f : FuncId) (fn : Func) (s : ChangeSpec) (c : OpenClaim) => namedTie P c.named s.vars) Tryz.prog 3 Tryz.f3 Rows.x86BackSpec Rows.x86BackRow = true := by kernel_rfl
theorem fact5 : (fun (P : Program) (f : FuncId) (fn : Func) (s : ChangeSpec) (c : OpenClaim) => (c.stops == [])) Tryz.prog 3 Tryz.f3 Rows.x86BackSpec Rows.x86BackRow = true := by kernel_rfl
theorem fact6 : (fun (P : Program) (f : FuncId) (fn : Func) (s : ChangeSpec) (c : OpenClaim) => (P.stops == [])) Tryz.prog 3 Tryz.f3 Rows.x86BackSpec Rows.x86BackRow = true := by kernel_rfl
theorem fact7 : (fun (P : Program) (f : FuncId) (fn : Func) (s : ChangeSpec) (c : OpenClaim) => (c.knobs == [])) Tryz.prog 3 Tryz.f3 Rows.x86BackSpec Rows.x86BackRow = true := by kernel_rfl
theorem fact8 : (fun (P : Program) (f : FuncId) (fn : Func) (s : ChangeSpec) (c : OpenClaim) => (P.stopKnobs == [])) Tryz.prog 3 Tryz.f3 Rows.x86BackSpec Rows.x86BackRow = true := by kernel_rfl
theorem fact9 : (fun (P : Program) (f : FuncId) (fn : Func) (s : ChangeSpec) (c : OpenClaim) => (c.inPlace == P.inPlace f)) Tryz.prog 3 Tryz.f3 Rows.x86BackSpec Rows.x86BackRow = true := by kernel_rfl
theorem fact10 : (fun (P : Program) (f : FuncId) (fn : Func) (s : ChangeSpec) (c : OpenClaim) => (c.unfollowed == P.unfollowed f)) Tryz.prog 3 Tryz.f3 Rows.x86BackSpec Rows.x86BackRow = true := by kernel_rfl
theorem fact11 : (fun (P : Program) (f : FuncId) (fn : Func) (s : ChangeSpec) (c : OpenClaim) => (c.recurses == P.recurses f)) Tryz.prog 3 Tryz.f3 Rows.x86BackSpec Rows.x86BackRow = true := by kernel_rfl
theorem fact12 : (fun (P : Program) (f : FuncId) (fn : Func) (s : ChangeSpec) (c : OpenClaim) => (c.named == P.varsNamed f)) Tryz.prog 3 Tryz.f3 Rows.x86BackSpec Rows.x86BackRow = true := by kernel_rfl
theorem fact13 : (fun (P : Program) (f : FuncId) (fn : Func) (s : ChangeSpec) (c : OpenClaim) => (c.maps == (fn.params.toList ++ s.plain.varTypes P).any (P.mapsRec ·))) Tryz.prog 3 Tryz.f3 Rows.x86BackSpec Rows.x86BackRow = true := by kernel_rfl
theorem fact14 : (fun (P : Program) (f : FuncId) (fn : Func) (s : ChangeSpec) (c : OpenClaim) => (c.ifaces == (fn.params.toList ++ s.plain.varTypes P).any (P.ifacesRec ·))) Tryz.prog 3 Tryz.f3 Rows.x86BackSpec Rows.x86BackRow = true := by kernel_rfl
theorem fact15 : (fun (P : Program) (f : FuncId) (fn : Func) (s : ChangeSpec) (c : OpenClaim) => (c.mapsOut == P.mapsAmong fn.resultTypes.toList)) Tryz.prog 3 Tryz.f3 Rows.x86BackSpec Rows.x86BackRow = true := by kernel_rfl
theorem fact16 : (fun (P : Program) (f : FuncId) (fn : Func) (s : ChangeSpec) (c : OpenClaim) => (c.loops == (fn.params.toList ++ s.plain.varTypes P).any (P.loopsFrom ·))) Tryz.prog 3 Tryz.f3 Rows.x86BackSpec Rows.x86BackRow = true := by kernel_rfl
theorem fact17 : (fun (P : Program) (f : FuncId) (fn : Func) (s : ChangeSpec) (c : OpenClaim) => (c.wideKeys == (fn.params.toList ++ s.plain.varTypes P ++ fn.resultTypes.toList).any (P.wideKeysFrom ·))) Tryz.prog 3 Tryz.f3 Rows.x86BackSpec Rows.x86BackRow = true := by kernel_rfl
theorem fact18 : (fun (P : Program) (f : FuncId) (fn : Func) (s : ChangeSpec) (c : OpenClaim) => s.vars.all (P.varReadable ·)) Tryz.prog 3 Tryz.f3 Rows.x86BackSpec Rows.x86BackRow = true := by kernel_rfl
theorem fact19 : (fun (P : Program) (f : FuncId) (fn : Func) (s : ChangeSpec) (c : OpenClaim) => fn.resultTypes.all (fun t => P.readableRec t && decide (t < P.types.size))) Tryz.prog 3 Tryz.f3 Rows.x86BackSpec Rows.x86BackRow = true := by kernel_rfl
theorem fact20 : (fun (P : Program) (f : FuncId) (fn : Func) (s : ChangeSpec) (c : OpenClaim) => (c.ifacesOut == fn.resultTypes.toList.any (P.ifacesRec ·))) Tryz.prog 3 Tryz.f3 Rows.x86BackSpec Rows.x86BackRow = true := by kernel_rfl
theorem fact21 : (fun (P : Program) (f : FuncId) (fn : Func) (s : ChangeSpec) (c : OpenClaim) => (c.loopsOut == fn.resultTypes.toList.any (P.loopsFrom ·))) Tryz.prog 3 Tryz.f3 Rows.x86BackSpec Rows.x86BackRow = true := by kernel_rfl
theorem fact22 : (fun (P : Program) (f : FuncId) (fn : Func) (s : ChangeSpec) (c : OpenClaim) => (c.plainKeys == P.plainKeys)) Tryz.prog 3 Tryz.f3 Rows.x86BackSpec Rows.x86BackRow = true := by kernel_rfl
theorem fact23 : (fun (P : Program) (f : FuncId) (fn : Func) (s : ChangeSpec) (c : OpenClaim) => c.shortTexts.isNone) Tryz.prog 3 Tryz.f3 Rows.x86BackSpec Rows.x86BackRow = true := by kernel_rfl
theorem fact24 : (fun (P : Program) (f : FuncId) (fn : Func) (s : ChangeSpec) (c : OpenClaim) => P.stopsHeard) Tryz.prog 3 Tryz.f3 Rows.x86BackSpec Rows.x86BackRow = true := by kernel_rfl
theorem fact25 : (fun (P : Program) (f : FuncId) (fn : Func) (s : ChangeSpec) (c : OpenClaim) => P.mayEnter) Tryz.prog 3 Tryz.f3 Rows.x86BackSpec Rows.x86BackRow = true := by kernel_rfl
theorem fact26 : (fun (P : Program) (f : FuncId) (fn : Func) (s : ChangeSpec) (c : OpenClaim) => (c.lifted == P.liftsFinal)) Tryz.prog 3 Tryz.f3 Rows.x86BackSpec Rows.x86BackRow = true := by kernel_rfl
theorem fact27 : (fun (P : Program) (f : FuncId) (fn : Func) (s : ChangeSpec) (c : OpenClaim) => (P.make == some c.make)) Tryz.prog 3 Tryz.f3 Rows.x86BackSpec Rows.x86BackRow = true := by kernel_rfl
theorem fact28 : (fun (P : Program) (f : FuncId) (fn : Func) (s : ChangeSpec) (c : OpenClaim) => (c.kinds == (if c.domain.isEmpty then [] else fn.params.toList.map fun t => match P.underlying t with | some (.int k) => some k | _ => none))) Tryz.prog 3 Tryz.f3 Rows.x86BackSpec Rows.x86BackRow = true := by kernel_rfl
theorem fact29 : (fun (P : Program) (f : FuncId) (fn : Func) (s : ChangeSpec) (c : OpenClaim) => (c.pinned == c.pinnedBy)) Tryz.prog 3 Tryz.f3 Rows.x86BackSpec Rows.x86BackRow = true := by kernel_rfl
theorem fact30 : (fun (P : Program) (f : FuncId) (fn : Func) (s : ChangeSpec) (c : OpenClaim) => (c.veiled == (fn.params.toList ++ s.plain.varTypes P ++ fn.resultTypes.toList).any (P.veiledRec ·))) Tryz.prog 3 Tryz.f3 Rows.x86BackSpec Rows.x86BackRow = true := by kernel_rfl
theorem fact31 : (fun (P : Program) (f : FuncId) (fn : Func) (s : ChangeSpec) (c : OpenClaim) => c.veiledFits P fn.params.toList (fn.params.toList ++ s.plain.varTypes P ++ fn.resultTypes.toList)) Tryz.prog 3 Tryz.f3 Rows.x86BackSpec Rows.x86BackRow = true := by kernel_rfl
theorem facts : joinedFacts Tryz.prog 3 Tryz.f3 Rows.x86BackSpec Rows.x86BackRow = true := facts_of fact0 fact1 fact2 fact3 fact4 fact5 fact6 fact7 fact8 fact9 fact10 fact11 fact12 fact13 fact14 fact15 fact16 fact17 fact18 fact19 fact20 fact21 fact22 fact23 fact24 fact25 fact26 fact27 fact28 fact29 fact30 fact31
theorem fnamed : Tryz.prog.funcNamed "belated/belatedlaw5.X86Back" = some 3 := by kernel_rfl
theorem instOk : Tryz.f3.isInstance Tryz.prog Rows.x86BackRow.origin Rows.x86BackRow.targs := of_decide_eq_true (by kernel_rfl)
theorem wrapOk : Tryz.f3.isWrapper Tryz.prog Rows.x86BackRow.wrapper Rows.x86BackRow.mainSum := by
  unfold Func.isWrapper; first | (rw [if_pos (by decide +kernel)]; kernel_rfl) | (rw [if_neg (by decide +kernel)]; exact ⟨rfl, rfl⟩)
theorem x86Back_holds : Rows.X86BackSaid :=
  OpenClaim.holds_of_wide 3 Tryz.f3 rfl rfl rfl rfl rfl rfl rfl ⟨rfl, rfl, rfl, rfl, rfl⟩ rfl rfl rfl rfl rfl fnamed Tryz.func3 facts instOk wrapOk
    (fun os started H enc _ => lifted os started H enc)
theorem wfText : Rows.x86BackRow.wfByText (OpenSpec.ofChange Rows.x86BackSpec) = true := by kernel_rfl
theorem mainOk : Tryz.prog.mainIs = some (true, "ee5e4f0b19a504e36959d0abf6e8593140e78c9cabcc708e7bd1f2ba571561a3".toList) := by kernel_rfl
theorem looksOk : true = Tryz.prog.looks [] := by kernel_rfl
theorem standOk : ([23, 9, 9].all fun u => !Tryz.prog.wantsStandIn u) = true := by kernel_rfl
theorem goesOk : false = Rows.x86BackRow.goesBy Tryz.prog := by kernel_rfl
theorem x86Back_card : Rows.X86BackCardSaid :=
  Claim7.holds_tied_plain_at .later [] [.data, .data, .data, .sentinel, .sentinel, .listed, .data] true (true, "ee5e4f0b19a504e36959d0abf6e8593140e78c9cabcc708e7bd1f2ba571561a3") true
    x86Back_holds (fun _ h => by cases h) wfText (fun _ h => by cases h) x86Back_row_tie rfl ⟨rfl, rfl⟩ mainOk rfl
    (fun f fn hf hfn => by
      obtain rfl : f = 3 := Option.some.inj (fnamed.symm.trans hf) |>.symm
      obtain rfl : fn = Tryz.f3 := (Option.some.inj (Tryz.func3.symm.trans hfn)).symm
      exact ⟨looksOk, fun j t ht => by
        have ht : [23, 9, 9].toArray[j]? = some t := by rw [Tryz.params3] at ht; exact ht
        have hm : t ∈ [23, 9, 9] := by simpa using Array.mem_of_getElem? ht
        exact (show Tryz.prog.wantsStandIn t = false by simpa using List.all_eq_true.1 standOk t hm)⟩)
    goesOk
#print axioms x86Back_card
end Go.Proofs.YthkedcneehdinaaGreatDoor
