/- A part of SX: symbolic and concrete runs of the program, with contracts of functions; lemmas without further conditions. -/
import Derived.OpenShut
import Derived.SizedLaws
import Derived.Lib.LaidTab
import Derived.ProofKit
import Derived.Handed
import Derived.Test.YtlgjjklikbpcoaaGreatDoorYU
set_option linter.unusedVariables false
set_option linter.unusedSimpArgs false
set_option linter.unusedSectionVars false
/- Readers of words: a new reader; names of functions, sizes. -/
set_option linter.unusedVariables false
set_option maxRecDepth 100000
namespace Go.Proofs.YtlgjjklikbpcoaaGreatDoor
namespace SX
open Go Go.Proofs
theorem Cp.row1 {α : Type} {d : α} {n : Nat} {enc : α → List SV} {X : List Value → World → (Value → World → Prop) → Prop} (hX : XMono X) {args : List SV} {H : List SB} {ty : TypeId} {g k : Nat} (hn : n = g + 1) (hw : ∀ x, wdL (enc x) = n) (hok : ∀ x m, OkL m [] (enc x)) {K : SV → List SB → Prop}
    (h : Cp X args H (fun r h => ∃ (xs : List α) (ver : Nat), r = .sl k ver 0 xs.length none 0 ∧ h[k]? = some (.mem ty [.arr xs.length α d n enc xs] ver n) ∧ ver ≠ 0 ∧ ∀ ad cap, K (.imm α d n enc xs (some ad) cap) (h.set k (.gone ver)))) : Cp X args H K := by
  subst hn
  refine ⟨fun C E m w hr ha => hX _ _ _ _ (h.out C E m w hr ha) fun v w' ⟨r, H', E', m', h1, ⟨xs, ver, e, hk, hv, hK⟩, h3, h4, h5⟩ => ?_⟩
  subst e
  have hrep : Rep E' C m' ⟨[.sl k ver 0 xs.length none 0], H'⟩ ⟨#[den E' (.sl k ver 0 xs.length none 0)], []⟩ w' :=
    ⟨rfl, fun q x u hx hu => by
      rcases q with _ | q
      · simp at hx hu; subst hx; subst hu
        exact ⟨h3.1, rfl⟩
      · simp at hx, rfl, h5⟩
  obtain ⟨m2, b, c, e1, e2, e3⟩ := still_base (k := k) hrep hk rfl hv hw hok
  obtain ⟨ad, cap, e4⟩ := still_slot (j := 0) (i := 0) (len := xs.length) e2 e3 rfl hw hok (by simp) (by omega)
  have e5 := e4.sl 0 _ _ rfl rfl
  simp only [List.drop_zero, List.take_length] at e5
  have e6 : Ok m2 (vers (H'.set k (.gone ver))) (.imm α d (g + 1) enc xs (some ad) cap) ∧ den E' (.sl k ver 0 xs.length none 0) = den E' (.imm α d (g + 1) enc xs (some ad) cap) := e5
  exact ⟨_, _, E', m2, h1.trans e6.2, hK ad cap, ⟨e6.1, rfl⟩, h4.trans e1, e4.rel⟩
theorem Cp.nil1 {α : Type} {d : α} {n : Nat} {enc : α → List SV} {X : List Value → World → (Value → World → Prop) → Prop} (hX : XMono X) {args : List SV} {H : List SB} (hw : ∀ x, wdL (enc x) = n) {K : SV → List SB → Prop}
    (h : Cp X args H (fun r h => r = .nils ∧ K (.imm α d n enc [] none 0) h)) : Cp X args H K := by
  refine ⟨fun C E m w hr ha => hX _ _ _ _ (h.out C E m w hr ha) fun v w' ⟨r, H', E', m', h1, ⟨e, hK⟩, h3, h4, h5⟩ => ?_⟩
  subst e
  refine ⟨_, H', E', m', ?_, hK, ⟨?_, rfl⟩, h4, h5⟩
  · rw [h1]; simp [den, wrapV, cells]
  · simp only [Ok]
    exact ⟨Nat.le_refl _, fun hh => absurd rfl hh, hw, fun j hj => absurd hj (Nat.not_lt_zero _)⟩
theorem tok_bytes (n : Nat) (h : n ≤ 100000) : n * 40 ≤ 140737488355328 := by omega
theorem clone_tk (ts : List Tk) (ad : Option Addr) (cap : Nat) (hl : ts.length ≤ 100000) (hn : ad = none → ts = []) : Ctr Tryz.prog 247 [.imm Tk tk0 4 tkenc ts ad cap] [] (fun r h => (∃ ad' cap', r = .imm Tk tk0 4 tkenc ts ad' cap') ∧ ∃ X, h = X) := by
  cases ad with
  | none =>
    obtain rfl := hn rfl
    refine Cp.nil1 (α := Tk) (d := tk0) (n := 4) (enc := tkenc) callX_m tkw ?_
    refine Ctr.enter tabOkF (fn := Tryz.f247) rfl rfl rfl rfl rfl ?_
    refine ⟨fun _ => ?_, fun h => no_tf h⟩
    exact ⟨rfl, ⟨_, _, rfl⟩, _, rfl⟩
  | some ad =>
    refine Cp.row1 (α := Tk) (d := tk0) (enc := tkenc) (n := 4) (g := 3) (k := 1) (ty := 28) callX_m rfl tkw tkok ?_
    refine Ctr.enter tabOkF (fn := Tryz.f247) rfl rfl rfl rfl rfl ?_
    refine ⟨fun h => no_ft h, fun _ => ?_⟩
    refine OpC.yld 1 rfl (yld_app_lit tabOkF rfl rfl rfl rfl rfl rfl rfl rfl (fun E => rfl) (SrcA.imm rfl rfl rfl) (p := 1) rfl Joins.nil (Nat.le_trans hl (by decide)) ?_) (fun d hd => by cases hd; rfl) ?_
    · exact tok_bytes _ hl
    exact ⟨ts, 1, rfl, rfl, by decide, fun ad' cap' => ⟨⟨ad', cap', rfl⟩, _, rfl⟩⟩
theorem clone_tk0 (ts : List Tk) (ad : Option Addr) (cap : Nat) (hl : ts.length ≤ 100000) (hn : ad = none → ts = []) : Ctr Tryz.prog 247 [.imm Tk tk0 4 tkenc ts ad cap] [] (fun r h => (∃ ad' cap', r = .imm Tk tk0 4 tkenc ts ad' cap') ∧ h = []) :=
  (clone_tk ts ad cap hl hn).trim callX_m fun r H1 ⟨⟨a, c, h1⟩, _⟩ => ⟨[], H1, rfl, Nat.le_refl _, trivial, by rw [h1]; rfl, ⟨a, c, h1⟩, rfl⟩
theorem new_w (ts : List Tk) (ad : Option Addr) (cap : Nat) (hl : ts.length ≤ 100000) (hn : ad = none → ts = []) : Ctr Tryz.prog 164 [.imm Tk tk0 4 tkenc ts ad cap] [] (fun r h => r = .ptr 0 1 0 [] ∧ ∃ ad' cap', h = [curB ts ad' cap' 0]) := by
  have key : Ctr Tryz.prog 164 [.imm Tk tk0 4 tkenc ts ad cap] [] (fun r h => r = .ptr 0 1 0 [] ∧ ∃ ad' cap' X, h = curB ts ad' cap' 0 :: X) := by
    refine Ctr.enter tabOkF (fn := Tryz.f164) rfl rfl rfl rfl rfl ?_
    refine OpC.callL rfl rfl rfl rfl [] 0 rfl rfl rfl (clone_tk0 ts ad cap hl hn) rfl rfl rfl rfl trivial rfl (fun r H' hk => ?_) ?_
    · rw [hk.2]; exact ⟨Nat.le_refl _, Nat.le_refl _⟩
    rintro r H' ⟨⟨ad', cap', rfl⟩, rfl⟩
    exact ⟨rfl, ad', cap', [], rfl⟩
  exact key.trim callX_m fun r H1 ⟨h1, ad', cap', X, h2⟩ => ⟨[curB ts ad' cap' 0], X, h2, Nat.zero_le _, ⟨bndCur, trivial⟩, by rw [h1]; rfl, h1, ad', cap', rfl⟩
theorem none_w (op : Int) : CtrV Tryz.prog 207 [.i .i64 op] (.agg (ienc (none_ op))) := by
  refine Ctr.enterV tabOkF (fn := Tryz.f207) rfl rfl rfl rfl rfl rfl ?_
  exact rfl
set_option maxHeartbeats 1000000 in
theorem index6_s (s0 s1 s2 s3 s4 s5 v : List UInt8) : Ctr Tryz.prog 155 [.sl 0 1 0 6 (some 6) 0, .s v] [strB [s0, s1, s2, s3, s4, s5]] (fun r h => r = .i .i64 (idx6 s0 s1 s2 s3 s4 s5 v) ∧ h = [strB [s0, s1, s2, s3, s4, s5]]) := by
  refine Ctr.enterG tabOkF (fn := Tryz.f155) rfl rfl rfl rfl rfl rfl ⟨⟨rfl, rfl, rfl, rfl, rfl, rfl, trivial⟩, trivial⟩ ?_
  refine WpC.loop tabOkF (β := Nat) (fun k => k ≤ 6 ∧ (0 < k → v ≠ s0) ∧ (1 < k → v ≠ s1) ∧ (2 < k → v ≠ s2) ∧ (3 < k → v ≠ s3) ∧ (4 < k → v ≠ s4) ∧ (5 < k → v ≠ s5)) (fun k => [(8, .i .i64 k)]) (fun _ => [strB [s0, s1, s2, s3, s4, s5]]) (fun k => 6 - k) 0 524080 ⟨by decide, fun h => absurd h (by decide), fun h => absurd h (by decide), fun h => absurd h (by decide), fun h => absurd h (by decide), fun h => absurd h (by decide), fun h => absurd h (by decide)⟩ ?_ ?_
  · exact ⟨rfl, ⟨⟨rfl, rfl, rfl⟩, trivial⟩, ⟨[], rfl⟩, ⟨⟨rfl, rfl, rfl, rfl, rfl, rfl, trivial⟩, trivial⟩, rfl⟩
  · rintro k ⟨hk, q0, q1, q2, q3, q4, q5⟩
    rcases (by omega : k = 0 ∨ k = 1 ∨ k = 2 ∨ k = 3 ∨ k = 4 ∨ k = 5 ∨ k = 6) with rfl | rfl | rfl | rfl | rfl | rfl | rfl
    · refine ⟨fun _ => ?_, fun h => absurd h (by decide)⟩
      refine ⟨fun _ => by decide, ?_⟩
      refine ⟨fun h => ?_, fun h => ?_⟩
      · have e : v = s0 := of_decide_eq_true h
        refine ⟨i_cg ?_, _, rfl⟩
        unfold idx6
        rw [if_pos e]
        rfl
      · have e0 : ¬ v = s0 := of_decide_eq_false h
        exact ⟨1, ⟨by decide, fun _ => e0, fun h => absurd h (by decide), fun h => absurd h (by decide), fun h => absurd h (by decide), fun h => absurd h (by decide), fun h => absurd h (by decide)⟩, by decide, rfl, ⟨⟨rfl, rfl, rfl⟩, trivial⟩, ⟨[], rfl⟩, ⟨⟨rfl, rfl, rfl, rfl, rfl, rfl, trivial⟩, trivial⟩, rfl⟩
    · have e0 := q0 (by decide)
      refine ⟨fun _ => ?_, fun h => absurd h (by decide)⟩
      refine ⟨fun _ => by decide, ?_⟩
      refine ⟨fun h => ?_, fun h => ?_⟩
      · have e : v = s1 := of_decide_eq_true h
        refine ⟨i_cg ?_, _, rfl⟩
        unfold idx6
        rw [if_neg e0]
        rw [if_pos e]
        rfl
      · have e1 : ¬ v = s1 := of_decide_eq_false h
        exact ⟨2, ⟨by decide, fun _ => e0, fun _ => e1, fun h => absurd h (by decide), fun h => absurd h (by decide), fun h => absurd h (by decide), fun h => absurd h (by decide)⟩, by decide, rfl, ⟨⟨rfl, rfl, rfl⟩, trivial⟩, ⟨[], rfl⟩, ⟨⟨rfl, rfl, rfl, rfl, rfl, rfl, trivial⟩, trivial⟩, rfl⟩
    · have e0 := q0 (by decide)
      have e1 := q1 (by decide)
      refine ⟨fun _ => ?_, fun h => absurd h (by decide)⟩
      refine ⟨fun _ => by decide, ?_⟩
      refine ⟨fun h => ?_, fun h => ?_⟩
      · have e : v = s2 := of_decide_eq_true h
        refine ⟨i_cg ?_, _, rfl⟩
        unfold idx6
        rw [if_neg e0]
        rw [if_neg e1]
        rw [if_pos e]
        rfl
      · have e2 : ¬ v = s2 := of_decide_eq_false h
        exact ⟨3, ⟨by decide, fun _ => e0, fun _ => e1, fun _ => e2, fun h => absurd h (by decide), fun h => absurd h (by decide), fun h => absurd h (by decide)⟩, by decide, rfl, ⟨⟨rfl, rfl, rfl⟩, trivial⟩, ⟨[], rfl⟩, ⟨⟨rfl, rfl, rfl, rfl, rfl, rfl, trivial⟩, trivial⟩, rfl⟩
    · have e0 := q0 (by decide)
      have e1 := q1 (by decide)
      have e2 := q2 (by decide)
      refine ⟨fun _ => ?_, fun h => absurd h (by decide)⟩
      refine ⟨fun _ => by decide, ?_⟩
      refine ⟨fun h => ?_, fun h => ?_⟩
      · have e : v = s3 := of_decide_eq_true h
        refine ⟨i_cg ?_, _, rfl⟩
        unfold idx6
        rw [if_neg e0]
        rw [if_neg e1]
        rw [if_neg e2]
        rw [if_pos e]
        rfl
      · have e3 : ¬ v = s3 := of_decide_eq_false h
        exact ⟨4, ⟨by decide, fun _ => e0, fun _ => e1, fun _ => e2, fun _ => e3, fun h => absurd h (by decide), fun h => absurd h (by decide)⟩, by decide, rfl, ⟨⟨rfl, rfl, rfl⟩, trivial⟩, ⟨[], rfl⟩, ⟨⟨rfl, rfl, rfl, rfl, rfl, rfl, trivial⟩, trivial⟩, rfl⟩
    · have e0 := q0 (by decide)
      have e1 := q1 (by decide)
      have e2 := q2 (by decide)
      have e3 := q3 (by decide)
      refine ⟨fun _ => ?_, fun h => absurd h (by decide)⟩
      refine ⟨fun _ => by decide, ?_⟩
      refine ⟨fun h => ?_, fun h => ?_⟩
      · have e : v = s4 := of_decide_eq_true h
        refine ⟨i_cg ?_, _, rfl⟩
        unfold idx6
        rw [if_neg e0]
        rw [if_neg e1]
        rw [if_neg e2]
        rw [if_neg e3]
        rw [if_pos e]
        rfl
      · have e4 : ¬ v = s4 := of_decide_eq_false h
        exact ⟨5, ⟨by decide, fun _ => e0, fun _ => e1, fun _ => e2, fun _ => e3, fun _ => e4, fun h => absurd h (by decide)⟩, by decide, rfl, ⟨⟨rfl, rfl, rfl⟩, trivial⟩, ⟨[], rfl⟩, ⟨⟨rfl, rfl, rfl, rfl, rfl, rfl, trivial⟩, trivial⟩, rfl⟩
    · have e0 := q0 (by decide)
      have e1 := q1 (by decide)
      have e2 := q2 (by decide)
      have e3 := q3 (by decide)
      have e4 := q4 (by decide)
      refine ⟨fun _ => ?_, fun h => absurd h (by decide)⟩
      refine ⟨fun _ => by decide, ?_⟩
      refine ⟨fun h => ?_, fun h => ?_⟩
      · have e : v = s5 := of_decide_eq_true h
        refine ⟨i_cg ?_, _, rfl⟩
        unfold idx6
        rw [if_neg e0]
        rw [if_neg e1]
        rw [if_neg e2]
        rw [if_neg e3]
        rw [if_neg e4]
        rw [if_pos e]
        rfl
      · have e5 : ¬ v = s5 := of_decide_eq_false h
        exact ⟨6, ⟨by decide, fun _ => e0, fun _ => e1, fun _ => e2, fun _ => e3, fun _ => e4, fun _ => e5⟩, by decide, rfl, ⟨⟨rfl, rfl, rfl⟩, trivial⟩, ⟨[], rfl⟩, ⟨⟨rfl, rfl, rfl, rfl, rfl, rfl, trivial⟩, trivial⟩, rfl⟩
    · have e0 := q0 (by decide)
      have e1 := q1 (by decide)
      have e2 := q2 (by decide)
      have e3 := q3 (by decide)
      have e4 := q4 (by decide)
      have e5 := q5 (by decide)
      refine ⟨fun h => absurd h (by decide), fun _ => ⟨i_cg ?_, _, rfl⟩⟩
      unfold idx6
      rw [if_neg e0, if_neg e1, if_neg e2, if_neg e3, if_neg e4, if_neg e5]
theorem hasSuf_w (s p : List UInt8) (hs : s.length ≤ 1000000) (hp : p.length ≤ 1000000) : CtrV Tryz.prog 295 [.s s, .s p] (.b (sufB s p)) := by
  refine Ctr.enterV tabOkF (fn := Tryz.f295) rfl rfl rfl rfl rfl rfl ?_
  refine ⟨fun hg => ?_, ?_⟩
  · have hg : (decide ((p.length : Int) ≤ (s.length : Int)) == true) = true := hg
    have hg : (p.length : Int) ≤ (s.length : Int) := by simpa using hg
    show (0 : Int) ≤ IntKind.i64.wrap ((s.length : Int) - (p.length : Int)) ∧ IntKind.i64.wrap ((s.length : Int) - (p.length : Int)) ≤ (s.length : Int)
    rw [w64 (by omega) (by omega)]; omega
  refine b_cg ?_
  show (decide ((p.length : Int) ≤ (s.length : Int)) && decide ((s.take s.length).drop (IntKind.i64.wrap ((s.length : Int) - (p.length : Int))).toNat = p)) = sufB s p
  unfold sufB
  rw [w64 (by omega) (by omega), List.take_length]
  by_cases h : p.length ≤ s.length
  · rw [decide_eq_true h, decide_eq_true (by omega), show ((s.length : Int) - (p.length : Int)).toNat = s.length - p.length by omega]
  · rw [decide_eq_false h, decide_eq_false (by omega)]; rfl
theorem cutSuf0_w (s p : List UInt8) (hs : s.length ≤ 1000000) (hp : p.length ≤ 1000000) : CtrV Tryz.prog 275 [.s s, .s p] (.tup [.s (cutS s p), .b (sufB s p)]) := by
  refine Ctr.enterV tabOkF (fn := Tryz.f275) rfl rfl rfl rfl rfl rfl ?_
  refine OpC.callV rfl rfl rfl rfl rfl rfl rfl (fun _ => hasSuf_w s p hs hp) ?_
  unfold cutS
  cases hb : sufB s p with
  | false =>
    refine ⟨fun _ => ?_, fun h => no_tf h⟩
    exact rfl
  | true =>
    refine ⟨fun h => no_ft h, fun _ => ?_⟩
    have hle : p.length ≤ s.length := by
      unfold sufB at hb
      simp only [Bool.and_eq_true, decide_eq_true_eq] at hb
      exact hb.1
    have e : IntKind.i64.wrap ((s.length : Int) - (p.length : Int)) = ((s.length - p.length : Nat) : Int) := by rw [w64 (by omega) (by omega)]; omega
    refine ⟨fun _ => ?_, ?_⟩
    · show (0 : Int) ≤ IntKind.i64.wrap ((s.length : Int) - (p.length : Int)) ∧ IntKind.i64.wrap ((s.length : Int) - (p.length : Int)) ≤ (s.length : Int)
      rw [e]; omega
    show SV.tup [.s ((s.take (IntKind.i64.wrap ((s.length : Int) - (p.length : Int))).toNat).drop 0), .b true] = _
    rw [e, Int.toNat_natCast, List.drop_zero, if_pos rfl]
theorem cutSuf_w (s p : List UInt8) (hs : s.length ≤ 1000000) (hp : p.length ≤ 1000000) : CtrV Tryz.prog 232 [.s s, .s p] (.tup [.s (cutS s p), .b (sufB s p)]) := by
  refine Ctr.enterV tabOkF (fn := Tryz.f232) rfl rfl rfl rfl rfl rfl ?_
  refine OpC.callV rfl rfl rfl rfl rfl rfl rfl (fun _ => cutSuf0_w s p hs hp) ?_
  exact rfl
set_option maxHeartbeats 1000000 in
theorem size_w (s e0 e1 e2 e3 : List UInt8) (hs : s.length ≤ 1000000) (h0 : e0.length ≤ 1000000) (h1 : e1.length ≤ 1000000) (h2 : e2.length ≤ 1000000) (h3 : e3.length ≤ 1000000) : Ctr Tryz.prog 210 [.s s, .sl 0 1 0 4 (some 4) 0] [strB [e0, e1, e2, e3]] (fun r h => r = .tup [.s (sizP e0 e1 e2 e3 s).1, .i .i64 (sizP e0 e1 e2 e3 s).2] ∧ h = [strB [e0, e1, e2, e3]]) := by
  have hB : BndH 1 [strB [e0, e1, e2, e3]] := ⟨⟨rfl, rfl, rfl, rfl, trivial⟩, trivial⟩
  refine Ctr.enterG tabOkF (fn := Tryz.f210) rfl rfl rfl rfl rfl rfl hB ?_
  refine WpC.loop tabOkF (β := Nat) (fun k => k ≤ 4 ∧ (0 < k → sufB s e0 = false) ∧ (1 < k → sufB s e1 = false) ∧ (2 < k → sufB s e2 = false) ∧ (3 < k → sufB s e3 = false)) (fun k => [(12, .i .i64 k)]) (fun _ => [strB [e0, e1, e2, e3]]) (fun k => 4 - k) 0 (2 ^ 29 - 1 - 3 - 2 ^ 10 - 2 ^ 11) ⟨by decide, fun h => absurd h (by decide), fun h => absurd h (by decide), fun h => absurd h (by decide), fun h => absurd h (by decide)⟩ ?_ ?_
  · exact ⟨rfl, ⟨⟨rfl, rfl, rfl⟩, trivial⟩, ⟨[], rfl⟩, hB, rfl⟩
  · rintro k ⟨hk, q0, q1, q2, q3⟩
    rcases (by omega : k = 0 ∨ k = 1 ∨ k = 2 ∨ k = 3 ∨ k = 4) with rfl | rfl | rfl | rfl | rfl
    · refine ⟨fun _ => ?_, fun h => no_tf h⟩
      refine ⟨fun _ => by decide, ?_⟩
      refine OpC.callV rfl rfl rfl rfl rfl rfl rfl (fun _ => cutSuf_w s e0 hs h0) ?_
      refine ⟨fun h => ?_, fun h => ?_⟩
      · have h : sufB s e0 = true := h
        refine WpC.dr tabOkF mixed 0 ?_
        refine ⟨fun _ => by decide, ?_⟩
        refine ⟨by kernel_rfl, ?_⟩
        refine ⟨?_, _, rfl⟩
        unfold sizP
        rw [if_pos h]
        rfl
      · have f0 : sufB s e0 = false := h
        exact ⟨1, ⟨by decide, fun _ => f0, fun h => absurd h (by decide), fun h => absurd h (by decide), fun h => absurd h (by decide)⟩, by decide, rfl, ⟨⟨rfl, rfl, rfl⟩, trivial⟩, ⟨[], rfl⟩, hB, rfl⟩
    · have f0 := q0 (by decide)
      refine ⟨fun _ => ?_, fun h => no_tf h⟩
      refine ⟨fun _ => by decide, ?_⟩
      refine OpC.callV rfl rfl rfl rfl rfl rfl rfl (fun _ => cutSuf_w s e1 hs h1) ?_
      refine ⟨fun h => ?_, fun h => ?_⟩
      · have h : sufB s e1 = true := h
        refine WpC.dr tabOkF mixed 0 ?_
        refine ⟨fun _ => by decide, ?_⟩
        refine ⟨by kernel_rfl, ?_⟩
        refine ⟨?_, _, rfl⟩
        unfold sizP
        rw [if_neg (by rw [f0]; decide)]
        rw [if_pos h]
        rfl
      · have f1 : sufB s e1 = false := h
        exact ⟨2, ⟨by decide, fun _ => f0, fun _ => f1, fun h => absurd h (by decide), fun h => absurd h (by decide)⟩, by decide, rfl, ⟨⟨rfl, rfl, rfl⟩, trivial⟩, ⟨[], rfl⟩, hB, rfl⟩
    · have f0 := q0 (by decide)
      have f1 := q1 (by decide)
      refine ⟨fun _ => ?_, fun h => no_tf h⟩
      refine ⟨fun _ => by decide, ?_⟩
      refine OpC.callV rfl rfl rfl rfl rfl rfl rfl (fun _ => cutSuf_w s e2 hs h2) ?_
      refine ⟨fun h => ?_, fun h => ?_⟩
      · have h : sufB s e2 = true := h
        refine WpC.dr tabOkF mixed 0 ?_
        refine ⟨fun _ => by decide, ?_⟩
        refine ⟨by kernel_rfl, ?_⟩
        refine ⟨?_, _, rfl⟩
        unfold sizP
        rw [if_neg (by rw [f0]; decide)]
        rw [if_neg (by rw [f1]; decide)]
        rw [if_pos h]
        rfl
      · have f2 : sufB s e2 = false := h
        exact ⟨3, ⟨by decide, fun _ => f0, fun _ => f1, fun _ => f2, fun h => absurd h (by decide)⟩, by decide, rfl, ⟨⟨rfl, rfl, rfl⟩, trivial⟩, ⟨[], rfl⟩, hB, rfl⟩
    · have f0 := q0 (by decide)
      have f1 := q1 (by decide)
      have f2 := q2 (by decide)
      refine ⟨fun _ => ?_, fun h => no_tf h⟩
      refine ⟨fun _ => by decide, ?_⟩
      refine OpC.callV rfl rfl rfl rfl rfl rfl rfl (fun _ => cutSuf_w s e3 hs h3) ?_
      refine ⟨fun h => ?_, fun h => ?_⟩
      · have h : sufB s e3 = true := h
        refine WpC.dr tabOkF mixed 0 ?_
        refine ⟨fun _ => by decide, ?_⟩
        refine ⟨by kernel_rfl, ?_⟩
        refine ⟨?_, _, rfl⟩
        unfold sizP
        rw [if_neg (by rw [f0]; decide)]
        rw [if_neg (by rw [f1]; decide)]
        rw [if_neg (by rw [f2]; decide)]
        rw [if_pos h]
        rfl
      · have f3 : sufB s e3 = false := h
        exact ⟨4, ⟨by decide, fun _ => f0, fun _ => f1, fun _ => f2, fun _ => f3⟩, by decide, rfl, ⟨⟨rfl, rfl, rfl⟩, trivial⟩, ⟨[], rfl⟩, hB, rfl⟩
    · have f0 := q0 (by decide)
      have f1 := q1 (by decide)
      have f2 := q2 (by decide)
      have f3 := q3 (by decide)
      refine ⟨fun h => no_ft h, fun _ => ⟨?_, _, rfl⟩⟩
      unfold sizP
      rw [if_neg (by rw [f0]; decide), if_neg (by rw [f1]; decide), if_neg (by rw [f2]; decide), if_neg (by rw [f3]; decide)]
      rfl
end SX
end Go.Proofs.YtlgjjklikbpcoaaGreatDoor

/- x86: an instruction read. Written by pwg.py. -/
set_option linter.unusedVariables false
set_option maxRecDepth 100000
namespace Go.Proofs.YtlgjjklikbpcoaaGreatDoor
namespace SX
open Go Go.Proofs
variable {c : Rc} {s : RS}
def Rc.put (c : Rc) (lb : List UInt8) : Rc := { c with lb := lb }
def ReadOk (rdF : List Tk → List UInt8 → RS → Rd × RS) (L : Lg) (f : Nat) : Prop :=
  ∀ (c : Rc) (s : RS) (nm : List UInt8), c.L = L → c.lb = [] → Rk c s → nm.length ≤ 100000 → Ctr Tryz.prog f [.ptr 3 1 0 [], .s nm] (hR c s) (fun r h => r = .tup [.agg (ienc (rdF c.ts nm s).1.i), .b (rdF c.ts nm s).1.known] ∧ h = hR (c.put (rdF c.ts nm s).1.lb) (rdF c.ts nm s).2)
end SX
end Go.Proofs.YtlgjjklikbpcoaaGreatDoor

/- An instruction parsed: the program's. Written by pwh.py. -/
set_option linter.unusedVariables false
set_option maxRecDepth 100000
namespace Go.Proofs.YtlgjjklikbpcoaaGreatDoor
namespace SX
open Go Go.Proofs
theorem newReader_w (s0 s1 s2 s3 s4 s5 s6 s7 h : List UInt8) (rd pr : Nat) (ts : List Tk) (ad : Option Addr) (cap : Nat) (hl : ts.length ≤ 100000) (hn : ad = none → ts = []) : Ctr Tryz.prog 84 [.ptr 1 1 0 [], .imm Tk tk0 4 tkenc ts ad cap] [rowS s0 s1 s2 s3 s4 s5 s6 s7, langB h rd pr]
    (fun r h' => r = .ptr 3 1 0 [] ∧ ∃ ad' cap', h' = [rowS s0 s1 s2 s3 s4 s5 s6 s7, langB h rd pr, curB ts ad' cap' 0, rdrB 2 1 [] 0 0]) := by
  have key : Ctr Tryz.prog 84 [.ptr 1 1 0 [], .imm Tk tk0 4 tkenc ts ad cap] [rowS s0 s1 s2 s3 s4 s5 s6 s7, langB h rd pr]
    (fun r h' => r = .ptr 3 1 0 [] ∧ ∃ ad' cap' X, h' = [rowS s0 s1 s2 s3 s4 s5 s6 s7, langB h rd pr, curB ts ad' cap' 0, rdrB 2 1 [] 0 0] ++ X) := by
    refine Ctr.enter tabOkF (fn := Tryz.f84) rfl rfl rfl rfl rfl ?_
    refine OpC.callL rfl rfl rfl rfl [] 1 rfl rfl rfl (new_w ts ad cap hl hn) rfl rfl rfl rfl trivial rfl (fun r H' hk => ?_) ?_
    · obtain ⟨_, a, b, e⟩ := hk; rw [e]; exact ⟨Nat.zero_le _, Nat.le_refl _⟩
    rintro r H' ⟨rfl, ad', cap', rfl⟩
    exact ⟨rfl, ad', cap', [], rfl⟩
  exact key.trim callX_m fun r H1 ⟨h1, ad', cap', X, h2⟩ => ⟨_, X, h2, by show 2 ≤ 4; decide, ⟨⟨rfl, rfl, rfl, rfl, rfl, rfl, rfl, rfl, trivial⟩, ⟨rfl, rfl, rfl, rfl, trivial⟩, bndCur, ⟨rfl, rfl, rfl, rfl, rfl, trivial⟩, trivial⟩, by rw [h1]; rfl, h1, ad', cap', rfl⟩
def ReadRk (rdF : List Tk → List UInt8 → RS → Rd × RS) (L : Lg) : Prop := ∀ (c : Rc) (s : RS) (nm : List UInt8), c.L = L → Rk c s → Rk c (rdF c.ts nm s).2
def prV5 (p : Pr) : SV := .tup [.agg (ienc p.i), .s p.lb, .i .i64 p.e, .i .i64 p.q]
theorem Rk.put {c : Rc} {s : RS} (h : Rk c s) (lb : List UInt8) : Rk (c.put lb) s := ⟨h.p, h.l⟩
set_option maxHeartbeats 4000000 in
theorem lparse_w {rdF : List Tk → List UInt8 → RS → Rd × RS} {L : Lg} {rd pr : Nat} (hread : ReadOk rdF L rd) (hrk : ReadRk rdF L) (ts : List Tk) (ad : Option Addr) (cap : Nat) (hl : ts.length ≤ 100000) (hn : ad = none → ts = []) (hnm : (tkAt ts 0).s.length ≤ 100000) :
    Ctr Tryz.prog 64 [.ptr 1 1 0 [], .imm Tk tk0 4 tkenc ts ad cap] [rowS L.s0 L.s1 L.s2 L.s3 L.s4 L.s5 L.s6 L.s7, langB L.h rd pr] (fun r h' => r = prV5 (parseP rdF ts) ∧ h' = [rowS L.s0 L.s1 L.s2 L.s3 L.s4 L.s5 L.s6 L.s7, langB L.h rd pr]) := by
  have hk0 : ∀ a b, Rk ⟨L, rd, pr, ts, a, b, []⟩ rs0 := fun a b => ⟨Nat.zero_le _, hl⟩
  have hwl : (wordP ts rs0).1.length ≤ 100000 := by
    unfold wordP
    split
    · split
      · exact hnm
      · exact Nat.zero_le _
    · exact Nat.zero_le _
  unfold parseP
  refine Ctr.enterH tabOkF (fn := Tryz.f64) rfl rfl rfl rfl rfl rfl bndLang (Nat.le_refl _) ?_
  refine OpC.callL rfl rfl rfl rfl [0, 1] 2 rfl rfl rfl (newReader_w _ _ _ _ _ _ _ _ _ _ _ ts ad cap hl hn) rfl rfl rfl rfl ⟨rfl, rfl, trivial⟩ rfl (fun r H' hk => ?_) ?_
  · obtain ⟨_, a, b, e⟩ := hk; rw [e]; exact ⟨by show 2 ≤ 4; decide, by show 4 ≤ 4; decide⟩
  rintro r H' ⟨rfl, ad', cap', rfl⟩
  have hk0 := hk0 ad' cap'
  have hk1 : Rk ⟨L, rd, pr, ts, ad', cap', []⟩ (wordP ts rs0).2 := hk0.word
  have hx := hread ⟨L, rd, pr, ts, ad', cap', []⟩ (wordP ts rs0).2 (wordP ts rs0).1 rfl rfl hk1 hwl
  have hk2 : Rk ⟨L, rd, pr, ts, ad', cap', []⟩ (rdF ts (wordP ts rs0).1 (wordP ts rs0).2).2 := hrk ⟨L, rd, pr, ts, ad', cap', []⟩ (wordP ts rs0).2 (wordP ts rs0).1 rfl hk1
  dsimp only at hx
  generalize hX : rdF ts (wordP ts rs0).1 (wordP ts rs0).2 = x at *
  have hk3 : Rk (⟨L, rd, pr, ts, ad', cap', x.1.lb⟩ : Rc) x.2 := hk2.put _
  cases hkn : x.1.known with
  | true =>
    rw [hkn] at hx
    refine OpC.callH rfl rfl rfl rfl [3] rfl (at_ok (ad := ad') (cap := cap') (p := 0) (Nat.zero_le _) hl) rfl rfl rfl rfl ⟨rfl, trivial⟩ rfl ?_
    refine OpC.callH rfl rfl rfl rfl [0, 1, 3, 4] rfl (rword_w (c := ⟨L, rd, pr, ts, ad', cap', []⟩) hk0) rfl rfl rfl rfl ⟨rfl, rfl, rfl, rfl, trivial⟩ rfl ?_
    refine OpC.callH rfl rfl rfl rfl [0, 1, 3, 4] rfl (hx) rfl rfl rfl rfl ⟨rfl, rfl, rfl, rfl, trivial⟩ rfl ?_
    refine ⟨fun h => no_ft h, fun _ => ?_⟩
    refine OpC.callH rfl rfl rfl rfl [3] rfl (left_ok (ad := ad') (cap := cap') (hk3).p hl) rfl rfl rfl rfl ⟨rfl, trivial⟩ rfl ?_
    refine ⟨fun hm => ?_, fun hm => ?_⟩
    · have hm : (0 : Int) < ((ts.length - (x.2).p : Nat) : Int) := of_decide_eq_true hm
      have hm : (x.2).p < ts.length := by omega
      have em : moreF ts (x.2) = failF (x.2) 25 (whF ts (x.2).p) := by unfold moreF; rw [if_pos hm]
      refine OpC.callH rfl rfl rfl rfl [3] rfl (at_ok (ad := ad') (cap := cap') (hk3).p hl) rfl rfl rfl rfl ⟨rfl, trivial⟩ rfl ?_
      refine OpC.callH rfl rfl rfl rfl [0, 1, 3, 4] rfl (rfail_ok (c := (⟨L, rd, pr, ts, ad', cap', x.1.lb⟩ : Rc)) (s := x.2) 25 (whF ts (x.2).p)) rfl rfl rfl rfl ⟨rfl, rfl, rfl, rfl, trivial⟩ rfl ?_
      refine OpC.callV rfl rfl rfl rfl rfl rfl rfl (fun _ => uright_ok x.1.i 0 1) ?_
      refine ⟨fun hr => ?_, fun hr => ?_⟩
      · have hr : rgtF x.1.i 0 1 = 34 := of_decide_eq_true hr
        refine OpC.callH rfl rfl rfl rfl [0, 1, 3, 4] rfl (rfail_ok (c := (⟨L, rd, pr, ts, ad', cap', x.1.lb⟩ : Rc)) (s := failF (x.2) 25 (whF ts (x.2).p)) 34 (whF ts 0)) rfl rfl rfl rfl ⟨rfl, rfl, rfl, rfl, trivial⟩ rfl ?_
        have hP : endP ts (whF ts 0) x = outF x.1 (failF (failF (x.2) 25 (whF ts (x.2).p)) 34 (whF ts 0)) := by unfold endP; dsimp only; rw [show (if x.1.known = true then x.2 else failF x.2 21 (whF ts 0)) = x.2 by rw [hkn]; rfl, em, if_pos hr]
        refine ⟨fun he => ?_, fun he => ?_⟩
        · have he : (!decide ((failF (failF (x.2) 25 (whF ts (x.2).p)) 34 (whF ts 0)).e = 0)) = true := he
          have he : ¬ (failF (failF (x.2) 25 (whF ts (x.2).p)) 34 (whF ts 0)).e = 0 := by simpa using he
          have hO : outF x.1 (failF (failF (x.2) 25 (whF ts (x.2).p)) 34 (whF ts 0)) = ⟨in0, [], (failF (failF (x.2) 25 (whF ts (x.2).p)) 34 (whF ts 0)).e, (failF (failF (x.2) 25 (whF ts (x.2).p)) 34 (whF ts 0)).q⟩ := by unfold outF; rw [if_neg he]
          rw [hP, hO]
          refine WpC.dr tabOkF mixed 0 ?_
          refine ⟨by kernel_rfl, ?_⟩
          exact ⟨rfl, _, rfl⟩
        · have he : (!decide ((failF (failF (x.2) 25 (whF ts (x.2).p)) 34 (whF ts 0)).e = 0)) = false := he
          have he : (failF (failF (x.2) 25 (whF ts (x.2).p)) 34 (whF ts 0)).e = 0 := by simpa using he
          have hO : outF x.1 (failF (failF (x.2) 25 (whF ts (x.2).p)) 34 (whF ts 0)) = ⟨x.1.i, x.1.lb, 0, 0⟩ := by unfold outF; rw [if_pos he]
          rw [hP, hO]
          refine WpC.dr tabOkF mixed 0 ?_
          refine ⟨by kernel_rfl, ?_⟩
          exact ⟨rfl, _, rfl⟩
      · have hr : ¬ rgtF x.1.i 0 1 = 34 := of_decide_eq_false hr
        have hP : endP ts (whF ts 0) x = outF x.1 (failF (x.2) 25 (whF ts (x.2).p)) := by unfold endP; dsimp only; rw [show (if x.1.known = true then x.2 else failF x.2 21 (whF ts 0)) = x.2 by rw [hkn]; rfl, em, if_neg hr]
        refine ⟨fun he => ?_, fun he => ?_⟩
        · have he : (!decide ((failF (x.2) 25 (whF ts (x.2).p)).e = 0)) = true := he
          have he : ¬ (failF (x.2) 25 (whF ts (x.2).p)).e = 0 := by simpa using he
          have hO : outF x.1 (failF (x.2) 25 (whF ts (x.2).p)) = ⟨in0, [], (failF (x.2) 25 (whF ts (x.2).p)).e, (failF (x.2) 25 (whF ts (x.2).p)).q⟩ := by unfold outF; rw [if_neg he]
          rw [hP, hO]
          refine WpC.dr tabOkF mixed 0 ?_
          refine ⟨by kernel_rfl, ?_⟩
          exact ⟨rfl, _, rfl⟩
        · have he : (!decide ((failF (x.2) 25 (whF ts (x.2).p)).e = 0)) = false := he
          have he : (failF (x.2) 25 (whF ts (x.2).p)).e = 0 := by simpa using he
          have hO : outF x.1 (failF (x.2) 25 (whF ts (x.2).p)) = ⟨x.1.i, x.1.lb, 0, 0⟩ := by unfold outF; rw [if_pos he]
          rw [hP, hO]
          refine WpC.dr tabOkF mixed 0 ?_
          refine ⟨by kernel_rfl, ?_⟩
          exact ⟨rfl, _, rfl⟩
    · have hm : ¬ (0 : Int) < ((ts.length - (x.2).p : Nat) : Int) := of_decide_eq_false hm
      have hm : ¬ (x.2).p < ts.length := by omega
      have em : moreF ts (x.2) = x.2 := by unfold moreF; rw [if_neg hm]
      refine OpC.callV rfl rfl rfl rfl rfl rfl rfl (fun _ => uright_ok x.1.i 0 1) ?_
      refine ⟨fun hr => ?_, fun hr => ?_⟩
      · have hr : rgtF x.1.i 0 1 = 34 := of_decide_eq_true hr
        refine OpC.callH rfl rfl rfl rfl [0, 1, 3, 4] rfl (rfail_ok (c := (⟨L, rd, pr, ts, ad', cap', x.1.lb⟩ : Rc)) (s := x.2) 34 (whF ts 0)) rfl rfl rfl rfl ⟨rfl, rfl, rfl, rfl, trivial⟩ rfl ?_
        have hP : endP ts (whF ts 0) x = outF x.1 (failF (x.2) 34 (whF ts 0)) := by unfold endP; dsimp only; rw [show (if x.1.known = true then x.2 else failF x.2 21 (whF ts 0)) = x.2 by rw [hkn]; rfl, em, if_pos hr]
        refine ⟨fun he => ?_, fun he => ?_⟩
        · have he : (!decide ((failF (x.2) 34 (whF ts 0)).e = 0)) = true := he
          have he : ¬ (failF (x.2) 34 (whF ts 0)).e = 0 := by simpa using he
          have hO : outF x.1 (failF (x.2) 34 (whF ts 0)) = ⟨in0, [], (failF (x.2) 34 (whF ts 0)).e, (failF (x.2) 34 (whF ts 0)).q⟩ := by unfold outF; rw [if_neg he]
          rw [hP, hO]
          refine WpC.dr tabOkF mixed 0 ?_
          refine ⟨by kernel_rfl, ?_⟩
          exact ⟨rfl, _, rfl⟩
        · have he : (!decide ((failF (x.2) 34 (whF ts 0)).e = 0)) = false := he
          have he : (failF (x.2) 34 (whF ts 0)).e = 0 := by simpa using he
          have hO : outF x.1 (failF (x.2) 34 (whF ts 0)) = ⟨x.1.i, x.1.lb, 0, 0⟩ := by unfold outF; rw [if_pos he]
          rw [hP, hO]
          refine WpC.dr tabOkF mixed 0 ?_
          refine ⟨by kernel_rfl, ?_⟩
          exact ⟨rfl, _, rfl⟩
      · have hr : ¬ rgtF x.1.i 0 1 = 34 := of_decide_eq_false hr
        have hP : endP ts (whF ts 0) x = outF x.1 (x.2) := by unfold endP; dsimp only; rw [show (if x.1.known = true then x.2 else failF x.2 21 (whF ts 0)) = x.2 by rw [hkn]; rfl, em, if_neg hr]
        refine ⟨fun he => ?_, fun he => ?_⟩
        · have he : (!decide ((x.2).e = 0)) = true := he
          have he : ¬ (x.2).e = 0 := by simpa using he
          have hO : outF x.1 (x.2) = ⟨in0, [], (x.2).e, (x.2).q⟩ := by unfold outF; rw [if_neg he]
          rw [hP, hO]
          refine WpC.dr tabOkF mixed 0 ?_
          refine ⟨by kernel_rfl, ?_⟩
          exact ⟨rfl, _, rfl⟩
        · have he : (!decide ((x.2).e = 0)) = false := he
          have he : (x.2).e = 0 := by simpa using he
          have hO : outF x.1 (x.2) = ⟨x.1.i, x.1.lb, 0, 0⟩ := by unfold outF; rw [if_pos he]
          rw [hP, hO]
          refine WpC.dr tabOkF mixed 0 ?_
          refine ⟨by kernel_rfl, ?_⟩
          exact ⟨rfl, _, rfl⟩
  | false =>
    rw [hkn] at hx
    refine OpC.callH rfl rfl rfl rfl [3] rfl (at_ok (ad := ad') (cap := cap') (p := 0) (Nat.zero_le _) hl) rfl rfl rfl rfl ⟨rfl, trivial⟩ rfl ?_
    refine OpC.callH rfl rfl rfl rfl [0, 1, 3, 4] rfl (rword_w (c := ⟨L, rd, pr, ts, ad', cap', []⟩) hk0) rfl rfl rfl rfl ⟨rfl, rfl, rfl, rfl, trivial⟩ rfl ?_
    refine OpC.callH rfl rfl rfl rfl [0, 1, 3, 4] rfl (hx) rfl rfl rfl rfl ⟨rfl, rfl, rfl, rfl, trivial⟩ rfl ?_
    refine ⟨fun _ => ?_, fun h => no_tf h⟩
    refine OpC.callH rfl rfl rfl rfl [0, 1, 3, 4] rfl (rfail_ok (c := (⟨L, rd, pr, ts, ad', cap', x.1.lb⟩ : Rc)) (s := x.2) 21 (whF ts 0)) rfl rfl rfl rfl ⟨rfl, rfl, rfl, rfl, trivial⟩ rfl ?_
    refine OpC.callH rfl rfl rfl rfl [3] rfl (left_ok (ad := ad') (cap := cap') ((hk3.fail 21 (whF ts 0))).p hl) rfl rfl rfl rfl ⟨rfl, trivial⟩ rfl ?_
    refine ⟨fun hm => ?_, fun hm => ?_⟩
    · have hm : (0 : Int) < ((ts.length - (failF x.2 21 (whF ts 0)).p : Nat) : Int) := of_decide_eq_true hm
      have hm : (failF x.2 21 (whF ts 0)).p < ts.length := by omega
      have em : moreF ts (failF x.2 21 (whF ts 0)) = failF (failF x.2 21 (whF ts 0)) 25 (whF ts (failF x.2 21 (whF ts 0)).p) := by unfold moreF; rw [if_pos hm]
      refine OpC.callH rfl rfl rfl rfl [3] rfl (at_ok (ad := ad') (cap := cap') ((hk3.fail 21 (whF ts 0))).p hl) rfl rfl rfl rfl ⟨rfl, trivial⟩ rfl ?_
      refine OpC.callH rfl rfl rfl rfl [0, 1, 3, 4] rfl (rfail_ok (c := (⟨L, rd, pr, ts, ad', cap', x.1.lb⟩ : Rc)) (s := failF x.2 21 (whF ts 0)) 25 (whF ts (failF x.2 21 (whF ts 0)).p)) rfl rfl rfl rfl ⟨rfl, rfl, rfl, rfl, trivial⟩ rfl ?_
      refine OpC.callV rfl rfl rfl rfl rfl rfl rfl (fun _ => uright_ok x.1.i 0 1) ?_
      refine ⟨fun hr => ?_, fun hr => ?_⟩
      · have hr : rgtF x.1.i 0 1 = 34 := of_decide_eq_true hr
        refine OpC.callH rfl rfl rfl rfl [0, 1, 3, 4] rfl (rfail_ok (c := (⟨L, rd, pr, ts, ad', cap', x.1.lb⟩ : Rc)) (s := failF (failF x.2 21 (whF ts 0)) 25 (whF ts (failF x.2 21 (whF ts 0)).p)) 34 (whF ts 0)) rfl rfl rfl rfl ⟨rfl, rfl, rfl, rfl, trivial⟩ rfl ?_
        have hP : endP ts (whF ts 0) x = outF x.1 (failF (failF (failF x.2 21 (whF ts 0)) 25 (whF ts (failF x.2 21 (whF ts 0)).p)) 34 (whF ts 0)) := by unfold endP; dsimp only; rw [show (if x.1.known = true then x.2 else failF x.2 21 (whF ts 0)) = failF x.2 21 (whF ts 0) by rw [hkn]; rfl, em, if_pos hr]
        refine ⟨fun he => ?_, fun he => ?_⟩
        · have he : (!decide ((failF (failF (failF x.2 21 (whF ts 0)) 25 (whF ts (failF x.2 21 (whF ts 0)).p)) 34 (whF ts 0)).e = 0)) = true := he
          have he : ¬ (failF (failF (failF x.2 21 (whF ts 0)) 25 (whF ts (failF x.2 21 (whF ts 0)).p)) 34 (whF ts 0)).e = 0 := by simpa using he
          have hO : outF x.1 (failF (failF (failF x.2 21 (whF ts 0)) 25 (whF ts (failF x.2 21 (whF ts 0)).p)) 34 (whF ts 0)) = ⟨in0, [], (failF (failF (failF x.2 21 (whF ts 0)) 25 (whF ts (failF x.2 21 (whF ts 0)).p)) 34 (whF ts 0)).e, (failF (failF (failF x.2 21 (whF ts 0)) 25 (whF ts (failF x.2 21 (whF ts 0)).p)) 34 (whF ts 0)).q⟩ := by unfold outF; rw [if_neg he]
          rw [hP, hO]
          refine WpC.dr tabOkF mixed 0 ?_
          refine ⟨by kernel_rfl, ?_⟩
          exact ⟨rfl, _, rfl⟩
        · have he : (!decide ((failF (failF (failF x.2 21 (whF ts 0)) 25 (whF ts (failF x.2 21 (whF ts 0)).p)) 34 (whF ts 0)).e = 0)) = false := he
          have he : (failF (failF (failF x.2 21 (whF ts 0)) 25 (whF ts (failF x.2 21 (whF ts 0)).p)) 34 (whF ts 0)).e = 0 := by simpa using he
          have hO : outF x.1 (failF (failF (failF x.2 21 (whF ts 0)) 25 (whF ts (failF x.2 21 (whF ts 0)).p)) 34 (whF ts 0)) = ⟨x.1.i, x.1.lb, 0, 0⟩ := by unfold outF; rw [if_pos he]
          rw [hP, hO]
          refine WpC.dr tabOkF mixed 0 ?_
          refine ⟨by kernel_rfl, ?_⟩
          exact ⟨rfl, _, rfl⟩
      · have hr : ¬ rgtF x.1.i 0 1 = 34 := of_decide_eq_false hr
        have hP : endP ts (whF ts 0) x = outF x.1 (failF (failF x.2 21 (whF ts 0)) 25 (whF ts (failF x.2 21 (whF ts 0)).p)) := by unfold endP; dsimp only; rw [show (if x.1.known = true then x.2 else failF x.2 21 (whF ts 0)) = failF x.2 21 (whF ts 0) by rw [hkn]; rfl, em, if_neg hr]
        refine ⟨fun he => ?_, fun he => ?_⟩
        · have he : (!decide ((failF (failF x.2 21 (whF ts 0)) 25 (whF ts (failF x.2 21 (whF ts 0)).p)).e = 0)) = true := he
          have he : ¬ (failF (failF x.2 21 (whF ts 0)) 25 (whF ts (failF x.2 21 (whF ts 0)).p)).e = 0 := by simpa using he
          have hO : outF x.1 (failF (failF x.2 21 (whF ts 0)) 25 (whF ts (failF x.2 21 (whF ts 0)).p)) = ⟨in0, [], (failF (failF x.2 21 (whF ts 0)) 25 (whF ts (failF x.2 21 (whF ts 0)).p)).e, (failF (failF x.2 21 (whF ts 0)) 25 (whF ts (failF x.2 21 (whF ts 0)).p)).q⟩ := by unfold outF; rw [if_neg he]
          rw [hP, hO]
          refine WpC.dr tabOkF mixed 0 ?_
          refine ⟨by kernel_rfl, ?_⟩
          exact ⟨rfl, _, rfl⟩
        · have he : (!decide ((failF (failF x.2 21 (whF ts 0)) 25 (whF ts (failF x.2 21 (whF ts 0)).p)).e = 0)) = false := he
          have he : (failF (failF x.2 21 (whF ts 0)) 25 (whF ts (failF x.2 21 (whF ts 0)).p)).e = 0 := by simpa using he
          have hO : outF x.1 (failF (failF x.2 21 (whF ts 0)) 25 (whF ts (failF x.2 21 (whF ts 0)).p)) = ⟨x.1.i, x.1.lb, 0, 0⟩ := by unfold outF; rw [if_pos he]
          rw [hP, hO]
          refine WpC.dr tabOkF mixed 0 ?_
          refine ⟨by kernel_rfl, ?_⟩
          exact ⟨rfl, _, rfl⟩
    · have hm : ¬ (0 : Int) < ((ts.length - (failF x.2 21 (whF ts 0)).p : Nat) : Int) := of_decide_eq_false hm
      have hm : ¬ (failF x.2 21 (whF ts 0)).p < ts.length := by omega
      have em : moreF ts (failF x.2 21 (whF ts 0)) = failF x.2 21 (whF ts 0) := by unfold moreF; rw [if_neg hm]
      refine OpC.callV rfl rfl rfl rfl rfl rfl rfl (fun _ => uright_ok x.1.i 0 1) ?_
      refine ⟨fun hr => ?_, fun hr => ?_⟩
      · have hr : rgtF x.1.i 0 1 = 34 := of_decide_eq_true hr
        refine OpC.callH rfl rfl rfl rfl [0, 1, 3, 4] rfl (rfail_ok (c := (⟨L, rd, pr, ts, ad', cap', x.1.lb⟩ : Rc)) (s := failF x.2 21 (whF ts 0)) 34 (whF ts 0)) rfl rfl rfl rfl ⟨rfl, rfl, rfl, rfl, trivial⟩ rfl ?_
        have hP : endP ts (whF ts 0) x = outF x.1 (failF (failF x.2 21 (whF ts 0)) 34 (whF ts 0)) := by unfold endP; dsimp only; rw [show (if x.1.known = true then x.2 else failF x.2 21 (whF ts 0)) = failF x.2 21 (whF ts 0) by rw [hkn]; rfl, em, if_pos hr]
        refine ⟨fun he => ?_, fun he => ?_⟩
        · have he : (!decide ((failF (failF x.2 21 (whF ts 0)) 34 (whF ts 0)).e = 0)) = true := he
          have he : ¬ (failF (failF x.2 21 (whF ts 0)) 34 (whF ts 0)).e = 0 := by simpa using he
          have hO : outF x.1 (failF (failF x.2 21 (whF ts 0)) 34 (whF ts 0)) = ⟨in0, [], (failF (failF x.2 21 (whF ts 0)) 34 (whF ts 0)).e, (failF (failF x.2 21 (whF ts 0)) 34 (whF ts 0)).q⟩ := by unfold outF; rw [if_neg he]
          rw [hP, hO]
          refine WpC.dr tabOkF mixed 0 ?_
          refine ⟨by kernel_rfl, ?_⟩
          exact ⟨rfl, _, rfl⟩
        · have he : (!decide ((failF (failF x.2 21 (whF ts 0)) 34 (whF ts 0)).e = 0)) = false := he
          have he : (failF (failF x.2 21 (whF ts 0)) 34 (whF ts 0)).e = 0 := by simpa using he
          have hO : outF x.1 (failF (failF x.2 21 (whF ts 0)) 34 (whF ts 0)) = ⟨x.1.i, x.1.lb, 0, 0⟩ := by unfold outF; rw [if_pos he]
          rw [hP, hO]
          refine WpC.dr tabOkF mixed 0 ?_
          refine ⟨by kernel_rfl, ?_⟩
          exact ⟨rfl, _, rfl⟩
      · have hr : ¬ rgtF x.1.i 0 1 = 34 := of_decide_eq_false hr
        have hP : endP ts (whF ts 0) x = outF x.1 (failF x.2 21 (whF ts 0)) := by unfold endP; dsimp only; rw [show (if x.1.known = true then x.2 else failF x.2 21 (whF ts 0)) = failF x.2 21 (whF ts 0) by rw [hkn]; rfl, em, if_neg hr]
        refine ⟨fun he => ?_, fun he => ?_⟩
        · have he : (!decide ((failF x.2 21 (whF ts 0)).e = 0)) = true := he
          have he : ¬ (failF x.2 21 (whF ts 0)).e = 0 := by simpa using he
          have hO : outF x.1 (failF x.2 21 (whF ts 0)) = ⟨in0, [], (failF x.2 21 (whF ts 0)).e, (failF x.2 21 (whF ts 0)).q⟩ := by unfold outF; rw [if_neg he]
          rw [hP, hO]
          refine WpC.dr tabOkF mixed 0 ?_
          refine ⟨by kernel_rfl, ?_⟩
          exact ⟨rfl, _, rfl⟩
        · have he : (!decide ((failF x.2 21 (whF ts 0)).e = 0)) = false := he
          have he : (failF x.2 21 (whF ts 0)).e = 0 := by simpa using he
          have hO : outF x.1 (failF x.2 21 (whF ts 0)) = ⟨x.1.i, x.1.lb, 0, 0⟩ := by unfold outF; rw [if_pos he]
          rw [hP, hO]
          refine WpC.dr tabOkF mixed 0 ?_
          refine ⟨by kernel_rfl, ?_⟩
          exact ⟨rfl, _, rfl⟩
end SX
end Go.Proofs.YtlgjjklikbpcoaaGreatDoor

/- The reference's readers of words: the cursor. -/
set_option linter.unusedVariables false
set_option maxRecDepth 100000
namespace Go.Proofs.YtlgjjklikbpcoaaGreatDoor
namespace SX
open Go Go.Proofs
section
variable (ts : List Tk) (ad : Option Addr) (cap : Nat)
def curQ (p : Nat) : SB := .mem 85 [.imm Tk tk0 4 tkenc ts ad cap, .i .i64 p] 1 0
end
variable {ts : List Tk} {ad : Option Addr} {cap : Nat}
theorem bndQ {M p : Nat} : BndB M (curQ ts ad cap p) := ⟨rfl, rfl, trivial⟩
theorem wpeek_ok {p : Nat} (hp : p ≤ ts.length) : Ctr Tryz.prog 65 [.ptr 0 1 0 []] [curQ ts ad cap p] (fun r h => r = .tup [.agg (tkenc (tkAt ts p)), .b (decide (p < ts.length))] ∧ h = [curQ ts ad cap p]) := by
  refine Ctr.enterH tabOkF (fn := Tryz.f65) rfl rfl rfl rfl rfl rfl ⟨bndQ, trivial⟩ (Nat.le_refl _) ?_
  refine WpC.dr tabOkF mixed 0 ?_
  refine ⟨by kernel_rfl, ?_⟩
  refine ⟨fun h1 => ?_, fun h1 => ?_⟩
  · have h1 : (ts.length : Int) ≤ (p : Int) := of_decide_eq_true h1
    have e1 : tkAt ts p = tk0 := by unfold tkAt; rw [List.getD_eq_getElem?_getD, List.getElem?_eq_none (by omega)]; rfl
    rw [e1, decide_eq_false (by omega)]
    exact ⟨rfl, _, rfl⟩
  · have h1 : ¬ (ts.length : Int) ≤ (p : Int) := of_decide_eq_false h1
    rw [decide_eq_true (by omega)]
    refine WpC.dr tabOkF mixed 0 ?_
    refine ⟨fun _ => ⟨by omega, by omega⟩, ?_⟩
    refine ⟨by kernel_rfl, ?_⟩
    exact ⟨rfl, _, rfl⟩
theorem wnext_ok {p : Nat} (hp : p < ts.length) (hl : ts.length ≤ 100000) : Ctr Tryz.prog 68 [.ptr 0 1 0 []] [curQ ts ad cap p] (fun r h => r = .tup [.agg (tkenc (tkAt ts p)), .b true] ∧ h = [curQ ts ad cap (p + 1)]) := by
  have hk := wpeek_ok (ad := ad) (cap := cap) (p := p) (ts := ts) (by omega)
  rw [decide_eq_true hp] at hk
  have e1 := wfn (ts := ts) (p := p) (by omega) hl
  have eB : curQ ts ad cap (p + 1) = .mem 85 [.imm Tk tk0 4 tkenc ts ad cap, .i .i64 (IntKind.i64.wrap ((p : Int) + 1))] 1 0 := by rw [e1]; rfl
  rw [eB]
  refine Ctr.enterH tabOkF (fn := Tryz.f68) rfl rfl rfl rfl rfl rfl ⟨⟨rfl, rfl, trivial⟩, trivial⟩ (Nat.le_refl _) ?_
  refine OpC.callH rfl rfl rfl rfl [0] rfl hk rfl rfl rfl rfl ⟨rfl, trivial⟩ rfl ?_
  refine ⟨fun _ => ?_, fun h => no_tf h⟩
  exact ⟨rfl, _, rfl⟩
theorem where_ok {p : Nat} (hp : p ≤ ts.length) (hl : ts.length ≤ 100000) : Ctr Tryz.prog 66 [.ptr 0 1 0 []] [curQ ts ad cap p] (fun r h => r = .i .i64 (whF ts p) ∧ h = [curQ ts ad cap p]) := by
  refine Ctr.enterH tabOkF (fn := Tryz.f66) rfl rfl rfl rfl rfl rfl ⟨bndQ, trivial⟩ (Nat.le_refl _) ?_
  refine WpC.dr tabOkF mixed 0 ?_
  refine ⟨by kernel_rfl, ?_⟩
  unfold whF
  refine ⟨fun h1 => ?_, fun h1 => ?_⟩
  · have h1 : (p : Int) < (ts.length : Int) := of_decide_eq_true h1
    rw [if_pos (by omega)]
    refine WpC.dr tabOkF mixed 0 ?_
    refine ⟨fun _ => ⟨by omega, by omega⟩, ?_⟩
    refine ⟨by kernel_rfl, ?_⟩
    exact ⟨rfl, _, rfl⟩
  · have h1 : ¬ (p : Int) < (ts.length : Int) := of_decide_eq_false h1
    rw [if_neg (by omega)]
    refine ⟨fun h2 => ?_, fun h2 => ?_⟩
    · have h2 : (ts.length : Int) = 0 := of_decide_eq_true h2
      rw [if_pos (by omega)]
      exact ⟨rfl, _, rfl⟩
    · have h2 : ¬ (ts.length : Int) = 0 := of_decide_eq_false h2
      rw [if_neg (by omega)]
      have e1 : IntKind.i64.wrap ((ts.length : Int) - 1) = ((ts.length - 1 : Nat) : Int) := by rw [w64 (by omega) (by omega)]; omega
      refine WpC.dr tabOkF mixed 1 ?_
      refine ⟨fun _ => ?_, ?_⟩
      · show (0 : Int) ≤ IntKind.i64.wrap ((ts.length : Int) - 1) ∧ IntKind.i64.wrap ((ts.length : Int) - 1) < (ts.length : Int)
        rw [e1]; omega
      refine ⟨by kernel_rfl, ?_⟩
      refine ⟨i_cg ?_, _, rfl⟩
      show IntKind.i64.wrap ((ts.getD (IntKind.i64.wrap ((ts.length : Int) - 1)).toNat tk0).a + ((ts.getD (IntKind.i64.wrap ((ts.length : Int) - 1)).toNat tk0).s.length : Int)) = _
      rw [e1, Int.toNat_natCast]; rfl
theorem take_inQ {m : List UInt8} {p : Nat} (hlt : p < ts.length) (e0 : IntKind.i64.wrap ((p : Int) + ((0 : Nat) : Int)) = (p : Int)) : (decide ((ts.getD (IntKind.i64.wrap ((p : Int) + ((0 : Nat) : Int))).toNat tk0).k = 2) || (!decide ((ts.getD (IntKind.i64.wrap ((p : Int) + ((0 : Nat) : Int))).toNat tk0).s = m))) = !takeB ts m p := by
  rw [e0, Int.toNat_natCast]
  show (decide ((tkAt ts p).k = 2) || (!decide ((tkAt ts p).s = m))) = _
  unfold takeB
  rw [decide_eq_true hlt]
  cases decide ((tkAt ts p).s = m) <;> cases decide ((tkAt ts p).k = 2) <;> rfl
def oneB (m : List UInt8) : SB := .mem 9 [.s m] 1 1
theorem wtake_ok {m : List UInt8} {p : Nat} {b : Bool} {q : Nat} (hb : takeB ts m p = b) (hq : q = if b then p + 1 else p) (hp : p ≤ ts.length) (hl : ts.length ≤ 100000) : Ctr Tryz.prog 250 [.ptr 0 1 0 [], .sl 1 1 0 1 none 0] [curQ ts ad cap p, oneB m] (fun r h => r = .b b ∧ h = [curQ ts ad cap q, oneB m]) := by
  have e0 : IntKind.i64.wrap ((p : Int) + ((0 : Nat) : Int)) = (p : Int) := w64 (by omega) (by omega)
  have e1 : IntKind.i64.wrap ((p : Int) + 1) = ((p + 1 : Nat) : Int) := wfn hp hl
  have e2 : IntKind.i64.wrap ((ts.length : Int) - (p : Int)) = (ts.length : Int) - (p : Int) := w64 (by omega) (by omega)
  have eB : ∀ x : Int, x = ((p + 1 : Nat) : Int) → .mem 85 [.imm Tk tk0 4 tkenc ts ad cap, .i .i64 x] 1 0 = curQ ts ad cap (p + 1) := fun x h => by rw [h]; rfl
  refine Ctr.enterH tabOkF (fn := Tryz.f250) rfl rfl rfl rfl rfl rfl ⟨bndQ, ⟨rfl, trivial⟩, trivial⟩ (Nat.le_refl _) ?_
  refine WpC.dr tabOkF mixed 0 ?_
  refine ⟨by kernel_rfl, ?_⟩
  refine ⟨fun h1 => ?_, fun h1 => ?_⟩
  · have h1 : IntKind.i64.wrap ((ts.length : Int) - (p : Int)) < 1 := of_decide_eq_true h1
    have hbf : b = false := by
      rw [← hb]; unfold takeB; rw [decide_eq_false (by omega)]; rfl
    subst hbf
    rw [hq]
    exact ⟨rfl, _, rfl⟩
  · have h1 : ¬ IntKind.i64.wrap ((ts.length : Int) - (p : Int)) < 1 := of_decide_eq_false h1
    have hlt : p < ts.length := by omega
    have ht := take_inQ (m := m) hlt e0
    rw [hb] at ht
    refine WpC.loop tabOkF (β := Nat) (fun k => k = 0 ∨ (k = 1 ∧ b = true)) (fun k => [(5, .i .i64 k)]) (fun _ => [curQ ts ad cap p, oneB m]) (fun k => 1 - k) 0 (2 ^ 60 - 1 - 3) (.inl rfl) ?_ ?_
    · exact ⟨rfl, ⟨⟨rfl, rfl, rfl⟩, trivial⟩, ⟨[], rfl⟩, ⟨bndQ, ⟨rfl, trivial⟩, trivial⟩, rfl⟩
    · rintro k (rfl | ⟨rfl, hbt⟩)
      · refine ⟨fun _ => ?_, fun h => no_tf h⟩
        refine WpC.dr tabOkF mixed 1 ?_
        refine ⟨fun _ => ?_, ?_⟩
        · show (0 : Int) ≤ IntKind.i64.wrap ((p : Int) + ((0 : Nat) : Int)) ∧ IntKind.i64.wrap ((p : Int) + ((0 : Nat) : Int)) < (ts.length : Int)
          rw [e0]; omega
        refine ⟨by kernel_rfl, ?_⟩
        refine WpC.dr tabOkF mixed 0 ?_
        refine ⟨fun _ => by decide, ?_⟩
        refine ⟨fun _ => rfl, ?_⟩
        refine ⟨by kernel_rfl, ?_⟩
        refine ⟨fun h2 => ?_, fun h2 => ?_⟩
        · have h2 := ht.symm.trans h2
          have hbf : b = false := by cases b with | false => rfl | true => cases h2
          subst hbf
          rw [hq]
          exact ⟨rfl, _, rfl⟩
        · have h2 := ht.symm.trans h2
          have hbt : b = true := by cases b with | true => rfl | false => cases h2
          exact ⟨1, .inr ⟨rfl, hbt⟩, by decide, rfl, ⟨⟨rfl, rfl, rfl⟩, trivial⟩, ⟨_, rfl⟩, ⟨bndQ, ⟨rfl, trivial⟩, trivial⟩, rfl⟩
      · refine ⟨fun h => no_ft h, fun _ => ?_⟩
        subst hbt
        rw [hq, if_pos rfl]
        refine ⟨rfl, [], ?_⟩
        rw [← eB _ e1]
        rfl
theorem wmark_ok {m : List UInt8} {p : Nat} {b : Bool} {q : Nat} (hb : takeB ts m p = b) (hq : q = if b then p + 1 else p) (hp : p ≤ ts.length) (hl : ts.length ≤ 100000) : Ctr Tryz.prog 169 [.ptr 0 1 0 [], .s m] [curQ ts ad cap p] (fun r h => r = .b b ∧ h = [curQ ts ad cap q]) := by
  refine Ctr.enterH tabOkF (fn := Tryz.f169) rfl rfl rfl rfl rfl rfl ⟨bndQ, trivial⟩ (Nat.le_refl _) ?_
  refine OpC.yld 1 rfl (yld_app_new tabOkF rfl rfl rfl rfl rfl rfl (BaseA.nil rfl) (SrcA.sl rfl rfl rfl rfl (by decide) rfl) (p := 2) rfl (segs' := [.s m]) Joins.nil (by decide) (by decide) (by decide)) (fun d hd => by cases hd; rfl) ?_
  refine OpC.callH rfl rfl rfl rfl [0, 2] rfl (wtake_ok hb hq hp hl) rfl rfl rfl rfl ⟨rfl, rfl, trivial⟩ rfl ?_
  exact ⟨rfl, _, rfl⟩
end SX
end Go.Proofs.YtlgjjklikbpcoaaGreatDoor

/- The reference's readers of words: the reader's small functions. -/
set_option linter.unusedVariables false
set_option maxRecDepth 100000
namespace Go.Proofs.YtlgjjklikbpcoaaGreatDoor
namespace SX
open Go Go.Proofs
structure Qc where
  a : Int
  L : Lg
  ts : List Tk
  ad : Option Addr
  cap : Nat
def rdQ (a e q : Int) : SB := .mem 87 [.i .i64 a, .ptr 0 1 0 [], .i .i64 e, .i .i64 q] 1 0
def hQ (c : Qc) (s : RS) : List SB := [curQ c.ts c.ad c.cap s.p, rdQ c.a s.e s.q]
theorem bndQ2 {c : Qc} {s : RS} : BndH 2 (hQ c s) := ⟨bndQ, ⟨rfl, rfl, rfl, rfl, trivial⟩, trivial⟩
structure Qk (c : Qc) (s : RS) : Prop where
  p : s.p ≤ c.ts.length
  l : c.ts.length ≤ 100000
structure QL (c : Qc) : Prop where
  reg : ∀ v, CtrV Tryz.prog 28 [.i .i64 c.a, .s v] (.i .i64 (c.L.ix v))
  h : (c.a = 1 ∧ c.L.h = [36]) ∨ (c.a = 2 ∧ c.L.h = []) ∨ (c.a = 3 ∧ c.L.h = [35])
variable {c : Qc} {s : RS}
theorem Qk.fail (h : Qk c s) (e q : Int) : Qk c (failF s e q) := by
  unfold failF; split
  · exact ⟨h.p, h.l⟩
  · exact h
theorem Qk.odd (h : Qk c s) (u : Bool) : Qk c (oddR c.ts u s) := by
  unfold oddR
  split
  · split <;> exact h.fail _ _
  · exact h.fail _ _
theorem Qk.go (h : Qk c s) (hl : s.p < c.ts.length) : Qk c (goF s) := ⟨hl, h.l⟩
theorem takeQ_lt {ts : List Tk} {m : List UInt8} {p : Nat} (h : takeB ts m p = true) : p < ts.length := by
  unfold takeB at h
  simp only [Bool.and_eq_true, decide_eq_true_eq] at h
  exact h.1
theorem Qk.mark (h : Qk c s) (m : List UInt8) : Qk c (markR c.ts m s) := by
  unfold markR
  split
  · split
    · rename_i ht; exact h.go (takeQ_lt ht)
    · exact h.odd _
  · exact h
theorem Qk.reg (h : Qk c s) : Qk c (regR c.L c.ts s).2 := by
  unfold regR
  split
  · split
    · rename_i hk; exact h.go (at_lt (by rw [hk.1]; decide))
    · exact h.odd _
  · exact h
theorem Qk.nm (h : Qk c s) (g : Bool) : Qk c (nmR c.ts g s).2 := by
  unfold nmR
  split
  · rename_i hk; exact h.go (at_lt (by rw [hk]; decide))
  · exact h.odd _
theorem Qk.num (h : Qk c s) : Qk c (numR c.ts s).2 := by
  unfold numR
  split
  · split
    · rename_i ht; exact (h.go (takeQ_lt ht)).nm _
    · exact h.nm _
  · exact h
theorem Qk.imm (h : Qk c s) : Qk c (immR c.L c.ts s).2 := by
  unfold immR
  split
  · exact h.num
  · exact (h.mark _).num
theorem Qk.lab (h : Qk c s) : Qk c (labR c.ts s).2 := by
  unfold labR
  split
  · split
    · rename_i hk; exact h.go (at_lt (by rw [hk]; decide))
    · exact h.odd _
  · exact h
theorem qfail_ok (e q : Int) : Ctr Tryz.prog 73 [.ptr 1 1 0 [], .i .i64 e, .i .i64 q] (hQ c s) (fun r h => r = .tup [] ∧ h = hQ c (failF s e q)) := by
  obtain ⟨p, e0, q0⟩ := s
  by_cases he : e0 = 0
  · subst he
    refine Ctr.enterH tabOkF (fn := Tryz.f73) rfl rfl rfl rfl rfl rfl bndQ2 (Nat.le_refl _) ?_
    refine ⟨fun _ => ?_, fun h => no_tf h⟩
    exact ⟨rfl, _, rfl⟩
  · have e1 : failF ⟨p, e0, q0⟩ e q = ⟨p, e0, q0⟩ := fail_dead he e q
    rw [e1]
    refine Ctr.enterH tabOkF (fn := Tryz.f73) rfl rfl rfl rfl rfl rfl bndQ2 (Nat.le_refl _) ?_
    refine ⟨fun h => absurd (of_decide_eq_true h) he, fun _ => ?_⟩
    exact ⟨rfl, _, rfl⟩
theorem qodd_ok (hk : Qk c s) (u : Bool) : Ctr Tryz.prog 67 [.ptr 1 1 0 [], .b u] (hQ c s) (fun r h => r = .tup [] ∧ h = hQ c (oddR c.ts u s)) := by
  refine Ctr.enterH tabOkF (fn := Tryz.f67) rfl rfl rfl rfl rfl rfl bndQ2 (Nat.le_refl _) ?_
  refine OpC.callH rfl rfl rfl rfl [0] rfl (wpeek_ok (ad := c.ad) (cap := c.cap) hk.p) rfl rfl rfl rfl ⟨rfl, trivial⟩ rfl ?_
  unfold oddR
  refine ⟨fun h1 => ?_, fun h1 => ?_⟩
  · have h1 : (!decide (s.p < c.ts.length)) = true := h1
    have h1 : ¬ s.p < c.ts.length := by simpa using h1
    rw [if_neg h1]
    refine OpC.callH rfl rfl rfl rfl [0] rfl (where_ok (ad := c.ad) (cap := c.cap) hk.p hk.l) rfl rfl rfl rfl ⟨rfl, trivial⟩ rfl ?_
    refine OpC.callH rfl rfl rfl rfl [0, 1] rfl (qfail_ok 24 (whF c.ts s.p)) rfl rfl rfl rfl ⟨rfl, rfl, trivial⟩ rfl ?_
    exact ⟨rfl, _, rfl⟩
  · have h1 : (!decide (s.p < c.ts.length)) = false := h1
    have h1 : s.p < c.ts.length := by simpa using h1
    rw [if_pos h1]
    refine ⟨fun h2 => ?_, fun h2 => ?_⟩
    · have h2 : (u && decide ((tkAt c.ts s.p).k = 1)) = true := h2
      rw [if_pos h2]
      refine OpC.callH rfl rfl rfl rfl [0, 1] rfl (qfail_ok 21 (tkAt c.ts s.p).a) rfl rfl rfl rfl ⟨rfl, rfl, trivial⟩ rfl ?_
      exact ⟨rfl, _, rfl⟩
    · have h2 : (u && decide ((tkAt c.ts s.p).k = 1)) = false := h2
      rw [if_neg (by rw [h2]; decide)]
      refine OpC.callH rfl rfl rfl rfl [0, 1] rfl (qfail_ok 22 (tkAt c.ts s.p).a) rfl rfl rfl rfl ⟨rfl, rfl, trivial⟩ rfl ?_
      exact ⟨rfl, _, rfl⟩
theorem qmark_w (hk : Qk c s) (m : List UInt8) : Ctr Tryz.prog 136 [.ptr 1 1 0 [], .s m] (hQ c s) (fun r h => r = .tup [] ∧ h = hQ c (markR c.ts m s)) := by
  obtain ⟨p, e0, q0⟩ := s
  by_cases he : e0 = 0
  · subst he
    unfold markR
    rw [if_pos rfl]
    refine Ctr.enterH tabOkF (fn := Tryz.f136) rfl rfl rfl rfl rfl rfl bndQ2 (Nat.le_refl _) ?_
    refine OpC.open 13 rfl rfl rfl ?_
    refine OpC.open 14 rfl rfl rfl ?_
    refine OpC.guardT tabOkF rfl rfl ?_
    cases hb : takeB c.ts m p with
    | true =>
      refine OpC.callH rfl rfl rfl rfl [0] rfl (wmark_ok (ad := c.ad) (cap := c.cap) (m := m) hb rfl hk.p hk.l) rfl rfl rfl rfl ⟨rfl, trivial⟩ rfl ?_
      refine ⟨fun h => no_ft h, fun _ => ?_⟩
      exact ⟨rfl, _, rfl⟩
    | false =>
      refine OpC.callH rfl rfl rfl rfl [0] rfl (wmark_ok (ad := c.ad) (cap := c.cap) (m := m) hb rfl hk.p hk.l) rfl rfl rfl rfl ⟨rfl, trivial⟩ rfl ?_
      refine ⟨fun _ => ?_, fun h => no_tf h⟩
      refine OpC.callH rfl rfl rfl rfl [0, 1] rfl (qodd_ok (s := ⟨p, 0, q0⟩) hk false) rfl rfl rfl rfl ⟨rfl, rfl, trivial⟩ rfl ?_
      exact ⟨rfl, _, rfl⟩
  · have e1 : markR c.ts m ⟨p, e0, q0⟩ = ⟨p, e0, q0⟩ := by unfold markR; rw [if_neg he]
    rw [e1]
    refine Ctr.enterH tabOkF (fn := Tryz.f136) rfl rfl rfl rfl rfl rfl bndQ2 (Nat.le_refl _) ?_
    have hg : (decide (e0 = 0) == true) = false := by rw [decide_eq_false he]; rfl
    refine OpC.skipG rfl hg (.b false) ?_
    refine ⟨fun h => ?_, fun _ => ⟨rfl, _, rfl⟩⟩
    have h : (decide (e0 = 0) && !false) = true := h
    rw [decide_eq_false he] at h; cases h
theorem qis_w (hk : Qk c s) (m : List UInt8) : Ctr Tryz.prog 139 [.ptr 1 1 0 [], .s m] (hQ c s) (fun r h => r = .b (isR c.ts m s) ∧ h = hQ c s) := by
  have e : isR c.ts m s = (((decide (s.e = 0) && decide (s.p < c.ts.length)) && !decide ((tkAt c.ts s.p).k = 2)) && decide ((tkAt c.ts s.p).s = m)) := by
    unfold isR takeB
    cases decide (s.e = 0) <;> cases decide (s.p < c.ts.length) <;> cases decide ((tkAt c.ts s.p).k = 2) <;> cases decide ((tkAt c.ts s.p).s = m) <;> rfl
  rw [e]
  refine Ctr.enterH tabOkF (fn := Tryz.f139) rfl rfl rfl rfl rfl rfl bndQ2 (Nat.le_refl _) ?_
  refine OpC.callH rfl rfl rfl rfl [0] rfl (wpeek_ok (ad := c.ad) (cap := c.cap) hk.p) rfl rfl rfl rfl ⟨rfl, trivial⟩ rfl ?_
  exact ⟨rfl, _, rfl⟩
theorem qlabel_w (hk : Qk c s) : Ctr Tryz.prog 220 [.ptr 1 1 0 []] (hQ c s) (fun r h => r = .s (labR c.ts s).1 ∧ h = hQ c (labR c.ts s).2) := by
  obtain ⟨p, e0, q0⟩ := s
  have hpk := wpeek_ok (ad := c.ad) (cap := c.cap) hk.p
  by_cases he : e0 = 0
  · subst he
    unfold labR
    rw [if_pos rfl]
    by_cases h1 : (tkAt c.ts p).k = 1
    · have hlt := at_lt (ts := c.ts) (p := p) (by rw [h1]; decide)
      have h1' : (tkAt c.ts (⟨p, 0, q0⟩ : RS).p).k = 1 := h1
      rw [if_pos h1']
      rw [decide_eq_true (show (⟨p, 0, q0⟩ : RS).p < c.ts.length from hlt)] at hpk
      refine Ctr.enterH tabOkF (fn := Tryz.f220) rfl rfl rfl rfl rfl rfl bndQ2 (Nat.le_refl _) ?_
      refine OpC.callH rfl rfl rfl rfl [0] rfl hpk rfl rfl rfl rfl ⟨rfl, trivial⟩ rfl ?_
      refine ⟨fun h => no_ft h, fun _ => ?_⟩
      refine ⟨fun h => ?_, fun _ => ?_⟩
      · have h : (false || (!decide ((tkAt c.ts p).k = 1))) = true := h
        rw [decide_eq_true h1] at h; cases h
      refine OpC.callH rfl rfl rfl rfl [0] rfl (wnext_ok (ad := c.ad) (cap := c.cap) hlt hk.l) rfl rfl rfl rfl ⟨rfl, trivial⟩ rfl ?_
      exact ⟨rfl, _, rfl⟩
    · have h1' : ¬ (tkAt c.ts (⟨p, 0, q0⟩ : RS).p).k = 1 := h1
      rw [if_neg h1']
      refine Ctr.enterH tabOkF (fn := Tryz.f220) rfl rfl rfl rfl rfl rfl bndQ2 (Nat.le_refl _) ?_
      refine OpC.callH rfl rfl rfl rfl [0] rfl hpk rfl rfl rfl rfl ⟨rfl, trivial⟩ rfl ?_
      refine ⟨fun h => no_ft h, fun _ => ?_⟩
      refine ⟨fun _ => ?_, fun h => ?_⟩
      · refine OpC.callH rfl rfl rfl rfl [0, 1] rfl (qodd_ok (s := ⟨p, 0, q0⟩) hk false) rfl rfl rfl rfl ⟨rfl, rfl, trivial⟩ rfl ?_
        exact ⟨rfl, _, rfl⟩
      · have h : ((!decide (p < c.ts.length)) || (!decide ((tkAt c.ts p).k = 1))) = false := h
        rw [decide_eq_false h1, Bool.not_false, Bool.or_true] at h; cases h
  · have e1 : labR c.ts ⟨p, e0, q0⟩ = ([], ⟨p, e0, q0⟩) := by unfold labR; rw [if_neg he]
    rw [e1]
    refine Ctr.enterH tabOkF (fn := Tryz.f220) rfl rfl rfl rfl rfl rfl bndQ2 (Nat.le_refl _) ?_
    refine OpC.callH rfl rfl rfl rfl [0] rfl hpk rfl rfl rfl rfl ⟨rfl, trivial⟩ rfl ?_
    refine ⟨fun _ => ⟨rfl, _, rfl⟩, fun h => ?_⟩
    have h : (!decide (e0 = 0)) = false := h
    rw [decide_eq_false he] at h; cases h
set_option maxHeartbeats 1000000 in
theorem qreg_w (hL : QL c) (hk : Qk c s) : Ctr Tryz.prog 135 [.ptr 1 1 0 []] (hQ c s) (fun r h => r = .i .i64 (regR c.L c.ts s).1 ∧ h = hQ c (regR c.L c.ts s).2) := by
  obtain ⟨p, e0, q0⟩ := s
  have hpk := wpeek_ok (ad := c.ad) (cap := c.cap) hk.p
  have hreg := hL.reg (tkAt c.ts p).s
  by_cases he : e0 = 0
  · subst he
    unfold regR
    rw [if_pos rfl]
    by_cases h1 : (tkAt c.ts p).k = 1 ∧ 0 ≤ c.L.ix (tkAt c.ts p).s
    · have hlt := at_lt (ts := c.ts) (p := p) (by rw [h1.1]; decide)
      have h1' : (tkAt c.ts (⟨p, 0, q0⟩ : RS).p).k = 1 ∧ 0 ≤ c.L.ix (tkAt c.ts (⟨p, 0, q0⟩ : RS).p).s := h1
      rw [if_pos h1']
      rw [decide_eq_true (show (⟨p, 0, q0⟩ : RS).p < c.ts.length from hlt)] at hpk
      refine Ctr.enterH tabOkF (fn := Tryz.f135) rfl rfl rfl rfl rfl rfl bndQ2 (Nat.le_refl _) ?_
      refine OpC.callH rfl rfl rfl rfl [0] rfl hpk rfl rfl rfl rfl ⟨rfl, trivial⟩ rfl ?_
      refine ⟨fun h => no_ft h, fun _ => ?_⟩
      refine WpC.dr tabOkF mixed 0 ?_
      refine OpD.callV rfl rfl rfl rfl rfl rfl rfl (fun _ => hreg) ?_
      refine ⟨by kernel_rfl, ?_⟩
      refine ⟨fun h => ?_, fun _ => ?_⟩
      · have h : ((false || (!decide ((tkAt c.ts p).k = 1))) || decide (c.L.ix (tkAt c.ts p).s < 0)) = true := h
        rw [decide_eq_true h1.1, decide_eq_false (by omega)] at h; cases h
      refine OpC.callH rfl rfl rfl rfl [0] rfl (wnext_ok (ad := c.ad) (cap := c.cap) hlt hk.l) rfl rfl rfl rfl ⟨rfl, trivial⟩ rfl ?_
      refine WpC.dr tabOkF mixed 0 ?_
      refine OpD.callV rfl rfl rfl rfl rfl rfl rfl (fun _ => hreg) ?_
      refine ⟨by kernel_rfl, ?_⟩
      exact ⟨rfl, _, rfl⟩
    · have h1' : ¬ ((tkAt c.ts (⟨p, 0, q0⟩ : RS).p).k = 1 ∧ 0 ≤ c.L.ix (tkAt c.ts (⟨p, 0, q0⟩ : RS).p).s) := h1
      rw [if_neg h1']
      refine Ctr.enterH tabOkF (fn := Tryz.f135) rfl rfl rfl rfl rfl rfl bndQ2 (Nat.le_refl _) ?_
      refine OpC.callH rfl rfl rfl rfl [0] rfl hpk rfl rfl rfl rfl ⟨rfl, trivial⟩ rfl ?_
      refine ⟨fun h => no_ft h, fun _ => ?_⟩
      refine WpC.dr tabOkF mixed 0 ?_
      refine OpD.callV rfl rfl rfl rfl rfl rfl rfl (fun _ => hreg) ?_
      refine ⟨by kernel_rfl, ?_⟩
      refine ⟨fun _ => ?_, fun h => ?_⟩
      · refine OpC.callH rfl rfl rfl rfl [0, 1] rfl (qodd_ok (s := ⟨p, 0, q0⟩) hk true) rfl rfl rfl rfl ⟨rfl, rfl, trivial⟩ rfl ?_
        exact ⟨rfl, _, rfl⟩
      · have h : (((!decide (p < c.ts.length)) || (!decide ((tkAt c.ts p).k = 1))) || decide (c.L.ix (tkAt c.ts p).s < 0)) = false := h
        simp only [Bool.or_eq_false_iff, Bool.not_eq_false', decide_eq_true_eq, decide_eq_false_iff_not] at h
        exact absurd ⟨h.1.2, by omega⟩ h1
  · have e1 : regR c.L c.ts ⟨p, e0, q0⟩ = (-1, ⟨p, e0, q0⟩) := by unfold regR; rw [if_neg he]
    rw [e1]
    refine Ctr.enterH tabOkF (fn := Tryz.f135) rfl rfl rfl rfl rfl rfl bndQ2 (Nat.le_refl _) ?_
    refine OpC.callH rfl rfl rfl rfl [0] rfl hpk rfl rfl rfl rfl ⟨rfl, trivial⟩ rfl ?_
    refine ⟨fun _ => ⟨rfl, _, rfl⟩, fun h => ?_⟩
    have h : (!decide (e0 = 0)) = false := h
    rw [decide_eq_false he] at h; cases h
set_option maxHeartbeats 1000000 in
theorem qnum_w (hk : Qk c s) : Ctr Tryz.prog 218 [.ptr 1 1 0 []] (hQ c s) (fun r h => r = .i .i64 (numR c.ts s).1 ∧ h = hQ c (numR c.ts s).2) := by
  obtain ⟨p, e0, q0⟩ := s
  by_cases he : e0 = 0
  · subst he
    have fin : ∀ (b : Bool) (p' : Nat), takeB c.ts [45] p = b → p' = (if b then p + 1 else p) → numR c.ts ⟨p, 0, q0⟩ = nmR c.ts b ⟨p', 0, q0⟩ → Qk c ⟨p', 0, q0⟩ → Ctr Tryz.prog 218 [.ptr 1 1 0 []] (hQ c ⟨p, 0, q0⟩) (fun r h => r = .i .i64 (numR c.ts ⟨p, 0, q0⟩).1 ∧ h = hQ c (numR c.ts ⟨p, 0, q0⟩).2) := by
      intro b p' hb hp' hn hk2
      rw [hn]
      unfold nmR
      have hpk := wpeek_ok (ad := c.ad) (cap := c.cap) hk2.p
      by_cases h2 : (tkAt c.ts p').k = 2
      · have hlt := at_lt (ts := c.ts) (p := p') (by rw [h2]; decide)
        have h2' : (tkAt c.ts (⟨p', 0, q0⟩ : RS).p).k = 2 := h2
        rw [if_pos h2']
        rw [decide_eq_true (show (⟨p', 0, q0⟩ : RS).p < c.ts.length from hlt)] at hpk
        refine Ctr.enterH tabOkF (fn := Tryz.f218) rfl rfl rfl rfl rfl rfl bndQ2 (Nat.le_refl _) ?_
        refine ⟨fun h => no_ft h, fun _ => ?_⟩
        refine OpC.callH rfl rfl rfl rfl [0] rfl (wmark_ok (ad := c.ad) (cap := c.cap) hb hp' hk.p hk.l) rfl rfl rfl rfl ⟨rfl, trivial⟩ rfl ?_
        refine OpC.callH rfl rfl rfl rfl [0] rfl hpk rfl rfl rfl rfl ⟨rfl, trivial⟩ rfl ?_
        refine ⟨fun h => ?_, fun _ => ?_⟩
        · have h : (false || (!decide ((tkAt c.ts p').k = 2))) = true := h
          rw [decide_eq_true h2] at h; cases h
        refine OpC.callH rfl rfl rfl rfl [0] rfl (wnext_ok (ad := c.ad) (cap := c.cap) hlt hk.l) rfl rfl rfl rfl ⟨rfl, trivial⟩ rfl ?_
        cases b with
        | true =>
          refine ⟨fun _ => ?_, fun h => no_tf h⟩
          exact ⟨rfl, _, rfl⟩
        | false =>
          refine ⟨fun h => no_ft h, fun _ => ?_⟩
          exact ⟨rfl, _, rfl⟩
      · have h2' : ¬ (tkAt c.ts (⟨p', 0, q0⟩ : RS).p).k = 2 := h2
        rw [if_neg h2']
        refine Ctr.enterH tabOkF (fn := Tryz.f218) rfl rfl rfl rfl rfl rfl bndQ2 (Nat.le_refl _) ?_
        refine ⟨fun h => no_ft h, fun _ => ?_⟩
        refine OpC.callH rfl rfl rfl rfl [0] rfl (wmark_ok (ad := c.ad) (cap := c.cap) hb hp' hk.p hk.l) rfl rfl rfl rfl ⟨rfl, trivial⟩ rfl ?_
        refine OpC.callH rfl rfl rfl rfl [0] rfl hpk rfl rfl rfl rfl ⟨rfl, trivial⟩ rfl ?_
        refine ⟨fun _ => ?_, fun h => ?_⟩
        · refine OpC.callH rfl rfl rfl rfl [0, 1] rfl (qodd_ok (s := ⟨p', 0, q0⟩) hk2 false) rfl rfl rfl rfl ⟨rfl, rfl, trivial⟩ rfl ?_
          exact ⟨rfl, _, rfl⟩
        · have h : ((!decide (p' < c.ts.length)) || (!decide ((tkAt c.ts p').k = 2))) = false := h
          rw [decide_eq_false h2, Bool.not_false, Bool.or_true] at h; cases h
    cases hb : takeB c.ts [45] p with
    | true => exact fin true (p + 1) hb rfl (by unfold numR; rw [if_pos rfl]; exact if_pos hb) ⟨takeQ_lt hb, hk.l⟩
    | false => exact fin false p hb rfl (by unfold numR; rw [if_pos rfl]; exact if_neg (by rw [hb]; decide)) hk
  · have e1 : numR c.ts ⟨p, e0, q0⟩ = (0, ⟨p, e0, q0⟩) := by unfold numR; rw [if_neg he]
    rw [e1]
    refine Ctr.enterH tabOkF (fn := Tryz.f218) rfl rfl rfl rfl rfl rfl bndQ2 (Nat.le_refl _) ?_
    refine ⟨fun _ => ⟨rfl, _, rfl⟩, fun h => ?_⟩
    have h : (!decide (e0 = 0)) = false := h
    rw [decide_eq_false he] at h; cases h
theorem qimm_w (hL : QL c) (hk : Qk c s) : Ctr Tryz.prog 138 [.ptr 1 1 0 []] (hQ c s) (fun r h => r = .i .i64 (immR c.L c.ts s).1 ∧ h = hQ c (immR c.L c.ts s).2) := by
  unfold immR
  obtain ⟨a, L, ts, ad, cap⟩ := c
  rcases hL.h with ⟨ha, hh⟩ | ⟨ha, hh⟩ | ⟨ha, hh⟩
  · dsimp only at ha hh; subst ha
    rw [if_neg (by rw [hh]; decide)]
    dsimp only
    rw [hh]
    refine Ctr.enterH tabOkF (fn := Tryz.f138) rfl rfl rfl rfl rfl rfl bndQ2 (Nat.le_refl _) ?_
    refine ⟨fun _ => ?_, fun h => no_tf h⟩
    refine OpC.callH rfl rfl rfl rfl [0, 1] rfl (qmark_w hk [36]) rfl rfl rfl rfl ⟨rfl, rfl, trivial⟩ rfl ?_
    refine ⟨fun h => no_ft h, fun _ => ?_⟩
    refine OpC.callH rfl rfl rfl rfl [0, 1] rfl (qnum_w (hk.mark [36])) rfl rfl rfl rfl ⟨rfl, rfl, trivial⟩ rfl ?_
    exact ⟨rfl, _, rfl⟩
  · dsimp only at ha hh; subst ha
    rw [if_pos hh]
    refine Ctr.enterH tabOkF (fn := Tryz.f138) rfl rfl rfl rfl rfl rfl bndQ2 (Nat.le_refl _) ?_
    refine ⟨fun h => no_ft h, fun _ => ?_⟩
    refine ⟨fun h => no_ft h, fun _ => ?_⟩
    refine OpC.callH rfl rfl rfl rfl [0, 1] rfl (qnum_w hk) rfl rfl rfl rfl ⟨rfl, rfl, trivial⟩ rfl ?_
    exact ⟨rfl, _, rfl⟩
  · dsimp only at ha hh; subst ha
    rw [if_neg (by rw [hh]; decide)]
    dsimp only
    rw [hh]
    refine Ctr.enterH tabOkF (fn := Tryz.f138) rfl rfl rfl rfl rfl rfl bndQ2 (Nat.le_refl _) ?_
    refine ⟨fun h => no_ft h, fun _ => ?_⟩
    refine ⟨fun _ => ?_, fun h => no_tf h⟩
    refine OpC.callH rfl rfl rfl rfl [0, 1] rfl (qmark_w hk [35]) rfl rfl rfl rfl ⟨rfl, rfl, trivial⟩ rfl ?_
    refine OpC.callH rfl rfl rfl rfl [0, 1] rfl (qnum_w (hk.mark [35])) rfl rfl rfl rfl ⟨rfl, rfl, trivial⟩ rfl ?_
    exact ⟨rfl, _, rfl⟩
end SX
end Go.Proofs.YtlgjjklikbpcoaaGreatDoor

/- The reference's readers of words: places of memory, branches, names. Written by qwc.py. -/
set_option linter.unusedVariables false
set_option maxRecDepth 100000
namespace Go.Proofs.YtlgjjklikbpcoaaGreatDoor
namespace SX
open Go Go.Proofs
variable {c : Qc} {s : RS}
def insQ (i : In) : SB := .mem 30 (ienc i) 1 0
def hJ (c : Qc) (s : RS) (i : In) : List SB := [curQ c.ts c.ad c.cap s.p, rdQ c.a s.e s.q, insQ i]
theorem bndJ {c : Qc} {s : RS} {i : In} : BndH 3 (hJ c s i) := ⟨bndQ, ⟨rfl, rfl, rfl, rfl, trivial⟩, ⟨rfl, rfl, rfl, rfl, rfl, rfl, rfl, rfl, rfl, rfl, rfl, rfl, rfl, rfl, rfl, rfl, rfl, trivial⟩, trivial⟩
theorem qloc_w (v : List UInt8) : CtrV Tryz.prog 219 [.s v] (.i .i64 (locI v)) := by
  refine Ctr.enterV tabOkF (fn := Tryz.f219) rfl rfl rfl rfl rfl rfl ?_
  unfold locI
  refine ⟨fun h => ?_, fun h => ?_⟩
  · rw [if_pos (of_decide_eq_true h)]; exact rfl
  rw [if_neg (of_decide_eq_false h)]
  refine ⟨fun h => ?_, fun h => ?_⟩
  · rw [if_pos (of_decide_eq_true h)]; exact rfl
  rw [if_neg (of_decide_eq_false h)]
  refine ⟨fun h => ?_, fun h => ?_⟩
  · rw [if_pos (of_decide_eq_true h)]; exact rfl
  rw [if_neg (of_decide_eq_false h)]; exact rfl
theorem Qk.plus (h : Qk c s) (i : In) : Qk c (plusR c.L c.ts i s).2 := by
  unfold plusR ixR
  split
  · rename_i hk
    have h1 : Qk c (goF s) := h.go (at_lt (by rw [hk]; decide))
    split
    · rename_i ht
      unfold isR at ht
      simp only [Bool.and_eq_true] at ht
      exact (h1.go (takeQ_lt ht.2)).reg
    · exact h1
  · exact h.reg
theorem Qk.mem (h : Qk c s) (i : In) : Qk c (memR c.L c.ts i s).2 := by
  unfold memR
  dsimp only
  have h1 := h.mark [91]
  generalize markR c.ts [91] s = s1 at *
  by_cases hc : s1.e = 0 ∧ ¬ ((tkAt c.ts s1.p).k = 1 ∧ 0 ≤ locI (tkAt c.ts s1.p).s)
  · simp only [if_pos hc, if_neg (odd_e c.ts true s1)]
    exact h1.odd true
  · simp only [if_neg hc]
    split
    · rename_i h0
      have hk : (tkAt c.ts s1.p).k = 1 := by
        by_cases hk : (tkAt c.ts s1.p).k = 1
        · exact hk
        · exact absurd ⟨h0, fun hh => hk hh.1⟩ hc
      have h2 : Qk c (goF s1) := h1.go (at_lt (by rw [hk]; decide))
      refine Qk.mark ?_ _
      split
      · rename_i ht
        unfold isR at ht
        simp only [Bool.and_eq_true] at ht
        exact (h2.go (takeQ_lt ht.2)).plus _
      · exact h2
    · exact h1
set_option maxHeartbeats 2000000 in
theorem qmem_w (hL : QL c) (hk : Qk c s) (i : In) : Ctr Tryz.prog 140 [.ptr 1 1 0 [], .ptr 2 1 0 []] (hJ c s i) (fun r h => r = .tup [] ∧ h = hJ c (memR c.L c.ts i s).2 (memR c.L c.ts i s).1) := by
  obtain ⟨op, dst, a, b, imm, loc, off, ix, sz, fn, acq, wk, rel, pr, su, to, ze⟩ := i
  have hk1 := hk.mark [91]
  have hmk := qmark_w hk [91]
  unfold memR
  dsimp only
  generalize markR c.ts [91] s = s1 at *
  obtain ⟨p, e0, q0⟩ := s1
  dsimp only at hk1 hmk ⊢
  have hpk := wpeek_ok (ad := c.ad) (cap := c.cap) hk1.p
  have hlc := qloc_w (tkAt c.ts p).s
  by_cases he : e0 = 0
  · subst he
    by_cases hc : (tkAt c.ts p).k = 1 ∧ 0 ≤ locI (tkAt c.ts p).s
    · have hlt := at_lt (ts := c.ts) (p := p) (by rw [hc.1]; decide)
      have hcn : ¬ ((0 : Int) = 0 ∧ ¬ ((tkAt c.ts p).k = 1 ∧ 0 ≤ locI (tkAt c.ts p).s)) := fun hh => hh.2 hc
      have em : (if (0 : Int) = 0 ∧ ¬ ((tkAt c.ts p).k = 1 ∧ 0 ≤ locI (tkAt c.ts p).s) then oddR c.ts true ⟨p, 0, q0⟩ else (⟨p, 0, q0⟩ : RS)) = ⟨p, 0, q0⟩ := if_neg hcn
      rw [em, if_pos (show (⟨p, 0, q0⟩ : RS).e = 0 from rfl), show goF (⟨p, 0, q0⟩ : RS) = ⟨p + 1, 0, q0⟩ from rfl]
      rw [decide_eq_true (show (⟨p, 0, q0⟩ : RS).p < c.ts.length from hlt)] at hpk
      have hk2 : Qk c ⟨p + 1, 0, q0⟩ := ⟨hlt, hk1.l⟩
      cases hb : isR c.ts [43] ⟨p + 1, 0, q0⟩ with
      | true =>
        have hb0 : takeB c.ts [43] (p + 1) = true := hb
        have hk3 : Qk c ⟨p + 1 + 1, 0, q0⟩ := ⟨takeQ_lt hb0, hk1.l⟩
        rw [if_pos rfl, show goF (⟨p + 1, 0, q0⟩ : RS) = ⟨p + 1 + 1, 0, q0⟩ from rfl]
        have his := qis_w hk2 [43]
        rw [hb] at his
        have hpk2 := wpeek_ok (ad := c.ad) (cap := c.cap) hk3.p
        unfold plusR
        by_cases h2 : (tkAt c.ts (p + 1 + 1)).k = 2
        · have hlt2 := at_lt (ts := c.ts) (p := p + 1 + 1) (by rw [h2]; decide)
          have hk4 : Qk c ⟨p + 1 + 1 + 1, 0, q0⟩ := ⟨hlt2, hk1.l⟩
          have h2' : (tkAt c.ts (⟨p + 1 + 1, 0, q0⟩ : RS).p).k = 2 := h2
          rw [if_pos h2', show goF (⟨p + 1 + 1, 0, q0⟩ : RS) = ⟨p + 1 + 1 + 1, 0, q0⟩ from rfl]
          rw [decide_eq_true (show (⟨p + 1 + 1, 0, q0⟩ : RS).p < c.ts.length from hlt2)] at hpk2
          have his2 := qis_w hk4 [43]
          cases hb2 : isR c.ts [43] ⟨p + 1 + 1 + 1, 0, q0⟩ with
          | true =>
            have hb3 : takeB c.ts [43] (p + 1 + 1 + 1) = true := hb2
            have hk5 : Qk c ⟨p + 1 + 1 + 1 + 1, 0, q0⟩ := ⟨takeQ_lt hb3, hk1.l⟩
            rw [if_pos rfl, show goF (⟨p + 1 + 1 + 1, 0, q0⟩ : RS) = ⟨p + 1 + 1 + 1 + 1, 0, q0⟩ from rfl]
            rw [hb2] at his2
            unfold ixR
            dsimp only
            refine Ctr.enterH tabOkF (fn := Tryz.f140) rfl rfl rfl rfl rfl rfl bndJ (Nat.le_refl _) ?_
            refine OpC.callH rfl rfl rfl rfl [0, 1] rfl (hmk) rfl rfl rfl rfl ⟨rfl, rfl, trivial⟩ rfl ?_
            refine OpC.callH rfl rfl rfl rfl [0] rfl (hpk) rfl rfl rfl rfl ⟨rfl, trivial⟩ rfl ?_
            refine OpC.callV rfl rfl rfl rfl rfl rfl rfl (fun _ => hlc) ?_
            refine ⟨fun h => ?_, fun _ => ?_⟩
            · have h : (decide ((0 : Int) = 0) && ((false || (!decide ((tkAt c.ts p).k = 1))) || decide (locI (tkAt c.ts p).s < 0))) = true := h
              rw [decide_eq_true hc.1, decide_eq_false (show ¬ locI (tkAt c.ts p).s < 0 by have := hc.2; omega)] at h; exact no_ft h
            refine ⟨fun h => no_ft h, fun _ => ?_⟩
            refine OpC.callH rfl rfl rfl rfl [0] rfl (wnext_ok (ad := c.ad) (cap := c.cap) hlt hk1.l) rfl rfl rfl rfl ⟨rfl, trivial⟩ rfl ?_
            refine OpC.callV rfl rfl rfl rfl rfl rfl rfl (fun _ => hlc) ?_
            refine OpC.callH rfl rfl rfl rfl [0, 1] rfl (his) rfl rfl rfl rfl ⟨rfl, rfl, trivial⟩ rfl ?_
            refine ⟨fun _ => ?_, fun h => no_tf h⟩
            refine OpC.callH rfl rfl rfl rfl [0] rfl (wnext_ok (ad := c.ad) (cap := c.cap) (p := p + 1) (takeQ_lt hb0) hk1.l) rfl rfl rfl rfl ⟨rfl, trivial⟩ rfl ?_
            refine OpC.callH rfl rfl rfl rfl [0] rfl (hpk2) rfl rfl rfl rfl ⟨rfl, trivial⟩ rfl ?_
            refine ⟨fun _ => ?_, fun h => ?_⟩
            rotate_left
            · have h : (true && decide ((tkAt c.ts (p + 1 + 1)).k = 2)) = false := h
              rw [decide_eq_true h2] at h; cases h
            refine OpC.callH rfl rfl rfl rfl [0] rfl (wnext_ok (ad := c.ad) (cap := c.cap) hlt2 hk1.l) rfl rfl rfl rfl ⟨rfl, trivial⟩ rfl ?_
            refine OpC.callH rfl rfl rfl rfl [0, 1] rfl (his2) rfl rfl rfl rfl ⟨rfl, rfl, trivial⟩ rfl ?_
            refine ⟨fun _ => ?_, fun h => no_tf h⟩
            refine OpC.callH rfl rfl rfl rfl [0] rfl (wnext_ok (ad := c.ad) (cap := c.cap) (p := p + 1 + 1 + 1) (takeQ_lt hb3) hk1.l) rfl rfl rfl rfl ⟨rfl, trivial⟩ rfl ?_
            refine OpC.callH rfl rfl rfl rfl [0, 1] rfl (qreg_w hL hk5) rfl rfl rfl rfl ⟨rfl, rfl, trivial⟩ rfl ?_
            refine OpC.callH rfl rfl rfl rfl [0, 1] rfl (qmark_w hk5.reg [93]) rfl rfl rfl rfl ⟨rfl, rfl, trivial⟩ rfl ?_
            exact ⟨rfl, _, rfl⟩
          | false =>
            rw [if_neg (by decide)]
            rw [hb2] at his2
            dsimp only
            refine Ctr.enterH tabOkF (fn := Tryz.f140) rfl rfl rfl rfl rfl rfl bndJ (Nat.le_refl _) ?_
            refine OpC.callH rfl rfl rfl rfl [0, 1] rfl (hmk) rfl rfl rfl rfl ⟨rfl, rfl, trivial⟩ rfl ?_
            refine OpC.callH rfl rfl rfl rfl [0] rfl (hpk) rfl rfl rfl rfl ⟨rfl, trivial⟩ rfl ?_
            refine OpC.callV rfl rfl rfl rfl rfl rfl rfl (fun _ => hlc) ?_
            refine ⟨fun h => ?_, fun _ => ?_⟩
            · have h : (decide ((0 : Int) = 0) && ((false || (!decide ((tkAt c.ts p).k = 1))) || decide (locI (tkAt c.ts p).s < 0))) = true := h
              rw [decide_eq_true hc.1, decide_eq_false (show ¬ locI (tkAt c.ts p).s < 0 by have := hc.2; omega)] at h; exact no_ft h
            refine ⟨fun h => no_ft h, fun _ => ?_⟩
            refine OpC.callH rfl rfl rfl rfl [0] rfl (wnext_ok (ad := c.ad) (cap := c.cap) hlt hk1.l) rfl rfl rfl rfl ⟨rfl, trivial⟩ rfl ?_
            refine OpC.callV rfl rfl rfl rfl rfl rfl rfl (fun _ => hlc) ?_
            refine OpC.callH rfl rfl rfl rfl [0, 1] rfl (his) rfl rfl rfl rfl ⟨rfl, rfl, trivial⟩ rfl ?_
            refine ⟨fun _ => ?_, fun h => no_tf h⟩
            refine OpC.callH rfl rfl rfl rfl [0] rfl (wnext_ok (ad := c.ad) (cap := c.cap) (p := p + 1) (takeQ_lt hb0) hk1.l) rfl rfl rfl rfl ⟨rfl, trivial⟩ rfl ?_
            refine OpC.callH rfl rfl rfl rfl [0] rfl (hpk2) rfl rfl rfl rfl ⟨rfl, trivial⟩ rfl ?_
            refine ⟨fun _ => ?_, fun h => ?_⟩
            rotate_left
            · have h : (true && decide ((tkAt c.ts (p + 1 + 1)).k = 2)) = false := h
              rw [decide_eq_true h2] at h; cases h
            refine OpC.callH rfl rfl rfl rfl [0] rfl (wnext_ok (ad := c.ad) (cap := c.cap) hlt2 hk1.l) rfl rfl rfl rfl ⟨rfl, trivial⟩ rfl ?_
            refine OpC.callH rfl rfl rfl rfl [0, 1] rfl (his2) rfl rfl rfl rfl ⟨rfl, rfl, trivial⟩ rfl ?_
            refine ⟨fun h => no_ft h, fun _ => ?_⟩
            refine OpC.callH rfl rfl rfl rfl [0, 1] rfl (qmark_w hk4 [93]) rfl rfl rfl rfl ⟨rfl, rfl, trivial⟩ rfl ?_
            exact ⟨rfl, _, rfl⟩
        · have h2' : ¬ (tkAt c.ts (⟨p + 1 + 1, 0, q0⟩ : RS).p).k = 2 := h2
          rw [if_neg h2']
          unfold ixR
          dsimp only
          refine Ctr.enterH tabOkF (fn := Tryz.f140) rfl rfl rfl rfl rfl rfl bndJ (Nat.le_refl _) ?_
          refine OpC.callH rfl rfl rfl rfl [0, 1] rfl (hmk) rfl rfl rfl rfl ⟨rfl, rfl, trivial⟩ rfl ?_
          refine OpC.callH rfl rfl rfl rfl [0] rfl (hpk) rfl rfl rfl rfl ⟨rfl, trivial⟩ rfl ?_
          refine OpC.callV rfl rfl rfl rfl rfl rfl rfl (fun _ => hlc) ?_
          refine ⟨fun h => ?_, fun _ => ?_⟩
          · have h : (decide ((0 : Int) = 0) && ((false || (!decide ((tkAt c.ts p).k = 1))) || decide (locI (tkAt c.ts p).s < 0))) = true := h
            rw [decide_eq_true hc.1, decide_eq_false (show ¬ locI (tkAt c.ts p).s < 0 by have := hc.2; omega)] at h; exact no_ft h
          refine ⟨fun h => no_ft h, fun _ => ?_⟩
          refine OpC.callH rfl rfl rfl rfl [0] rfl (wnext_ok (ad := c.ad) (cap := c.cap) hlt hk1.l) rfl rfl rfl rfl ⟨rfl, trivial⟩ rfl ?_
          refine OpC.callV rfl rfl rfl rfl rfl rfl rfl (fun _ => hlc) ?_
          refine OpC.callH rfl rfl rfl rfl [0, 1] rfl (his) rfl rfl rfl rfl ⟨rfl, rfl, trivial⟩ rfl ?_
          refine ⟨fun _ => ?_, fun h => no_tf h⟩
          refine OpC.callH rfl rfl rfl rfl [0] rfl (wnext_ok (ad := c.ad) (cap := c.cap) (p := p + 1) (takeQ_lt hb0) hk1.l) rfl rfl rfl rfl ⟨rfl, trivial⟩ rfl ?_
          refine OpC.callH rfl rfl rfl rfl [0] rfl (hpk2) rfl rfl rfl rfl ⟨rfl, trivial⟩ rfl ?_
          refine ⟨fun h => ?_, fun _ => ?_⟩
          · have h : (decide (p + 1 + 1 < c.ts.length) && decide ((tkAt c.ts (p + 1 + 1)).k = 2)) = true := h
            rw [decide_eq_false h2, Bool.and_false] at h; cases h
          refine OpC.callH rfl rfl rfl rfl [0, 1] rfl (qreg_w hL hk3) rfl rfl rfl rfl ⟨rfl, rfl, trivial⟩ rfl ?_
          refine OpC.callH rfl rfl rfl rfl [0, 1] rfl (qmark_w hk3.reg [93]) rfl rfl rfl rfl ⟨rfl, rfl, trivial⟩ rfl ?_
          exact ⟨rfl, _, rfl⟩
      | false =>
        rw [if_neg (by decide)]
        have his := qis_w hk2 [43]
        rw [hb] at his
        dsimp only
        refine Ctr.enterH tabOkF (fn := Tryz.f140) rfl rfl rfl rfl rfl rfl bndJ (Nat.le_refl _) ?_
        refine OpC.callH rfl rfl rfl rfl [0, 1] rfl (hmk) rfl rfl rfl rfl ⟨rfl, rfl, trivial⟩ rfl ?_
        refine OpC.callH rfl rfl rfl rfl [0] rfl (hpk) rfl rfl rfl rfl ⟨rfl, trivial⟩ rfl ?_
        refine OpC.callV rfl rfl rfl rfl rfl rfl rfl (fun _ => hlc) ?_
        refine ⟨fun h => ?_, fun _ => ?_⟩
        · have h : (decide ((0 : Int) = 0) && ((false || (!decide ((tkAt c.ts p).k = 1))) || decide (locI (tkAt c.ts p).s < 0))) = true := h
          rw [decide_eq_true hc.1, decide_eq_false (show ¬ locI (tkAt c.ts p).s < 0 by have := hc.2; omega)] at h; exact no_ft h
        refine ⟨fun h => no_ft h, fun _ => ?_⟩
        refine OpC.callH rfl rfl rfl rfl [0] rfl (wnext_ok (ad := c.ad) (cap := c.cap) hlt hk1.l) rfl rfl rfl rfl ⟨rfl, trivial⟩ rfl ?_
        refine OpC.callV rfl rfl rfl rfl rfl rfl rfl (fun _ => hlc) ?_
        refine OpC.callH rfl rfl rfl rfl [0, 1] rfl (his) rfl rfl rfl rfl ⟨rfl, rfl, trivial⟩ rfl ?_
        refine ⟨fun h => no_ft h, fun _ => ?_⟩
        refine OpC.callH rfl rfl rfl rfl [0, 1] rfl (qmark_w hk2 [93]) rfl rfl rfl rfl ⟨rfl, rfl, trivial⟩ rfl ?_
        exact ⟨rfl, _, rfl⟩
    · have hcp : (0 : Int) = 0 ∧ ¬ ((tkAt c.ts p).k = 1 ∧ 0 ≤ locI (tkAt c.ts p).s) := ⟨rfl, hc⟩
      have em : (if (0 : Int) = 0 ∧ ¬ ((tkAt c.ts p).k = 1 ∧ 0 ≤ locI (tkAt c.ts p).s) then oddR c.ts true ⟨p, 0, q0⟩ else (⟨p, 0, q0⟩ : RS)) = oddR c.ts true ⟨p, 0, q0⟩ := if_pos hcp
      rw [em, if_neg (odd_e c.ts true ⟨p, 0, q0⟩)]
      have hod : ¬ (oddR c.ts true ⟨p, 0, q0⟩).e = 0 := odd_e c.ts true ⟨p, 0, q0⟩
      refine Ctr.enterH tabOkF (fn := Tryz.f140) rfl rfl rfl rfl rfl rfl bndJ (Nat.le_refl _) ?_
      refine OpC.callH rfl rfl rfl rfl [0, 1] rfl (hmk) rfl rfl rfl rfl ⟨rfl, rfl, trivial⟩ rfl ?_
      refine OpC.callH rfl rfl rfl rfl [0] rfl (hpk) rfl rfl rfl rfl ⟨rfl, trivial⟩ rfl ?_
      refine OpC.callV rfl rfl rfl rfl rfl rfl rfl (fun _ => hlc) ?_
      refine ⟨fun _ => ?_, fun h => ?_⟩
      rotate_left
      · have h : (decide ((0 : Int) = 0) && (((!decide (p < c.ts.length)) || (!decide ((tkAt c.ts p).k = 1))) || decide (locI (tkAt c.ts p).s < 0))) = false := h
        simp only [decide_true, Bool.true_and, Bool.or_eq_false_iff, Bool.not_eq_false', decide_eq_true_eq, decide_eq_false_iff_not] at h; exact absurd ⟨h.1.2, by omega⟩ hc
      refine OpC.callH rfl rfl rfl rfl [0, 1] rfl (qodd_ok (s := ⟨p, 0, q0⟩) hk1 true) rfl rfl rfl rfl ⟨rfl, rfl, trivial⟩ rfl ?_
      refine ⟨fun _ => ?_, fun h => ?_⟩
      rotate_left
      · have h : (!decide ((oddR c.ts true ⟨p, 0, q0⟩).e = 0)) = false := h
        rw [decide_eq_false hod] at h; cases h
      exact ⟨rfl, _, rfl⟩
  · have hcn : ¬ (e0 = 0 ∧ ¬ ((tkAt c.ts p).k = 1 ∧ 0 ≤ locI (tkAt c.ts p).s)) := fun hh => he hh.1
    simp only [if_neg hcn, if_neg he]
    refine Ctr.enterH tabOkF (fn := Tryz.f140) rfl rfl rfl rfl rfl rfl bndJ (Nat.le_refl _) ?_
    refine OpC.callH rfl rfl rfl rfl [0, 1] rfl (hmk) rfl rfl rfl rfl ⟨rfl, rfl, trivial⟩ rfl ?_
    refine OpC.callH rfl rfl rfl rfl [0] rfl (hpk) rfl rfl rfl rfl ⟨rfl, trivial⟩ rfl ?_
    refine OpC.callV rfl rfl rfl rfl rfl rfl rfl (fun _ => hlc) ?_
    refine ⟨fun h => ?_, fun _ => ?_⟩
    · have h : (decide (e0 = 0) && (((!decide (p < c.ts.length)) || (!decide ((tkAt c.ts p).k = 1))) || decide (locI (tkAt c.ts p).s < 0))) = true := h
      rw [decide_eq_false he] at h; cases h
    refine ⟨fun _ => ?_, fun h => ?_⟩
    rotate_left
    · have h : (!decide (e0 = 0)) = false := h
      rw [decide_eq_false he] at h; cases h
    exact ⟨rfl, _, rfl⟩
theorem qbranch_w (hL : QL c) (hk : Qk c s) (i : In) (z : Bool) : Ctr Tryz.prog 141 [.ptr 1 1 0 [], .ptr 2 1 0 [], .b z] (hJ c s i) (fun r h => r = .s (brR c.L c.ts i z s).1.2 ∧ h = hJ c (brR c.L c.ts i z s).2 (brR c.L c.ts i z s).1.1) := by
  obtain ⟨op, dst, a, b, imm, loc, off, ix, sz, fn, acq, wk, rel, pr, su, to, ze⟩ := i
  unfold brR
  dsimp only
  refine Ctr.enterH tabOkF (fn := Tryz.f141) rfl rfl rfl rfl rfl rfl bndJ (Nat.le_refl _) ?_
  refine OpC.callH rfl rfl rfl rfl [0, 1] rfl (qreg_w hL hk) rfl rfl rfl rfl ⟨rfl, rfl, trivial⟩ rfl ?_
  refine OpC.callH rfl rfl rfl rfl [0, 1] rfl (qmark_w hk.reg [44]) rfl rfl rfl rfl ⟨rfl, rfl, trivial⟩ rfl ?_
  refine OpC.callH rfl rfl rfl rfl [0, 1] rfl (qlabel_w (hk.reg.mark [44])) rfl rfl rfl rfl ⟨rfl, rfl, trivial⟩ rfl ?_
  exact ⟨rfl, _, rfl⟩
set_option maxHeartbeats 1000000 in
theorem alu2_w (v : List UInt8) : CtrV Tryz.prog 133 [.i .i64 2, .s v] (.tup [.i .i64 (aluV v).1, .b (aluV v).2]) := by
  refine Ctr.enterV tabOkF (fn := Tryz.f133) rfl rfl rfl rfl rfl rfl ?_
  refine ⟨fun _ => ?_, fun h => no_tf h⟩
  refine ⟨fun h => no_ft h, fun _ => ?_⟩
  refine WpC.loop tabOkF (β := Nat) (fun k => k ≤ 5 ∧ (0 < k → v ≠ [97, 100, 100] ∧ v ≠ [97, 100, 100, 105]) ∧ (1 < k → v ≠ [115, 117, 98] ∧ v ≠ [115, 117, 98, 105]) ∧ (2 < k → v ≠ [120, 111, 114] ∧ v ≠ [120, 111, 114, 105]) ∧ (3 < k → v ≠ [97, 110, 100] ∧ v ≠ [97, 110, 100, 105]) ∧ (4 < k → v ≠ [111, 114] ∧ v ≠ [111, 114, 105])) (fun k => [(7, .i .i64 k)]) (fun _ => [strB [[65, 68, 68], [83, 85, 66], [88, 79, 82], [65, 78, 68], [79, 82]], strB [[97, 100, 100], [115, 117, 98], [120, 111, 114], [97, 110, 100], [111, 114]]]) (fun k => 5 - k) 0 (2 ^ 40 - 1 - 3 - 2 ^ 6) ⟨by decide, fun h => absurd h (by decide), fun h => absurd h (by decide), fun h => absurd h (by decide), fun h => absurd h (by decide), fun h => absurd h (by decide)⟩ ?_ ?_
  · exact ⟨rfl, ⟨⟨rfl, rfl, rfl⟩, trivial⟩, ⟨[], rfl⟩, ⟨⟨rfl, rfl, rfl, rfl, rfl, trivial⟩, ⟨rfl, rfl, rfl, rfl, rfl, trivial⟩, trivial⟩, rfl⟩
  · rintro k ⟨hk, q0, q1, q2, q3, q4⟩
    rcases (by omega : k = 0 ∨ k = 1 ∨ k = 2 ∨ k = 3 ∨ k = 4 ∨ k = 5) with rfl | rfl | rfl | rfl | rfl | rfl
    · refine ⟨fun _ => ?_, fun h => no_tf h⟩
      refine ⟨fun _ => by decide, ?_⟩
      refine ⟨fun h => ?_, fun h => ?_⟩
      · have e : v = [97, 100, 100] := (of_decide_eq_true h : [97, 100, 100] = v).symm
        unfold aluV
        rw [if_pos e]
        rfl
      · have f0 : v ≠ [97, 100, 100] := fun hh => (of_decide_eq_false h : ¬ [97, 100, 100] = v) hh.symm
        refine ⟨fun _ => by decide, ?_⟩
        refine ⟨fun _ => by decide, ?_⟩
        refine ⟨fun h2 => ?_, fun h2 => ?_⟩
        · have h2 : (true && decide ([97, 100, 100, 105] = v)) = true := h2
          have e : v = [97, 100, 100, 105] := (by simpa using h2 : _ = v).symm
          unfold aluV
          rw [if_neg f0, if_pos e]
          rfl
        have h2 : (true && decide ([97, 100, 100, 105] = v)) = false := h2
        have g0 : v ≠ [97, 100, 100, 105] := fun hh => by rw [hh] at h2; exact absurd h2 (by decide)
        have e0 := And.intro f0 g0
        exact ⟨1, ⟨by decide, fun _ => e0, fun h => absurd h (by decide), fun h => absurd h (by decide), fun h => absurd h (by decide), fun h => absurd h (by decide)⟩, by decide, rfl, ⟨⟨rfl, rfl, rfl⟩, trivial⟩, ⟨[], rfl⟩, ⟨⟨rfl, rfl, rfl, rfl, rfl, trivial⟩, ⟨rfl, rfl, rfl, rfl, rfl, trivial⟩, trivial⟩, rfl⟩
    · have e0 := q0 (by decide)
      refine ⟨fun _ => ?_, fun h => no_tf h⟩
      refine ⟨fun _ => by decide, ?_⟩
      refine ⟨fun h => ?_, fun h => ?_⟩
      · have e : v = [115, 117, 98] := (of_decide_eq_true h : [115, 117, 98] = v).symm
        unfold aluV
        rw [if_neg e0.1, if_neg e0.2, if_pos e]
        rfl
      · have f1 : v ≠ [115, 117, 98] := fun hh => (of_decide_eq_false h : ¬ [115, 117, 98] = v) hh.symm
        refine ⟨fun _ => by decide, ?_⟩
        refine ⟨fun _ => by decide, ?_⟩
        refine ⟨fun h2 => ?_, fun h2 => ?_⟩
        · have h2 : (true && decide ([115, 117, 98, 105] = v)) = true := h2
          have e : v = [115, 117, 98, 105] := (by simpa using h2 : _ = v).symm
          unfold aluV
          rw [if_neg e0.1, if_neg e0.2, if_neg f1, if_pos e]
          rfl
        have h2 : (true && decide ([115, 117, 98, 105] = v)) = false := h2
        have g1 : v ≠ [115, 117, 98, 105] := fun hh => by rw [hh] at h2; exact absurd h2 (by decide)
        have e1 := And.intro f1 g1
        exact ⟨2, ⟨by decide, fun _ => e0, fun _ => e1, fun h => absurd h (by decide), fun h => absurd h (by decide), fun h => absurd h (by decide)⟩, by decide, rfl, ⟨⟨rfl, rfl, rfl⟩, trivial⟩, ⟨[], rfl⟩, ⟨⟨rfl, rfl, rfl, rfl, rfl, trivial⟩, ⟨rfl, rfl, rfl, rfl, rfl, trivial⟩, trivial⟩, rfl⟩
    · have e0 := q0 (by decide)
      have e1 := q1 (by decide)
      refine ⟨fun _ => ?_, fun h => no_tf h⟩
      refine ⟨fun _ => by decide, ?_⟩
      refine ⟨fun h => ?_, fun h => ?_⟩
      · have e : v = [120, 111, 114] := (of_decide_eq_true h : [120, 111, 114] = v).symm
        unfold aluV
        rw [if_neg e0.1, if_neg e0.2, if_neg e1.1, if_neg e1.2, if_pos e]
        rfl
      · have f2 : v ≠ [120, 111, 114] := fun hh => (of_decide_eq_false h : ¬ [120, 111, 114] = v) hh.symm
        refine ⟨fun _ => by decide, ?_⟩
        refine ⟨fun _ => by decide, ?_⟩
        refine ⟨fun h2 => ?_, fun h2 => ?_⟩
        · have h2 : (true && decide ([120, 111, 114, 105] = v)) = true := h2
          have e : v = [120, 111, 114, 105] := (by simpa using h2 : _ = v).symm
          unfold aluV
          rw [if_neg e0.1, if_neg e0.2, if_neg e1.1, if_neg e1.2, if_neg f2, if_pos e]
          rfl
        have h2 : (true && decide ([120, 111, 114, 105] = v)) = false := h2
        have g2 : v ≠ [120, 111, 114, 105] := fun hh => by rw [hh] at h2; exact absurd h2 (by decide)
        have e2 := And.intro f2 g2
        exact ⟨3, ⟨by decide, fun _ => e0, fun _ => e1, fun _ => e2, fun h => absurd h (by decide), fun h => absurd h (by decide)⟩, by decide, rfl, ⟨⟨rfl, rfl, rfl⟩, trivial⟩, ⟨[], rfl⟩, ⟨⟨rfl, rfl, rfl, rfl, rfl, trivial⟩, ⟨rfl, rfl, rfl, rfl, rfl, trivial⟩, trivial⟩, rfl⟩
    · have e0 := q0 (by decide)
      have e1 := q1 (by decide)
      have e2 := q2 (by decide)
      refine ⟨fun _ => ?_, fun h => no_tf h⟩
      refine ⟨fun _ => by decide, ?_⟩
      refine ⟨fun h => ?_, fun h => ?_⟩
      · have e : v = [97, 110, 100] := (of_decide_eq_true h : [97, 110, 100] = v).symm
        unfold aluV
        rw [if_neg e0.1, if_neg e0.2, if_neg e1.1, if_neg e1.2, if_neg e2.1, if_neg e2.2, if_pos e]
        rfl
      · have f3 : v ≠ [97, 110, 100] := fun hh => (of_decide_eq_false h : ¬ [97, 110, 100] = v) hh.symm
        refine ⟨fun _ => by decide, ?_⟩
        refine ⟨fun _ => by decide, ?_⟩
        refine ⟨fun h2 => ?_, fun h2 => ?_⟩
        · have h2 : (true && decide ([97, 110, 100, 105] = v)) = true := h2
          have e : v = [97, 110, 100, 105] := (by simpa using h2 : _ = v).symm
          unfold aluV
          rw [if_neg e0.1, if_neg e0.2, if_neg e1.1, if_neg e1.2, if_neg e2.1, if_neg e2.2, if_neg f3, if_pos e]
          rfl
        have h2 : (true && decide ([97, 110, 100, 105] = v)) = false := h2
        have g3 : v ≠ [97, 110, 100, 105] := fun hh => by rw [hh] at h2; exact absurd h2 (by decide)
        have e3 := And.intro f3 g3
        exact ⟨4, ⟨by decide, fun _ => e0, fun _ => e1, fun _ => e2, fun _ => e3, fun h => absurd h (by decide)⟩, by decide, rfl, ⟨⟨rfl, rfl, rfl⟩, trivial⟩, ⟨[], rfl⟩, ⟨⟨rfl, rfl, rfl, rfl, rfl, trivial⟩, ⟨rfl, rfl, rfl, rfl, rfl, trivial⟩, trivial⟩, rfl⟩
    · have e0 := q0 (by decide)
      have e1 := q1 (by decide)
      have e2 := q2 (by decide)
      have e3 := q3 (by decide)
      refine ⟨fun _ => ?_, fun h => no_tf h⟩
      refine ⟨fun _ => by decide, ?_⟩
      refine ⟨fun h => ?_, fun h => ?_⟩
      · have e : v = [111, 114] := (of_decide_eq_true h : [111, 114] = v).symm
        unfold aluV
        rw [if_neg e0.1, if_neg e0.2, if_neg e1.1, if_neg e1.2, if_neg e2.1, if_neg e2.2, if_neg e3.1, if_neg e3.2, if_pos e]
        rfl
      · have f4 : v ≠ [111, 114] := fun hh => (of_decide_eq_false h : ¬ [111, 114] = v) hh.symm
        refine ⟨fun _ => by decide, ?_⟩
        refine ⟨fun _ => by decide, ?_⟩
        refine ⟨fun h2 => ?_, fun h2 => ?_⟩
        · have h2 : (true && decide ([111, 114, 105] = v)) = true := h2
          have e : v = [111, 114, 105] := (by simpa using h2 : _ = v).symm
          unfold aluV
          rw [if_neg e0.1, if_neg e0.2, if_neg e1.1, if_neg e1.2, if_neg e2.1, if_neg e2.2, if_neg e3.1, if_neg e3.2, if_neg f4, if_pos e]
          rfl
        have h2 : (true && decide ([111, 114, 105] = v)) = false := h2
        have g4 : v ≠ [111, 114, 105] := fun hh => by rw [hh] at h2; exact absurd h2 (by decide)
        have e4 := And.intro f4 g4
        exact ⟨5, ⟨by decide, fun _ => e0, fun _ => e1, fun _ => e2, fun _ => e3, fun _ => e4⟩, by decide, rfl, ⟨⟨rfl, rfl, rfl⟩, trivial⟩, ⟨[], rfl⟩, ⟨⟨rfl, rfl, rfl, rfl, rfl, trivial⟩, ⟨rfl, rfl, rfl, rfl, rfl, trivial⟩, trivial⟩, rfl⟩
    · have e0 := q0 (by decide)
      have e1 := q1 (by decide)
      have e2 := q2 (by decide)
      have e3 := q3 (by decide)
      have e4 := q4 (by decide)
      refine ⟨fun h => no_ft h, fun _ => ?_⟩
      unfold aluV
      rw [if_neg e0.1, if_neg e0.2, if_neg e1.1, if_neg e1.2, if_neg e2.1, if_neg e2.2, if_neg e3.1, if_neg e3.2, if_neg e4.1, if_neg e4.2]
      rfl
set_option maxHeartbeats 1000000 in
theorem szd2_w (nm hd : List UInt8) (hn : nm.length ≤ 1000000) (hh : hd.length ≤ 1000000) : CtrV Tryz.prog 134 [.i .i64 2, .s nm, .s hd] (.i .i64 (szdF [98] [104] [119] [100] nm hd)) := by
  refine Ctr.enterV tabOkF (fn := Tryz.f134) rfl rfl rfl rfl rfl rfl ?_
  refine ⟨fun hg => ?_, ?_⟩
  · have hg : (decide ((nm.length : Int) < (hd.length : Int)) == false) = true := hg
    have hg : ¬ (nm.length : Int) < (hd.length : Int) := by simpa using hg
    show (0 : Int) ≤ (hd.length : Int) ∧ (hd.length : Int) ≤ (nm.length : Int)
    omega
  have hpre : (decide ((nm.length : Int) < (hd.length : Int)) || (!decide ((nm.take (hd.length : Int).toNat).drop 0 = hd))) = !pre nm hd := by
    unfold pre
    rw [Int.toNat_natCast]
    by_cases h : (hd.length : Int) ≤ (nm.length : Int)
    · rw [decide_eq_true h, decide_eq_false (by omega)]; rfl
    · rw [decide_eq_false h, decide_eq_true (by omega)]; rfl
  unfold szdF
  refine ⟨fun h => ?_, fun h => ?_⟩
  · have h := hpre.symm.trans h
    rw [if_neg (by intro hh; rw [hh] at h; cases h)]
    exact rfl
  have h := hpre.symm.trans h
  have hp : pre nm hd = true := by simpa using h
  rw [if_pos hp]
  have hle : hd.length ≤ nm.length := pre_len hp
  have hob : (0 : Int) ≤ (hd.length : Int) ∧ (hd.length : Int) ≤ (nm.length : Int) := by omega
  have hW : ((nm.take nm.length).drop (hd.length : Int).toNat) = nm.drop hd.length := by rw [List.take_length]; rfl
  refine ⟨fun _ => ?_, fun h => no_tf h⟩
  refine ⟨fun h => no_ft h, fun _ => ?_⟩
  refine WpC.loop tabOkF (β := Nat) (fun k => k ≤ 4 ∧ (0 < k → nm.drop hd.length ≠ [98]) ∧ (1 < k → nm.drop hd.length ≠ [104]) ∧ (2 < k → nm.drop hd.length ≠ [119]) ∧ (3 < k → nm.drop hd.length ≠ [100])) (fun k => [(8, .i .i64 k)]) (fun _ => [strB [[66], [87], [76], [81]], strB [[98], [104], [119], [100]]]) (fun k => 4 - k) 0 (2 ^ 44 - 1 - 7 - 2 ^ 7) ⟨by decide, fun h => absurd h (by decide), fun h => absurd h (by decide), fun h => absurd h (by decide), fun h => absurd h (by decide)⟩ ?_ ?_
  · exact ⟨rfl, ⟨⟨rfl, rfl, rfl⟩, trivial⟩, ⟨[], rfl⟩, ⟨⟨rfl, rfl, rfl, rfl, trivial⟩, ⟨rfl, rfl, rfl, rfl, trivial⟩, trivial⟩, rfl⟩
  · rintro k ⟨hk, q0, q1, q2, q3⟩
    rcases (by omega : k = 0 ∨ k = 1 ∨ k = 2 ∨ k = 3 ∨ k = 4) with rfl | rfl | rfl | rfl | rfl
    · refine ⟨fun _ => ?_, fun h => no_tf h⟩
      refine WpC.dr tabOkF mixed 0 ?_
      refine ⟨fun _ => hob, ?_⟩
      refine ⟨fun _ => by decide, ?_⟩
      refine ⟨by kernel_rfl, ?_⟩
      refine ⟨fun h => ?_, fun h => ?_⟩
      · have e : ((nm.take nm.length).drop (hd.length : Int).toNat) = [98] := of_decide_eq_true h
        rw [hW] at e
        refine ⟨fun _ => by decide, ?_⟩
        rw [if_pos e]
        rfl
      · have e0 : ¬ ((nm.take nm.length).drop (hd.length : Int).toNat) = [98] := of_decide_eq_false h
        rw [hW] at e0
        exact ⟨1, ⟨by decide, fun _ => e0, fun h => absurd h (by decide), fun h => absurd h (by decide), fun h => absurd h (by decide)⟩, by decide, rfl, ⟨⟨rfl, rfl, rfl⟩, trivial⟩, ⟨[], rfl⟩, ⟨⟨rfl, rfl, rfl, rfl, trivial⟩, ⟨rfl, rfl, rfl, rfl, trivial⟩, trivial⟩, rfl⟩
    · have e0 := q0 (by decide)
      refine ⟨fun _ => ?_, fun h => no_tf h⟩
      refine WpC.dr tabOkF mixed 0 ?_
      refine ⟨fun _ => hob, ?_⟩
      refine ⟨fun _ => by decide, ?_⟩
      refine ⟨by kernel_rfl, ?_⟩
      refine ⟨fun h => ?_, fun h => ?_⟩
      · have e : ((nm.take nm.length).drop (hd.length : Int).toNat) = [104] := of_decide_eq_true h
        rw [hW] at e
        refine ⟨fun _ => by decide, ?_⟩
        rw [if_neg e0, if_pos e]
        rfl
      · have e1 : ¬ ((nm.take nm.length).drop (hd.length : Int).toNat) = [104] := of_decide_eq_false h
        rw [hW] at e1
        exact ⟨2, ⟨by decide, fun _ => e0, fun _ => e1, fun h => absurd h (by decide), fun h => absurd h (by decide)⟩, by decide, rfl, ⟨⟨rfl, rfl, rfl⟩, trivial⟩, ⟨[], rfl⟩, ⟨⟨rfl, rfl, rfl, rfl, trivial⟩, ⟨rfl, rfl, rfl, rfl, trivial⟩, trivial⟩, rfl⟩
    · have e0 := q0 (by decide)
      have e1 := q1 (by decide)
      refine ⟨fun _ => ?_, fun h => no_tf h⟩
      refine WpC.dr tabOkF mixed 0 ?_
      refine ⟨fun _ => hob, ?_⟩
      refine ⟨fun _ => by decide, ?_⟩
      refine ⟨by kernel_rfl, ?_⟩
      refine ⟨fun h => ?_, fun h => ?_⟩
      · have e : ((nm.take nm.length).drop (hd.length : Int).toNat) = [119] := of_decide_eq_true h
        rw [hW] at e
        refine ⟨fun _ => by decide, ?_⟩
        rw [if_neg e0, if_neg e1, if_pos e]
        rfl
      · have e2 : ¬ ((nm.take nm.length).drop (hd.length : Int).toNat) = [119] := of_decide_eq_false h
        rw [hW] at e2
        exact ⟨3, ⟨by decide, fun _ => e0, fun _ => e1, fun _ => e2, fun h => absurd h (by decide)⟩, by decide, rfl, ⟨⟨rfl, rfl, rfl⟩, trivial⟩, ⟨[], rfl⟩, ⟨⟨rfl, rfl, rfl, rfl, trivial⟩, ⟨rfl, rfl, rfl, rfl, trivial⟩, trivial⟩, rfl⟩
    · have e0 := q0 (by decide)
      have e1 := q1 (by decide)
      have e2 := q2 (by decide)
      refine ⟨fun _ => ?_, fun h => no_tf h⟩
      refine WpC.dr tabOkF mixed 0 ?_
      refine ⟨fun _ => hob, ?_⟩
      refine ⟨fun _ => by decide, ?_⟩
      refine ⟨by kernel_rfl, ?_⟩
      refine ⟨fun h => ?_, fun h => ?_⟩
      · have e : ((nm.take nm.length).drop (hd.length : Int).toNat) = [100] := of_decide_eq_true h
        rw [hW] at e
        refine ⟨fun _ => by decide, ?_⟩
        rw [if_neg e0, if_neg e1, if_neg e2, if_pos e]
        rfl
      · have e3 : ¬ ((nm.take nm.length).drop (hd.length : Int).toNat) = [100] := of_decide_eq_false h
        rw [hW] at e3
        exact ⟨4, ⟨by decide, fun _ => e0, fun _ => e1, fun _ => e2, fun _ => e3⟩, by decide, rfl, ⟨⟨rfl, rfl, rfl⟩, trivial⟩, ⟨[], rfl⟩, ⟨⟨rfl, rfl, rfl, rfl, trivial⟩, ⟨rfl, rfl, rfl, rfl, trivial⟩, trivial⟩, rfl⟩
    · have e0 := q0 (by decide)
      have e1 := q1 (by decide)
      have e2 := q2 (by decide)
      have e3 := q3 (by decide)
      refine ⟨fun h => no_ft h, fun _ => ?_⟩
      rw [if_neg e0, if_neg e1, if_neg e2, if_neg e3]
      rfl
end SX
end Go.Proofs.YtlgjjklikbpcoaaGreatDoor

/- The reference's x86, Parse. Written by qwd.py. -/
set_option linter.unusedVariables false
set_option maxRecDepth 100000
namespace Go.Proofs.YtlgjjklikbpcoaaGreatDoor
namespace SX
open Go Go.Proofs
variable {c : Qc} {s : RS}
def QReadOk (rdF : List Tk → List UInt8 → RS → Rd × RS) (L : Lg) (a : Int) (f : Nat) : Prop :=
  ∀ (c : Qc) (s : RS) (nm : List UInt8), c.L = L → c.a = a → QL c → Qk c s → nm.length ≤ 100000 → Ctr Tryz.prog f [.ptr 1 1 0 [], .s nm, .ptr 2 1 0 []] (hJ c s blkI) (fun r h => r = .tup [.b (rdF c.ts nm s).1.known, .s (rdF c.ts nm s).1.lb] ∧ h = hJ c (rdF c.ts nm s).2 (rdF c.ts nm s).1.i)
def QReadRk (rdF : List Tk → List UInt8 → RS → Rd × RS) (L : Lg) : Prop := ∀ (c : Qc) (s : RS) (nm : List UInt8), c.L = L → Qk c s → Qk c (rdF c.ts nm s).2
def prV5r (p : Pr) : SV := .tup [.agg (ienc p.i), .s p.lb, .i .i64 p.e, .i .i64 p.q]
theorem blank_w : CtrV Tryz.prog 69 [] (.agg (ienc blkI)) := by
  refine Ctr.enterV tabOkF (fn := Tryz.f69) rfl rfl rfl rfl rfl rfl ?_
  exact rfl
theorem prV5r_ok (p : Pr) : nm (prV5r p) = true := rfl
end SX
end Go.Proofs.YtlgjjklikbpcoaaGreatDoor

/- What a run of law 5's able() asks of the library, as memos. -/
set_option linter.unusedVariables false
set_option maxRecDepth 100000
namespace Go.Proofs.YtlgjjklikbpcoaaGreatDoor
namespace SX
open Go Go.Proofs
def mIB (c n : Int) : Memo := ⟨62, [.s [123, 125, 40, 41, 91, 93, 59, 124, 44, 58, 61, 43, 45, 35, 36, 126, 42, 47, 92, 38, 63, 94], .i .u8 c], [], .i .i64 n, []⟩
theorem mIB_ok {c n : Int} (h : Lib.indexByte marksL c.toNat.toUInt8 = n) : MemoOk Tryz.prog (mIB c n) := by
  subst h
  exact sIndexByte_ok marksL c
def mLoc (s : List UInt8) (n : Int) : Memo := ⟨55, [.s [120, 121, 122], .s s], [], .i .i64 n, []⟩
theorem mLoc_ok {s : List UInt8} {n : Int} (h : Lib.index [120, 121, 122] s = n) : MemoOk Tryz.prog (mLoc s n) := by
  subst h
  exact sIndex_ok [120, 121, 122] s (by decide)
def mNum (w : List UInt8) (n : Nat) : Memo := ⟨60, [.s w], [], .tup [.i .i64 n, .b true], []⟩
theorem mNum_ok {w : List UInt8} {n : Nat} (h : numF w = some n) (hn : (w.all fun c => numB (c.toNat : Int)) = true) (hw : w.length ≤ 10000) (h2 : n ≤ 9223372036854775807) : MemoOk Tryz.prog (mNum w n) := by
  refine (number_ok w (fun c hc => List.all_eq_true.1 hn c hc) hw).mono callX_m ?_
  rintro r h' ⟨hr, rfl⟩
  rw [h] at hr
  have hr : r = .tup [.i .i64 (IntKind.i64.wrap n), .b true] := hr
  rw [w64 (by omega) (by omega)] at hr
  exact ⟨hr, rfl⟩
def mJoin (xs : List (List UInt8)) (n : Nat) (r : List UInt8) : Memo := ⟨99, [.sl 0 1 0 n (some n) 0, .s [44]], [.mem 9 (xs.map .s) 1 0], .s r, [.mem 9 (xs.map .s) 1 0]⟩
theorem mJoin_ok {xs : List (List UInt8)} {n : Nat} {r : List UInt8} (hn : xs.length = n) (hn2 : n ≤ 1000) (h : Lib.join xs [44] = r) (hl : r.length ≤ 1000) : MemoOk Tryz.prog (mJoin xs n r) := by
  subst h
  exact join_ok xs n hn hn2 [44] (by omega)
end SX
end Go.Proofs.YtlgjjklikbpcoaaGreatDoor

/- Law 5: able() answers true. -/
set_option maxRecDepth 100000
namespace Go.Proofs.YtlgjjklikbpcoaaGreatDoor
namespace SX
open Go Go.Proofs
end SX
end Go.Proofs.YtlgjjklikbpcoaaGreatDoor

/- SX: rows: slices and structs of plain cells, opened. -/
set_option linter.unusedVariables false
set_option linter.unusedSimpArgs false
namespace Go.Proofs.YtlgjjklikbpcoaaGreatDoor
namespace SX
open Go Go.ChangeShapes Go.WideShapes

def LKv : LK → Value → Prop
  | .i k, v => ∃ n, v = .int k n ∧ (Lit.int k n).wf = true
  | .b, v => ∃ b, v = .bool b
  | .s, v => ∃ s : ByteArray, v = .string s ∧ s.size ≤ maxLen
def LKs : List LK → List Value → Prop
  | [], [] => True
  | k :: ls, v :: cs => LKv k v ∧ LKs ls cs
  | _, _ => False
section
variable {H : Type} {enc : TypeId × Value → H} {P : Program} {w : World} {base : Nat} {spare : Nat → Bool} {held : Bool}
end
end SX
end Go.Proofs.YtlgjjklikbpcoaaGreatDoor

/- SX: rows: the form's own reach bounds a slice that came in. -/
set_option linter.unusedVariables false
namespace Go.Proofs.YtlgjjklikbpcoaaGreatDoor
namespace SX
open Go Go.ChangeShapes Go.WideShapes Go.ChangeAt
section
variable {H : Type} {enc : TypeId × Value → H} {P : Program} {w : World} {base : Nat} {spare : Nat → Bool} {held : Bool}
end
end SX
end Go.Proofs.YtlgjjklikbpcoaaGreatDoor

/- SX: rows: the tables that a row lists lie in the world. -/
set_option linter.unusedVariables false
namespace Go.Proofs.YtlgjjklikbpcoaaGreatDoor
namespace SX
open Go
theorem laidVars_mem {P : Program} {w : World} {n : String} {d : DataW Unit} : ∀ {l : List (String × DataW Unit)} {ps : List MemPlace}, DataW.LaidVars P w l ps → (n, d) ∈ l →
    ∃ g t cs fuel p, P.globalNamed n = some g ∧ (P.globals[g]?).map (·.type) = some t ∧ w.var? P n = some cs ∧ DataW.trod (fun _ => ()) P w 0 (fun _ => true) false fuel t cs.toList = some (d, p)
  | [], _, _, h => by cases h
  | (n', d') :: r, ps, hl, h => by
    obtain ⟨g, t, cs, fuel, p, q, h1, h2, h3, h4, h5, _⟩ := hl
    rcases List.mem_cons.1 h with h | h
    · cases h; exact ⟨g, t, cs, fuel, p, h1, h2, h3, h4⟩
    · exact laidVars_mem h5 h
theorem laidMetH_plain {P : Program} {l : List (String × DataW Unit)} {w : World} (hf : (l.filter fun x => x.2.handleName?.isSome) = []) (h : laidMetH P l w) : laidMet P l w := by
  unfold laidMetH at h
  rw [hf] at h
  exact h
theorem trod_ifc {H : Type} {enc : TypeId × Value → H} {P : Program} {w : World} {base : Nat} {sp : Nat → Bool} {held : Bool} {fuel : Nat} {t : TypeId} {ms} {cs : List Value} {tn : String} {d : DataW H} {p : List MemPlace}
    (ht : P.underlying t = some (.interface ms)) (h : DataW.trod enc P w base sp held fuel t cs = some (.iface tn d, p)) : ∃ u v, cs = [.iface u v] := by
  cases fuel with
  | zero => simp [DataW.trod] at h
  | succ fuel =>
    unfold DataW.trod at h
    rw [ht] at h
    match cs, h with
    | [.iface u v], _ => exact ⟨u, v, rfl⟩
    | [.nilIface], h => simp at h
    | [], h => simp at h
    | _ :: _ :: _, h => simp at h
    | [.int _ _], h | [.bool _], h | [.float _ _], h | [.string _], h | [.pointer _], h | [.slice _ _ _], h | [.agg _], h | [.map _], h | [.func _ _ _], h | [.nilFunc], h | [.tuple _], h | [.chan _], h => simp at h
def TbRow (P : Program) (laid : List (String × DataW Unit)) (g : Nat) : TbV → Prop
  | .ints k zs => ∃ n t N e, (n, Lib.tabData k zs) ∈ laid ∧ P.globalNamed n = some g ∧ (P.globals[g]?).map (·.type) = some t ∧ P.underlying t = some (.array N e) ∧ P.underlying e = some (.int k) ∧ P.cellsOf e = 1 ∧ P.cellsOf t = N
  | .ifc => ∃ n t ms tn d, (n, .iface tn d) ∈ laid ∧ P.globalNamed n = some g ∧ (P.globals[g]?).map (·.type) = some t ∧ P.underlying t = some (.interface ms)
  | .anyI _ => False
theorem var_at {P : Program} {w : World} {n : String} {g : Nat} {cs : Array Value} (hg : P.globalNamed n = some g) (h : w.var? P n = some cs) : ∃ t fr, w.heap[g]? = some (.cells cs t fr) := by
  unfold World.var? at h
  rw [hg] at h
  simp only [Option.bind_some] at h
  split at h
  · rename_i c t fr hh; cases h; exact ⟨t, fr, hh⟩
  · cases h
theorem tabsIn_of {P : Program} {laid : List (String × DataW Unit)} {w : World} (hf : (laid.filter fun x => x.2.handleName?.isSome) = []) (h : laidMetH P laid w) (hr : ∀ g v, tabs g = some v → TbRow P laid g v ∨ TbAt (fun b => w.heap[b]?) g v) : TabsIn w := by
  obtain ⟨ps, hl, _⟩ := laidMetH_plain hf h
  intro g v hg
  rcases hr g v hg with hv | hv
  rotate_left
  · exact hv
  cases v with
  | ints k zs =>
    obtain ⟨n, t, N, e, hm, h1, h2, h3, h4, h5, h6⟩ := hv
    obtain ⟨g', t', cs, fuel, p, g1, g2, g3, g4⟩ := laidVars_mem hl hm
    obtain rfl := Option.some.inj (h1.symm.trans g1)
    obtain rfl := Option.some.inj (h2.symm.trans g2)
    have := Lib.cells_of_tab h3 h4 h5 h6 g4
    obtain ⟨t2, fr, hh⟩ := var_at h1 g3
    refine ⟨t2, fr, ?_⟩
    show w.heap[g]? = _
    rw [hh, ← this]
  | anyI k => exact hv.elim
  | ifc =>
    obtain ⟨n, t, ms, tn, d, hm, h1, h2, h3⟩ := hv
    obtain ⟨g', t', cs, fuel, p, g1, g2, g3, g4⟩ := laidVars_mem hl hm
    obtain rfl := Option.some.inj (h1.symm.trans g1)
    obtain rfl := Option.some.inj (h2.symm.trans g2)
    obtain ⟨u, v, hc⟩ := trod_ifc h3 g4
    obtain ⟨t2, fr, hh⟩ := var_at h1 g3
    refine ⟨u, v, t2, fr, ?_⟩
    show w.heap[g]? = _
    rw [hh]
    congr 2
    exact Array.toList_inj.1 (by simpa using hc)
theorem anyI_at {w : World} {g : Nat} {k : IntKind} (h : ∃ m, w.cell? ⟨g, 0, none⟩ = some (.int k m)) : TbAt (fun b => w.heap[b]?) g (.anyI k) := by
  obtain ⟨m, hm⟩ := h
  unfold World.cell? at hm
  simp only at hm
  split at hm
  · rename_i arr t fr hh
    exact ⟨m, arr, t, fr, hh, by simpa using hm⟩
  · cases hm
end SX
end Go.Proofs.YtlgjjklikbpcoaaGreatDoor

/- SX: rows: the world at the call is of the program's shape. -/
set_option linter.unusedVariables false
namespace Go.Proofs.YtlgjjklikbpcoaaGreatDoor
namespace SX
open Go Go.ChangeShapes Go.WideShapes Go.ChangeAt Go.RowKit
variable {H : Type} {enc : TypeId × Value → H}
theorem returns_shaped {a : Assume} {C : Checked} {os : Os} {f : FuncId} {fn : Func} {s : ChangeSpec} {conds : List PathCond} {apart fresh handsOn again : Bool} {X : World → Array Value → Prop}
    (hX : ∀ (w w' : World) (args : Array Value), w.heap = w'.heap → X w args → X w' args)
    (own : ownKnob C.prog.godebug = none) (started : os.Started) (noInit : C.prog.inits.idxOf? f = none) (hfn : C.prog.funcs[f]? = some fn)
    (witness : ∃ (w : World) (tape : Tape) (i : Input), w.os = os ∧ (w.forCall tape i).Shaped C.prog ∧ i.vars = [] ∧ Input.okWide C.prog (w.forCall tape i) .any w.heap.size f i ∧
      ((s.pre enc C.prog fn conds apart (w.forCall tape i).memory i.args ∧ X (w.forCall tape i).memory i.args) ∧ sizedMet enc C.prog fn (OpenSpec.ofChange s) apart (w.forCall tape i).memory i.args) ∧ a.holds C.prog (lone (Frame.enter C.prog f i.args .normal) [] (w.forCall tape i)))
    (contract : ∀ (W : World) (base : Nat) (args : Array Value) (ds gs : List (DataW H)) (before : List MemPlace),
      (∀ (j : Nat) t v, fn.params[j]? = some t → args[j]? = some v → Value.okWide C.prog W .any base t v) →
      DataW.Whole enc C.prog fn.params.toList s.vars apart W args.toList ds gs before →
      (DataW.weightsEach C.prog (fn.params.toList ++ s.plain.varTypes C.prog) (ds ++ gs)).all (· ≤ reachBytes) = true → X W args → W.ShapedOpen C.prog →
      Calls C.prog f args W fun e W' => ∃ v, e = .returned v ∧ s.post enc C.prog fn apart fresh handsOn again W args v W') :
    ReturnsInHanded a C os f .any (fun w args => (s.pre enc C.prog fn conds apart w args ∧ X w args) ∧ sizedMet enc C.prog fn (OpenSpec.ofChange s) apart w args) (s.post enc C.prog fn apart fresh handsOn again) := by
  refine returnsInHanded_of_calls own started noInit witness ?_
  intro w tape i _ hsh _ hok hpre hholds
  obtain ⟨_, _, _, fn', hfn', _, _, _, _, hval⟩ := hok
  have e : fn' = fn := Option.some.inj (hfn'.symm.trans hfn)
  subst e
  obtain ⟨⟨⟨ds, gs, before, hw, hc⟩, hx⟩, hz⟩ := hpre
  have hw' := DataW.Whole.of_heap (w' := w.forCall tape i) (by rfl) hw
  refine (contract (w.forCall tape i) w.heap.size i.args ds gs before hval hw' (hz.weights hw) (hX _ _ _ (by rfl) hx) hsh).mono fun e W' ⟨v, he, hp⟩ => ?_
  subst he
  exact ChangeSpec.post_blind hp
end SX
end Go.Proofs.YtlgjjklikbpcoaaGreatDoor
