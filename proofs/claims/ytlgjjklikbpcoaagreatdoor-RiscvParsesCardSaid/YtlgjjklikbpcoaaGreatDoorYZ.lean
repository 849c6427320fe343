/- The words of any text are read as a RISC-V instruction, or told wrong and where, as the reference says; the list stays. -/
import Derived.Test.YtlgjjklikbpcoaaGreatDoorCards
import Derived.Test.YtlgjjklikbpcoaaGreatDoorTie
import Derived.SevenTiedAt
import Derived.Test.YtlgjjklikbpcoaaGreatDoorYY
set_option linter.unusedVariables false
set_option linter.unusedSimpArgs false
set_option linter.unusedSectionVars false
/- X86Parses: the law's contract. -/
set_option linter.unusedVariables false
set_option maxRecDepth 100000
namespace Go.Proofs.YtlgjjklikbpcoaaGreatDoor
namespace SX
open Go Go.Proofs
theorem Cp.vac {X : List Value → World → (Value → World → Prop) → Prop} {args : List SV} {H : List SB} {K : SV → List SB → Prop} (h : ∀ m V, ¬ OkA m V args) : Cp X args H K := ⟨fun C E m w hr ha => absurd ha (h _ _)⟩
theorem imm_none {m : Mem} {V : List Nat} {ts : List Tk} {cap : Nat} (h : OkA m V [.imm Tk tk0 4 tkenc ts none cap]) : ts = [] := by
  simp only [OkA, Ok] at h
  by_cases he : ts = []
  · exact he
  · obtain ⟨_, _, _, _, h2, _⟩ := h.1.2.2.1 he
    cases h2
theorem tok_lens (s : List UInt8) : ∀ t ∈ (tokF s).1, t.s.length ≤ 8192 := by
  have key : ∀ (f p : Nat) (out : List Tk), s.length ≤ 8192 → (∀ t ∈ out, t.s.length ≤ 8192) → ∀ t ∈ (tokC s f p out).1, t.s.length ≤ 8192 := by
    intro f
    induction f with
    | zero => intro p out _ h; exact h
    | succ f ih =>
      intro p out hs h t ht
      unfold tokC at ht
      split at ht
      · exact h t ht
      · split at ht
        · exact ih _ _ hs h t ht
        · rename_i y hy
          refine ih _ _ hs (fun x hx => ?_) t ht
          rcases List.mem_append.1 hx with hx | hx
          · exact h x hx
          · rw [List.mem_singleton.1 hx]
            have := step_len hy
            rw [List.length_drop] at this
            omega
        · cases ht
  unfold tokF
  split
  · intro t ht; cases ht
  · exact key _ _ _ (by omega) fun t ht => by cases ht
theorem tok_count (s : List UInt8) : (tokF s).1.length ≤ 8192 := by
  have pos : ∀ (p : Nat) (y : Tk), p < s.length → stepF (s.drop p) p = .tok y → 1 ≤ y.s.length := by
    intro p y hp hy
    have hne : s.drop p ≠ [] := fun hh => by have := congrArg List.length hh; simp at this; omega
    unfold stepF at hy
    split at hy
    · cases hy
    split at hy
    · split at hy <;> cases hy
    split at hy
    · rename_i hd
      split at hy
      · cases hy
      · cases hy
        have : 0 < rowF numB (s.drop p) := rowF_pos hne (by unfold numB; rw [hd]; simp)
        show 1 ≤ (List.take _ _).length
        rw [List.length_take, List.length_drop]; omega
    split at hy
    · rename_i hl
      cases hy
      have : 0 < rowF namB (s.drop p) := rowF_pos hne (by
        unfold namB
        simp only [Bool.or_eq_true, decide_eq_true_eq] at hl ⊢
        rcases hl with hl | hl
        · exact .inl (.inl (.inl hl))
        · exact .inl (.inr hl))
      show 1 ≤ (List.take _ _).length
      rw [List.length_take, List.length_drop]; omega
    split at hy
    · cases hy
      show 1 ≤ (List.take _ _).length
      rw [List.length_take, List.length_drop]; omega
    split at hy
    · cases hy
      show 1 ≤ (List.take _ _).length
      rw [List.length_take, List.length_drop]; omega
    · cases hy
  have key : ∀ (f p : Nat) (out : List Tk), s.length ≤ 8192 → p ≤ s.length → out.length ≤ p → (tokC s f p out).1.length ≤ 8192 := by
    intro f
    induction f with
    | zero => intro p out hs hp h; exact Nat.le_trans h (by omega)
    | succ f ih =>
      intro p out hs hp h
      unfold tokC
      split
      · show out.length ≤ 8192; omega
      · split
        · rename_i n hn
          by_cases hq : p + n ≤ s.length
          · exact ih _ _ hs hq (by omega)
          · have e : ∀ g, tokC s g (p + n) out = (out, 0, 0) := fun g => tokC_end (by omega)
            rw [e]; show out.length ≤ 8192; omega
        · rename_i y hy
          have h1 := pos p y (by omega) hy
          have h2 := step_len hy
          rw [List.length_drop] at h2
          exact ih _ _ hs (by omega) (by rw [List.length_append, List.length_singleton]; omega)
        · exact Nat.zero_le _
  unfold tokF
  split
  · exact Nat.zero_le _
  · exact key _ _ _ (by omega) (Nat.zero_le _) (Nat.le_refl _)
theorem tk_at_len {s : List UInt8} {ts : List Tk} (h : (tokF s).1 = ts) (p : Nat) : (tkAt ts p).s.length ≤ 100000 := by
  unfold tkAt
  rw [List.getD_eq_getElem?_getD]
  cases hx : ts[p]? with
  | none => exact Nat.zero_le _
  | some t => exact Nat.le_trans (tok_lens s t (by rw [h]; exact List.mem_of_getElem? hx)) (by decide)
theorem eqI_rfl (i : In) : eqI i i = true := by unfold eqI; simp
def t77 : Tk := ⟨0, [], -77, 0⟩
theorem tk_take {ts : List Tk} {x : Tk} : ts = ((ts ++ [x]).drop 0).take ts.length := by simp
theorem bndIn {M : Nat} {i : In} : BndB M (.mem 30 (ienc i) 1 0) := ⟨rfl, rfl, rfl, rfl, rfl, rfl, rfl, rfl, rfl, rfl, rfl, rfl, rfl, rfl, rfl, rfl, rfl, trivial⟩
end SX
end Go.Proofs.YtlgjjklikbpcoaaGreatDoor

/- RISC-V: an instruction read. Written by pwi.py. -/
set_option linter.unusedVariables false
set_option maxRecDepth 100000
namespace Go.Proofs.YtlgjjklikbpcoaaGreatDoor
namespace SX
open Go Go.Proofs
variable {c : Rc} {s : RS}
def idx4 (s0 s1 s2 s3 v : List UInt8) : Int := if v = s0 then 0 else if v = s1 then 1 else if v = s2 then 2 else if v = s3 then 3 else -1
set_option maxHeartbeats 1000000 in
theorem index4_s (s0 s1 s2 s3 v : List UInt8) : Ctr Tryz.prog 155 [.sl 0 1 0 4 (some 4) 0, .s v] [strB [s0, s1, s2, s3]] (fun r h => r = .i .i64 (idx4 s0 s1 s2 s3 v) ∧ h = [strB [s0, s1, s2, s3]]) := by
  refine Ctr.enterG tabOkF (fn := Tryz.f155) rfl rfl rfl rfl rfl rfl ⟨⟨rfl, rfl, rfl, rfl, trivial⟩, trivial⟩ ?_
  refine WpC.loop tabOkF (β := Nat) (fun k => k ≤ 4 ∧ (0 < k → v ≠ s0) ∧ (1 < k → v ≠ s1) ∧ (2 < k → v ≠ s2) ∧ (3 < k → v ≠ s3)) (fun k => [(8, .i .i64 k)]) (fun _ => [strB [s0, s1, s2, s3]]) (fun k => 4 - k) 0 524080 ⟨by decide, fun h => absurd h (by decide), fun h => absurd h (by decide), fun h => absurd h (by decide), fun h => absurd h (by decide)⟩ ?_ ?_
  · exact ⟨rfl, ⟨⟨rfl, rfl, rfl⟩, trivial⟩, ⟨[], rfl⟩, ⟨⟨rfl, rfl, rfl, rfl, trivial⟩, trivial⟩, rfl⟩
  · rintro k ⟨hk, q0, q1, q2, q3⟩
    rcases (by omega : k = 0 ∨ k = 1 ∨ k = 2 ∨ k = 3 ∨ k = 4) with rfl | rfl | rfl | rfl | rfl
    · refine ⟨fun _ => ?_, fun h => absurd h (by decide)⟩
      refine ⟨fun _ => by decide, ?_⟩
      refine ⟨fun h => ?_, fun h => ?_⟩
      · have e : v = s0 := of_decide_eq_true h
        refine ⟨i_cg ?_, _, rfl⟩
        unfold idx4
        rw [if_pos e]
        rfl
      · have e0 : ¬ v = s0 := of_decide_eq_false h
        exact ⟨1, ⟨by decide, fun _ => e0, fun h => absurd h (by decide), fun h => absurd h (by decide), fun h => absurd h (by decide)⟩, by decide, rfl, ⟨⟨rfl, rfl, rfl⟩, trivial⟩, ⟨[], rfl⟩, ⟨⟨rfl, rfl, rfl, rfl, trivial⟩, trivial⟩, rfl⟩
    · have e0 := q0 (by decide)
      refine ⟨fun _ => ?_, fun h => absurd h (by decide)⟩
      refine ⟨fun _ => by decide, ?_⟩
      refine ⟨fun h => ?_, fun h => ?_⟩
      · have e : v = s1 := of_decide_eq_true h
        refine ⟨i_cg ?_, _, rfl⟩
        unfold idx4
        rw [if_neg e0]
        rw [if_pos e]
        rfl
      · have e1 : ¬ v = s1 := of_decide_eq_false h
        exact ⟨2, ⟨by decide, fun _ => e0, fun _ => e1, fun h => absurd h (by decide), fun h => absurd h (by decide)⟩, by decide, rfl, ⟨⟨rfl, rfl, rfl⟩, trivial⟩, ⟨[], rfl⟩, ⟨⟨rfl, rfl, rfl, rfl, trivial⟩, trivial⟩, rfl⟩
    · have e0 := q0 (by decide)
      have e1 := q1 (by decide)
      refine ⟨fun _ => ?_, fun h => absurd h (by decide)⟩
      refine ⟨fun _ => by decide, ?_⟩
      refine ⟨fun h => ?_, fun h => ?_⟩
      · have e : v = s2 := of_decide_eq_true h
        refine ⟨i_cg ?_, _, rfl⟩
        unfold idx4
        rw [if_neg e0]
        rw [if_neg e1]
        rw [if_pos e]
        rfl
      · have e2 : ¬ v = s2 := of_decide_eq_false h
        exact ⟨3, ⟨by decide, fun _ => e0, fun _ => e1, fun _ => e2, fun h => absurd h (by decide)⟩, by decide, rfl, ⟨⟨rfl, rfl, rfl⟩, trivial⟩, ⟨[], rfl⟩, ⟨⟨rfl, rfl, rfl, rfl, trivial⟩, trivial⟩, rfl⟩
    · have e0 := q0 (by decide)
      have e1 := q1 (by decide)
      have e2 := q2 (by decide)
      refine ⟨fun _ => ?_, fun h => absurd h (by decide)⟩
      refine ⟨fun _ => by decide, ?_⟩
      refine ⟨fun h => ?_, fun h => ?_⟩
      · have e : v = s3 := of_decide_eq_true h
        refine ⟨i_cg ?_, _, rfl⟩
        unfold idx4
        rw [if_neg e0]
        rw [if_neg e1]
        rw [if_neg e2]
        rw [if_pos e]
        rfl
      · have e3 : ¬ v = s3 := of_decide_eq_false h
        exact ⟨4, ⟨by decide, fun _ => e0, fun _ => e1, fun _ => e2, fun _ => e3⟩, by decide, rfl, ⟨⟨rfl, rfl, rfl⟩, trivial⟩, ⟨[], rfl⟩, ⟨⟨rfl, rfl, rfl, rfl, trivial⟩, trivial⟩, rfl⟩
    · have e0 := q0 (by decide)
      have e1 := q1 (by decide)
      have e2 := q2 (by decide)
      have e3 := q3 (by decide)
      refine ⟨fun h => absurd h (by decide), fun _ => ⟨i_cg ?_, _, rfl⟩⟩
      unfold idx4
      rw [if_neg e0, if_neg e1, if_neg e2, if_neg e3]
theorem side_w (v : List UInt8) : CtrV Tryz.prog 276 [.s v] (.i .i64 (idx4 [] [114] [119] [114, 119] v)) := by
  have hx := index4_s [] [114] [119] [114, 119] v
  refine Ctr.enterV tabOkF (fn := Tryz.f276) rfl rfl rfl rfl rfl rfl ?_
  refine OpC.callH rfl rfl rfl rfl [0] rfl hx rfl rfl rfl rfl ⟨rfl, trivial⟩ rfl ?_
  exact rfl
theorem sideI_idx (v : List UInt8) (h : ¬ v = []) : idx4 [] [114] [119] [114, 119] v = sideI v := by
  unfold idx4 sideI
  rw [if_neg h]
theorem named_w (v : List UInt8) : CtrV Tryz.prog 234 [.s v] (.i .i64 (sideI v)) := by
  refine Ctr.enterV tabOkF (fn := Tryz.f234) rfl rfl rfl rfl rfl rfl ?_
  refine ⟨fun h => ?_, fun h => ?_⟩
  · have h : decide (v = []) = true := h
    have h := of_decide_eq_true h
    subst h
    exact rfl
  · have h : decide (v = []) = false := h
    have h := of_decide_eq_false h
    refine OpC.callV rfl rfl rfl rfl rfl rfl rfl (fun _ => side_w v) ?_
    exact i_cg (sideI_idx v h)
def vFnB : SB := strB [[], [97, 100, 100], [115, 117, 98], [120, 111, 114], [97, 110, 100], [111, 114]]
theorem vfunctions_ok : Ctr Tryz.prog 233 [] [] (fun r h => r = .sl 0 1 0 6 (some 6) 0 ∧ h = [vFnB]) :=
  memo_of (tr := treeF) (ft := ftree) (ms := []) (n := 40) (m := Memo.mk 233 [] [] (.sl 0 1 0 6 (some 6) 0) [vFnB]) tabOkF ftOk mixed (by intro m hm; cases hm) (by decide +kernel)
theorem cut_len (s e : List UInt8) : (cutS s e).length ≤ s.length := by
  unfold cutS
  split
  · simp
  · exact Nat.le_refl _
theorem atomic_w (nm : List UInt8) (hn : nm.length ≤ 100000) : CtrV Tryz.prog 235 [.s nm] (.tup [.agg (ienc (atomP nm).1), .b (atomP nm).2]) := by
  have h1 := cutSuf_w nm [46, 114, 108] (by omega) (by decide)
  have l1 := cut_len nm [46, 114, 108]
  have h2 := cutSuf_w (cutS nm [46, 114, 108]) [46, 97, 113] (by omega) (by decide)
  have l2 := cut_len (cutS nm [46, 114, 108]) [46, 97, 113]
  have h3 := size_w (cutS (cutS nm [46, 114, 108]) [46, 97, 113]) [46, 98] [46, 104] [46, 119] [46, 100] (by omega) (by decide) (by decide) (by decide) (by decide)
  unfold atomP
  dsimp only
  generalize sizP [46, 98] [46, 104] [46, 119] [46, 100] (cutS (cutS nm [46, 114, 108]) [46, 97, 113]) = z at *
  obtain ⟨w, z⟩ := z
  dsimp only at h3 ⊢
  by_cases e1 : w = [97, 109, 111, 115, 119, 97, 112]
  · rw [if_pos e1]
    refine Ctr.enterV tabOkF (fn := Tryz.f235) rfl rfl rfl rfl rfl rfl ?_
    refine OpC.callV rfl rfl rfl rfl rfl rfl rfl (fun _ => none_w 6) ?_
    refine OpC.callV rfl rfl rfl rfl rfl rfl rfl (fun _ => h1) ?_
    refine OpC.callV rfl rfl rfl rfl rfl rfl rfl (fun _ => h2) ?_
    refine OpC.callH rfl rfl rfl rfl [1] rfl h3 rfl rfl rfl rfl ⟨rfl, trivial⟩ rfl ?_
    refine ⟨fun _ => ?_, fun h => ?_⟩
    rotate_left
    · have h : decide (w = [97, 109, 111, 115, 119, 97, 112]) = false := h
      rw [decide_eq_true e1] at h; cases h
    exact rfl
  rw [if_neg e1]
  by_cases e2 : w = [97, 109, 111, 97, 100, 100]
  · rw [if_pos e2]
    refine Ctr.enterV tabOkF (fn := Tryz.f235) rfl rfl rfl rfl rfl rfl ?_
    refine OpC.callV rfl rfl rfl rfl rfl rfl rfl (fun _ => none_w 6) ?_
    refine OpC.callV rfl rfl rfl rfl rfl rfl rfl (fun _ => h1) ?_
    refine OpC.callV rfl rfl rfl rfl rfl rfl rfl (fun _ => h2) ?_
    refine OpC.callH rfl rfl rfl rfl [1] rfl h3 rfl rfl rfl rfl ⟨rfl, trivial⟩ rfl ?_
    refine ⟨fun h => ?_, fun _ => ?_⟩
    · have h : decide (w = [97, 109, 111, 115, 119, 97, 112]) = true := h
      rw [decide_eq_false e1] at h; cases h
    refine ⟨fun _ => ?_, fun h => ?_⟩
    rotate_left
    · have h : decide (w = [97, 109, 111, 97, 100, 100]) = false := h
      rw [decide_eq_true e2] at h; cases h
    exact rfl
  · rw [if_neg e2]
    refine Ctr.enterV tabOkF (fn := Tryz.f235) rfl rfl rfl rfl rfl rfl ?_
    refine OpC.callV rfl rfl rfl rfl rfl rfl rfl (fun _ => none_w 6) ?_
    refine OpC.callV rfl rfl rfl rfl rfl rfl rfl (fun _ => h1) ?_
    refine OpC.callV rfl rfl rfl rfl rfl rfl rfl (fun _ => h2) ?_
    refine OpC.callH rfl rfl rfl rfl [1] rfl h3 rfl rfl rfl rfl ⟨rfl, trivial⟩ rfl ?_
    refine ⟨fun h => ?_, fun _ => ?_⟩
    · have h : decide (w = [97, 109, 111, 115, 119, 97, 112]) = true := h
      rw [decide_eq_false e1] at h; cases h
    refine ⟨fun h => ?_, fun _ => ?_⟩
    · have h : decide (w = [97, 109, 111, 97, 100, 100]) = true := h
      rw [decide_eq_false e2] at h; cases h
    exact rfl
set_option maxHeartbeats 8000000 in
theorem riscv_read : ReadOk readVP lgR 156 := by
  rintro ⟨L, rd, pr, ts, ad, cap, lb⟩ s nm hL hlb hk hn
  dsimp only at hL hlb
  subst hL hlb
  have hct := cutSuf_w nm [105] (by omega) (by decide)
  have hfn := index6_s [] [97, 100, 100] [115, 117, 98] [120, 111, 114] [97, 110, 100] [111, 114] nm
  have hfi := index6_s [] [97, 100, 100] [115, 117, 98] [120, 111, 114] [97, 110, 100] [111, 114] (cutS nm [105])
  have hsz := size_w nm [98] [104] [119] [100] (by omega) (by decide) (by decide) (by decide) (by decide)
  have hat := atomic_w nm hn
  have hr := hk.reg
  have hm := hr.mark [44]
  have hr2 := hm.reg
  have hm2 := hr2.mark [44]
  unfold readVP sizV fnV
  dsimp only
  generalize idx6 [] [97, 100, 100] [115, 117, 98] [120, 111, 114] [97, 110, 100] [111, 114] nm = fn at *
  generalize idx6 [] [97, 100, 100] [115, 117, 98] [120, 111, 114] [97, 110, 100] [111, 114] (cutS nm [105]) = fi at *
  obtain ⟨w, z, hz⟩ : ∃ w z, sizP [98] [104] [119] [100] nm = (w, z) := ⟨_, _, rfl⟩
  rw [hz] at hsz ⊢
  dsimp only at hsz ⊢
  by_cases h1 : nm = [108, 105]
  · rw [if_pos h1]
    refine Ctr.enterH tabOkF (fn := Tryz.f156) rfl rfl rfl rfl rfl rfl bndR (Nat.le_refl _) ?_
    refine OpC.callV rfl rfl rfl rfl rfl rfl rfl (fun _ => hct) ?_
    refine OpC.callL rfl rfl rfl rfl [] 1 rfl rfl rfl vfunctions_ok rfl rfl rfl rfl trivial rfl (fun r H' hk => ?_) ?_
    · obtain ⟨rfl, rfl⟩ := hk; exact ⟨Nat.zero_le _, Nat.le_refl _⟩
    rintro r H' ⟨rfl, rfl⟩
    refine OpC.callH rfl rfl rfl rfl [5] rfl hfn rfl rfl rfl rfl ⟨rfl, trivial⟩ rfl ?_
    refine OpC.callL rfl rfl rfl rfl [] 1 rfl rfl rfl vfunctions_ok rfl rfl rfl rfl trivial rfl (fun r H' hk => ?_) ?_
    · obtain ⟨rfl, rfl⟩ := hk; exact ⟨Nat.zero_le _, Nat.le_refl _⟩
    rintro r H' ⟨rfl, rfl⟩
    refine OpC.callH rfl rfl rfl rfl [6] rfl hfi rfl rfl rfl rfl ⟨rfl, trivial⟩ rfl ?_
    refine OpC.callH rfl rfl rfl rfl [7] rfl hsz rfl rfl rfl rfl ⟨rfl, trivial⟩ rfl ?_
    refine ⟨fun _ => ?_, fun h => ?_⟩
    rotate_left
    · have h : decide (nm = [108, 105]) = false := h
      rw [decide_eq_true h1] at h; cases h
    refine OpC.callV rfl rfl rfl rfl rfl rfl rfl (fun _ => none_w 1) ?_
    refine OpC.callH rfl rfl rfl rfl [0, 1, 2, 3] rfl (rreg_w hk) rfl rfl rfl rfl ⟨rfl, rfl, rfl, rfl, trivial⟩ rfl ?_
    refine OpC.callH rfl rfl rfl rfl [0, 1, 2, 3] rfl (rmark_w hr [44]) rfl rfl rfl rfl ⟨rfl, rfl, rfl, rfl, trivial⟩ rfl ?_
    refine OpC.callH rfl rfl rfl rfl [0, 1, 2, 3] rfl (rnum_w hm) rfl rfl rfl rfl ⟨rfl, rfl, rfl, rfl, trivial⟩ rfl ?_
    exact ⟨rfl, _, rfl⟩
  rw [if_neg h1]
  by_cases h2 : nm = [109, 118]
  · rw [if_pos h2]
    refine Ctr.enterH tabOkF (fn := Tryz.f156) rfl rfl rfl rfl rfl rfl bndR (Nat.le_refl _) ?_
    refine OpC.callV rfl rfl rfl rfl rfl rfl rfl (fun _ => hct) ?_
    refine OpC.callL rfl rfl rfl rfl [] 1 rfl rfl rfl vfunctions_ok rfl rfl rfl rfl trivial rfl (fun r H' hk => ?_) ?_
    · obtain ⟨rfl, rfl⟩ := hk; exact ⟨Nat.zero_le _, Nat.le_refl _⟩
    rintro r H' ⟨rfl, rfl⟩
    refine OpC.callH rfl rfl rfl rfl [5] rfl hfn rfl rfl rfl rfl ⟨rfl, trivial⟩ rfl ?_
    refine OpC.callL rfl rfl rfl rfl [] 1 rfl rfl rfl vfunctions_ok rfl rfl rfl rfl trivial rfl (fun r H' hk => ?_) ?_
    · obtain ⟨rfl, rfl⟩ := hk; exact ⟨Nat.zero_le _, Nat.le_refl _⟩
    rintro r H' ⟨rfl, rfl⟩
    refine OpC.callH rfl rfl rfl rfl [6] rfl hfi rfl rfl rfl rfl ⟨rfl, trivial⟩ rfl ?_
    refine OpC.callH rfl rfl rfl rfl [7] rfl hsz rfl rfl rfl rfl ⟨rfl, trivial⟩ rfl ?_
    refine ⟨fun h => ?_, fun _ => ?_⟩
    · have h : decide (nm = [108, 105]) = true := h
      rw [decide_eq_false h1] at h; cases h
    refine ⟨fun _ => ?_, fun h => ?_⟩
    rotate_left
    · have h : decide (nm = [109, 118]) = false := h
      rw [decide_eq_true h2] at h; cases h
    refine OpC.callV rfl rfl rfl rfl rfl rfl rfl (fun _ => none_w 2) ?_
    refine OpC.callH rfl rfl rfl rfl [0, 1, 2, 3] rfl (rreg_w hk) rfl rfl rfl rfl ⟨rfl, rfl, rfl, rfl, trivial⟩ rfl ?_
    refine OpC.callH rfl rfl rfl rfl [0, 1, 2, 3] rfl (rmark_w hr [44]) rfl rfl rfl rfl ⟨rfl, rfl, rfl, rfl, trivial⟩ rfl ?_
    refine OpC.callH rfl rfl rfl rfl [0, 1, 2, 3] rfl (rreg_w hm) rfl rfl rfl rfl ⟨rfl, rfl, rfl, rfl, trivial⟩ rfl ?_
    exact ⟨rfl, _, rfl⟩
  rw [if_neg h2]
  by_cases h3 : 0 < fn ∨ (sufB nm [105] = true ∧ 0 < fi)
  · rw [if_pos h3]
    by_cases h4 : 0 < fn
    · rw [if_pos h4]
      refine Ctr.enterH tabOkF (fn := Tryz.f156) rfl rfl rfl rfl rfl rfl bndR (Nat.le_refl _) ?_
      refine OpC.callV rfl rfl rfl rfl rfl rfl rfl (fun _ => hct) ?_
      refine OpC.callL rfl rfl rfl rfl [] 1 rfl rfl rfl vfunctions_ok rfl rfl rfl rfl trivial rfl (fun r H' hk => ?_) ?_
      · obtain ⟨rfl, rfl⟩ := hk; exact ⟨Nat.zero_le _, Nat.le_refl _⟩
      rintro r H' ⟨rfl, rfl⟩
      refine OpC.callH rfl rfl rfl rfl [5] rfl hfn rfl rfl rfl rfl ⟨rfl, trivial⟩ rfl ?_
      refine OpC.callL rfl rfl rfl rfl [] 1 rfl rfl rfl vfunctions_ok rfl rfl rfl rfl trivial rfl (fun r H' hk => ?_) ?_
      · obtain ⟨rfl, rfl⟩ := hk; exact ⟨Nat.zero_le _, Nat.le_refl _⟩
      rintro r H' ⟨rfl, rfl⟩
      refine OpC.callH rfl rfl rfl rfl [6] rfl hfi rfl rfl rfl rfl ⟨rfl, trivial⟩ rfl ?_
      refine OpC.callH rfl rfl rfl rfl [7] rfl hsz rfl rfl rfl rfl ⟨rfl, trivial⟩ rfl ?_
      refine ⟨fun h => ?_, fun _ => ?_⟩
      · have h : decide (nm = [108, 105]) = true := h
        rw [decide_eq_false h1] at h; cases h
      refine ⟨fun h => ?_, fun _ => ?_⟩
      · have h : decide (nm = [109, 118]) = true := h
        rw [decide_eq_false h2] at h; cases h
      refine ⟨fun _ => ?_, fun h => ?_⟩
      rotate_left
      · have h : (decide (0 < fn) || (sufB nm [105] && decide (0 < fi))) = false := h
        simp only [Bool.or_eq_false_iff, Bool.and_eq_false_iff, decide_eq_false_iff_not] at h; exact absurd h3 (fun hh => hh.elim h.1 (fun g => h.2.elim (fun a => absurd (a.symm.trans g.1) (by decide)) (fun a => a g.2)))
      refine OpC.callV rfl rfl rfl rfl rfl rfl rfl (fun _ => none_w 3) ?_
      refine OpC.callH rfl rfl rfl rfl [0, 1, 2, 3] rfl (rreg_w hk) rfl rfl rfl rfl ⟨rfl, rfl, rfl, rfl, trivial⟩ rfl ?_
      refine OpC.callH rfl rfl rfl rfl [0, 1, 2, 3] rfl (rmark_w hr [44]) rfl rfl rfl rfl ⟨rfl, rfl, rfl, rfl, trivial⟩ rfl ?_
      refine OpC.callH rfl rfl rfl rfl [0, 1, 2, 3] rfl (rreg_w hm) rfl rfl rfl rfl ⟨rfl, rfl, rfl, rfl, trivial⟩ rfl ?_
      refine OpC.callH rfl rfl rfl rfl [0, 1, 2, 3] rfl (rmark_w hr2 [44]) rfl rfl rfl rfl ⟨rfl, rfl, rfl, rfl, trivial⟩ rfl ?_
      refine ⟨fun _ => ?_, fun h => ?_⟩
      rotate_left
      · have h : (decide (0 < fn)) = false := h
        exact absurd h4 (of_decide_eq_false h)
      refine OpC.callH rfl rfl rfl rfl [0, 1, 2, 3] rfl (rreg_w hm2) rfl rfl rfl rfl ⟨rfl, rfl, rfl, rfl, trivial⟩ rfl ?_
      exact ⟨rfl, _, rfl⟩
    · rw [if_neg h4]
      refine Ctr.enterH tabOkF (fn := Tryz.f156) rfl rfl rfl rfl rfl rfl bndR (Nat.le_refl _) ?_
      refine OpC.callV rfl rfl rfl rfl rfl rfl rfl (fun _ => hct) ?_
      refine OpC.callL rfl rfl rfl rfl [] 1 rfl rfl rfl vfunctions_ok rfl rfl rfl rfl trivial rfl (fun r H' hk => ?_) ?_
      · obtain ⟨rfl, rfl⟩ := hk; exact ⟨Nat.zero_le _, Nat.le_refl _⟩
      rintro r H' ⟨rfl, rfl⟩
      refine OpC.callH rfl rfl rfl rfl [5] rfl hfn rfl rfl rfl rfl ⟨rfl, trivial⟩ rfl ?_
      refine OpC.callL rfl rfl rfl rfl [] 1 rfl rfl rfl vfunctions_ok rfl rfl rfl rfl trivial rfl (fun r H' hk => ?_) ?_
      · obtain ⟨rfl, rfl⟩ := hk; exact ⟨Nat.zero_le _, Nat.le_refl _⟩
      rintro r H' ⟨rfl, rfl⟩
      refine OpC.callH rfl rfl rfl rfl [6] rfl hfi rfl rfl rfl rfl ⟨rfl, trivial⟩ rfl ?_
      refine OpC.callH rfl rfl rfl rfl [7] rfl hsz rfl rfl rfl rfl ⟨rfl, trivial⟩ rfl ?_
      refine ⟨fun h => ?_, fun _ => ?_⟩
      · have h : decide (nm = [108, 105]) = true := h
        rw [decide_eq_false h1] at h; cases h
      refine ⟨fun h => ?_, fun _ => ?_⟩
      · have h : decide (nm = [109, 118]) = true := h
        rw [decide_eq_false h2] at h; cases h
      refine ⟨fun _ => ?_, fun h => ?_⟩
      rotate_left
      · have h : (decide (0 < fn) || (sufB nm [105] && decide (0 < fi))) = false := h
        simp only [Bool.or_eq_false_iff, Bool.and_eq_false_iff, decide_eq_false_iff_not] at h; exact absurd h3 (fun hh => hh.elim h.1 (fun g => h.2.elim (fun a => absurd (a.symm.trans g.1) (by decide)) (fun a => a g.2)))
      refine OpC.callV rfl rfl rfl rfl rfl rfl rfl (fun _ => none_w 3) ?_
      refine OpC.callH rfl rfl rfl rfl [0, 1, 2, 3] rfl (rreg_w hk) rfl rfl rfl rfl ⟨rfl, rfl, rfl, rfl, trivial⟩ rfl ?_
      refine OpC.callH rfl rfl rfl rfl [0, 1, 2, 3] rfl (rmark_w hr [44]) rfl rfl rfl rfl ⟨rfl, rfl, rfl, rfl, trivial⟩ rfl ?_
      refine OpC.callH rfl rfl rfl rfl [0, 1, 2, 3] rfl (rreg_w hm) rfl rfl rfl rfl ⟨rfl, rfl, rfl, rfl, trivial⟩ rfl ?_
      refine OpC.callH rfl rfl rfl rfl [0, 1, 2, 3] rfl (rmark_w hr2 [44]) rfl rfl rfl rfl ⟨rfl, rfl, rfl, rfl, trivial⟩ rfl ?_
      refine ⟨fun h => ?_, fun _ => ?_⟩
      · have h : (decide (0 < fn)) = true := h
        exact absurd (of_decide_eq_true h) h4
      refine OpC.callH rfl rfl rfl rfl [0, 1, 2, 3] rfl (rnum_w hm2) rfl rfl rfl rfl ⟨rfl, rfl, rfl, rfl, trivial⟩ rfl ?_
      exact ⟨rfl, _, rfl⟩
  rw [if_neg h3]
  by_cases h5 : nm = [102, 101, 110, 99, 101]
  · rw [if_pos h5]
    have ho := hk.of sideI
    have hom := ho.mark [44]
    refine Ctr.enterH tabOkF (fn := Tryz.f156) rfl rfl rfl rfl rfl rfl bndR (Nat.le_refl _) ?_
    refine OpC.callV rfl rfl rfl rfl rfl rfl rfl (fun _ => hct) ?_
    refine OpC.callL rfl rfl rfl rfl [] 1 rfl rfl rfl vfunctions_ok rfl rfl rfl rfl trivial rfl (fun r H' hk => ?_) ?_
    · obtain ⟨rfl, rfl⟩ := hk; exact ⟨Nat.zero_le _, Nat.le_refl _⟩
    rintro r H' ⟨rfl, rfl⟩
    refine OpC.callH rfl rfl rfl rfl [5] rfl hfn rfl rfl rfl rfl ⟨rfl, trivial⟩ rfl ?_
    refine OpC.callL rfl rfl rfl rfl [] 1 rfl rfl rfl vfunctions_ok rfl rfl rfl rfl trivial rfl (fun r H' hk => ?_) ?_
    · obtain ⟨rfl, rfl⟩ := hk; exact ⟨Nat.zero_le _, Nat.le_refl _⟩
    rintro r H' ⟨rfl, rfl⟩
    refine OpC.callH rfl rfl rfl rfl [6] rfl hfi rfl rfl rfl rfl ⟨rfl, trivial⟩ rfl ?_
    refine OpC.callH rfl rfl rfl rfl [7] rfl hsz rfl rfl rfl rfl ⟨rfl, trivial⟩ rfl ?_
    refine ⟨fun h => ?_, fun _ => ?_⟩
    · have h : decide (nm = [108, 105]) = true := h
      rw [decide_eq_false h1] at h; cases h
    refine ⟨fun h => ?_, fun _ => ?_⟩
    · have h : decide (nm = [109, 118]) = true := h
      rw [decide_eq_false h2] at h; cases h
    refine ⟨fun h => ?_, fun _ => ?_⟩
    · have h : (decide (0 < fn) || (sufB nm [105] && decide (0 < fi))) = true := h
      simp only [Bool.or_eq_true, Bool.and_eq_true, decide_eq_true_eq] at h; exact absurd h h3
    refine ⟨fun _ => ?_, fun h => ?_⟩
    rotate_left
    · have h : decide (nm = [102, 101, 110, 99, 101]) = false := h
      rw [decide_eq_true h5] at h; cases h
    refine OpC.callV rfl rfl rfl rfl rfl rfl rfl (fun _ => none_w 7) ?_
    refine OpC.callH rfl rfl rfl rfl [0, 1, 2, 3] rfl (of_fn hk 234 sideI named_w) rfl rfl rfl rfl ⟨rfl, rfl, rfl, rfl, trivial⟩ rfl ?_
    refine OpC.callH rfl rfl rfl rfl [0, 1, 2, 3] rfl (rmark_w ho [44]) rfl rfl rfl rfl ⟨rfl, rfl, rfl, rfl, trivial⟩ rfl ?_
    refine OpC.callH rfl rfl rfl rfl [0, 1, 2, 3] rfl (of_fn hom 234 sideI named_w) rfl rfl rfl rfl ⟨rfl, rfl, rfl, rfl, trivial⟩ rfl ?_
    exact ⟨rfl, _, rfl⟩
  rw [if_neg h5]
  by_cases h6 : nm = [98, 101, 113, 122] ∨ nm = [98, 110, 101, 122]
  · rw [if_pos h6]
    refine Ctr.enterH tabOkF (fn := Tryz.f156) rfl rfl rfl rfl rfl rfl bndR (Nat.le_refl _) ?_
    refine OpC.callV rfl rfl rfl rfl rfl rfl rfl (fun _ => hct) ?_
    refine OpC.callL rfl rfl rfl rfl [] 1 rfl rfl rfl vfunctions_ok rfl rfl rfl rfl trivial rfl (fun r H' hk => ?_) ?_
    · obtain ⟨rfl, rfl⟩ := hk; exact ⟨Nat.zero_le _, Nat.le_refl _⟩
    rintro r H' ⟨rfl, rfl⟩
    refine OpC.callH rfl rfl rfl rfl [5] rfl hfn rfl rfl rfl rfl ⟨rfl, trivial⟩ rfl ?_
    refine OpC.callL rfl rfl rfl rfl [] 1 rfl rfl rfl vfunctions_ok rfl rfl rfl rfl trivial rfl (fun r H' hk => ?_) ?_
    · obtain ⟨rfl, rfl⟩ := hk; exact ⟨Nat.zero_le _, Nat.le_refl _⟩
    rintro r H' ⟨rfl, rfl⟩
    refine OpC.callH rfl rfl rfl rfl [6] rfl hfi rfl rfl rfl rfl ⟨rfl, trivial⟩ rfl ?_
    refine OpC.callH rfl rfl rfl rfl [7] rfl hsz rfl rfl rfl rfl ⟨rfl, trivial⟩ rfl ?_
    refine ⟨fun h => ?_, fun _ => ?_⟩
    · have h : decide (nm = [108, 105]) = true := h
      rw [decide_eq_false h1] at h; cases h
    refine ⟨fun h => ?_, fun _ => ?_⟩
    · have h : decide (nm = [109, 118]) = true := h
      rw [decide_eq_false h2] at h; cases h
    refine ⟨fun h => ?_, fun _ => ?_⟩
    · have h : (decide (0 < fn) || (sufB nm [105] && decide (0 < fi))) = true := h
      simp only [Bool.or_eq_true, Bool.and_eq_true, decide_eq_true_eq] at h; exact absurd h h3
    refine ⟨fun h => ?_, fun _ => ?_⟩
    · have h : decide (nm = [102, 101, 110, 99, 101]) = true := h
      rw [decide_eq_false h5] at h; cases h
    refine ⟨fun _ => ?_, fun h => ?_⟩
    rotate_left
    · have h : (decide (nm = [98, 101, 113, 122]) || decide (nm = [98, 110, 101, 122])) = false := h
      simp only [Bool.or_eq_false_iff, decide_eq_false_iff_not] at h; exact absurd h6 (fun hh => hh.elim h.1 h.2)
    refine OpC.callV rfl rfl rfl rfl rfl rfl rfl (fun _ => none_w 9) ?_
    refine OpC.callH rfl rfl rfl rfl [0, 1, 2, 3] rfl (rreg_w hk) rfl rfl rfl rfl ⟨rfl, rfl, rfl, rfl, trivial⟩ rfl ?_
    refine OpC.callH rfl rfl rfl rfl [0, 1, 2, 3] rfl (rmark_w hr [44]) rfl rfl rfl rfl ⟨rfl, rfl, rfl, rfl, trivial⟩ rfl ?_
    refine OpC.callH rfl rfl rfl rfl [0, 1, 2, 3] rfl (rword_w hm) rfl rfl rfl rfl ⟨rfl, rfl, rfl, rfl, trivial⟩ rfl ?_
    exact ⟨rfl, _, rfl⟩
  rw [if_neg h6]
  by_cases h7 : 0 < z ∧ w = [108]
  · rw [if_pos h7]
    refine Ctr.enterH tabOkF (fn := Tryz.f156) rfl rfl rfl rfl rfl rfl bndR (Nat.le_refl _) ?_
    refine OpC.callV rfl rfl rfl rfl rfl rfl rfl (fun _ => hct) ?_
    refine OpC.callL rfl rfl rfl rfl [] 1 rfl rfl rfl vfunctions_ok rfl rfl rfl rfl trivial rfl (fun r H' hk => ?_) ?_
    · obtain ⟨rfl, rfl⟩ := hk; exact ⟨Nat.zero_le _, Nat.le_refl _⟩
    rintro r H' ⟨rfl, rfl⟩
    refine OpC.callH rfl rfl rfl rfl [5] rfl hfn rfl rfl rfl rfl ⟨rfl, trivial⟩ rfl ?_
    refine OpC.callL rfl rfl rfl rfl [] 1 rfl rfl rfl vfunctions_ok rfl rfl rfl rfl trivial rfl (fun r H' hk => ?_) ?_
    · obtain ⟨rfl, rfl⟩ := hk; exact ⟨Nat.zero_le _, Nat.le_refl _⟩
    rintro r H' ⟨rfl, rfl⟩
    refine OpC.callH rfl rfl rfl rfl [6] rfl hfi rfl rfl rfl rfl ⟨rfl, trivial⟩ rfl ?_
    refine OpC.callH rfl rfl rfl rfl [7] rfl hsz rfl rfl rfl rfl ⟨rfl, trivial⟩ rfl ?_
    refine ⟨fun h => ?_, fun _ => ?_⟩
    · have h : decide (nm = [108, 105]) = true := h
      rw [decide_eq_false h1] at h; cases h
    refine ⟨fun h => ?_, fun _ => ?_⟩
    · have h : decide (nm = [109, 118]) = true := h
      rw [decide_eq_false h2] at h; cases h
    refine ⟨fun h => ?_, fun _ => ?_⟩
    · have h : (decide (0 < fn) || (sufB nm [105] && decide (0 < fi))) = true := h
      simp only [Bool.or_eq_true, Bool.and_eq_true, decide_eq_true_eq] at h; exact absurd h h3
    refine ⟨fun h => ?_, fun _ => ?_⟩
    · have h : decide (nm = [102, 101, 110, 99, 101]) = true := h
      rw [decide_eq_false h5] at h; cases h
    refine ⟨fun h => ?_, fun _ => ?_⟩
    · have h : (decide (nm = [98, 101, 113, 122]) || decide (nm = [98, 110, 101, 122])) = true := h
      simp only [Bool.or_eq_true, decide_eq_true_eq] at h; exact absurd h h6
    refine ⟨fun _ => ?_, fun h => ?_⟩
    rotate_left
    · have h : (decide (0 < z) && decide (w = [108])) = false := h
      rw [decide_eq_true h7.1, decide_eq_true h7.2] at h; cases h
    refine OpC.callV rfl rfl rfl rfl rfl rfl rfl (fun _ => none_w 4) ?_
    refine OpC.callH rfl rfl rfl rfl [0, 1, 2, 3] rfl (rreg_w hk) rfl rfl rfl rfl ⟨rfl, rfl, rfl, rfl, trivial⟩ rfl ?_
    refine OpC.callH rfl rfl rfl rfl [0, 1, 2, 3] rfl (rmark_w hr [44]) rfl rfl rfl rfl ⟨rfl, rfl, rfl, rfl, trivial⟩ rfl ?_
    refine OpC.callH rfl rfl rfl rfl [0, 1, 2, 3, 4] rfl (rmem_w hm { none_ 4 with dst := (regP lgR ts s).1 } z) rfl rfl rfl rfl ⟨rfl, rfl, rfl, rfl, rfl, trivial⟩ rfl ?_
    exact ⟨rfl, _, rfl⟩
  rw [if_neg h7]
  by_cases h8 : 0 < z ∧ w = [115]
  · rw [if_pos h8]
    refine Ctr.enterH tabOkF (fn := Tryz.f156) rfl rfl rfl rfl rfl rfl bndR (Nat.le_refl _) ?_
    refine OpC.callV rfl rfl rfl rfl rfl rfl rfl (fun _ => hct) ?_
    refine OpC.callL rfl rfl rfl rfl [] 1 rfl rfl rfl vfunctions_ok rfl rfl rfl rfl trivial rfl (fun r H' hk => ?_) ?_
    · obtain ⟨rfl, rfl⟩ := hk; exact ⟨Nat.zero_le _, Nat.le_refl _⟩
    rintro r H' ⟨rfl, rfl⟩
    refine OpC.callH rfl rfl rfl rfl [5] rfl hfn rfl rfl rfl rfl ⟨rfl, trivial⟩ rfl ?_
    refine OpC.callL rfl rfl rfl rfl [] 1 rfl rfl rfl vfunctions_ok rfl rfl rfl rfl trivial rfl (fun r H' hk => ?_) ?_
    · obtain ⟨rfl, rfl⟩ := hk; exact ⟨Nat.zero_le _, Nat.le_refl _⟩
    rintro r H' ⟨rfl, rfl⟩
    refine OpC.callH rfl rfl rfl rfl [6] rfl hfi rfl rfl rfl rfl ⟨rfl, trivial⟩ rfl ?_
    refine OpC.callH rfl rfl rfl rfl [7] rfl hsz rfl rfl rfl rfl ⟨rfl, trivial⟩ rfl ?_
    refine ⟨fun h => ?_, fun _ => ?_⟩
    · have h : decide (nm = [108, 105]) = true := h
      rw [decide_eq_false h1] at h; cases h
    refine ⟨fun h => ?_, fun _ => ?_⟩
    · have h : decide (nm = [109, 118]) = true := h
      rw [decide_eq_false h2] at h; cases h
    refine ⟨fun h => ?_, fun _ => ?_⟩
    · have h : (decide (0 < fn) || (sufB nm [105] && decide (0 < fi))) = true := h
      simp only [Bool.or_eq_true, Bool.and_eq_true, decide_eq_true_eq] at h; exact absurd h h3
    refine ⟨fun h => ?_, fun _ => ?_⟩
    · have h : decide (nm = [102, 101, 110, 99, 101]) = true := h
      rw [decide_eq_false h5] at h; cases h
    refine ⟨fun h => ?_, fun _ => ?_⟩
    · have h : (decide (nm = [98, 101, 113, 122]) || decide (nm = [98, 110, 101, 122])) = true := h
      simp only [Bool.or_eq_true, decide_eq_true_eq] at h; exact absurd h h6
    refine ⟨fun h => ?_, fun _ => ?_⟩
    · have h : (decide (0 < z) && decide (w = [108])) = true := h
      simp only [Bool.and_eq_true, decide_eq_true_eq] at h; exact absurd h h7
    refine ⟨fun _ => ?_, fun h => ?_⟩
    rotate_left
    · have h : (decide (0 < z) && decide (w = [115])) = false := h
      rw [decide_eq_true h8.1, decide_eq_true h8.2] at h; cases h
    refine OpC.callV rfl rfl rfl rfl rfl rfl rfl (fun _ => none_w 5) ?_
    refine OpC.callH rfl rfl rfl rfl [0, 1, 2, 3] rfl (rreg_w hk) rfl rfl rfl rfl ⟨rfl, rfl, rfl, rfl, trivial⟩ rfl ?_
    refine OpC.callH rfl rfl rfl rfl [0, 1, 2, 3] rfl (rmark_w hr [44]) rfl rfl rfl rfl ⟨rfl, rfl, rfl, rfl, trivial⟩ rfl ?_
    refine OpC.callH rfl rfl rfl rfl [0, 1, 2, 3, 4] rfl (rmem_w hm { none_ 5 with a := (regP lgR ts s).1 } z) rfl rfl rfl rfl ⟨rfl, rfl, rfl, rfl, rfl, trivial⟩ rfl ?_
    exact ⟨rfl, _, rfl⟩
  rw [if_neg h8]
  obtain ⟨i, k, hik⟩ : ∃ i k, atomP nm = (i, k) := ⟨_, _, rfl⟩
  rw [hik] at hat ⊢
  dsimp only at hat ⊢
  cases k with
  | true =>
    rw [if_pos rfl]
    refine Ctr.enterH tabOkF (fn := Tryz.f156) rfl rfl rfl rfl rfl rfl bndR (Nat.le_refl _) ?_
    refine OpC.callV rfl rfl rfl rfl rfl rfl rfl (fun _ => hct) ?_
    refine OpC.callL rfl rfl rfl rfl [] 1 rfl rfl rfl vfunctions_ok rfl rfl rfl rfl trivial rfl (fun r H' hk => ?_) ?_
    · obtain ⟨rfl, rfl⟩ := hk; exact ⟨Nat.zero_le _, Nat.le_refl _⟩
    rintro r H' ⟨rfl, rfl⟩
    refine OpC.callH rfl rfl rfl rfl [5] rfl hfn rfl rfl rfl rfl ⟨rfl, trivial⟩ rfl ?_
    refine OpC.callL rfl rfl rfl rfl [] 1 rfl rfl rfl vfunctions_ok rfl rfl rfl rfl trivial rfl (fun r H' hk => ?_) ?_
    · obtain ⟨rfl, rfl⟩ := hk; exact ⟨Nat.zero_le _, Nat.le_refl _⟩
    rintro r H' ⟨rfl, rfl⟩
    refine OpC.callH rfl rfl rfl rfl [6] rfl hfi rfl rfl rfl rfl ⟨rfl, trivial⟩ rfl ?_
    refine OpC.callH rfl rfl rfl rfl [7] rfl hsz rfl rfl rfl rfl ⟨rfl, trivial⟩ rfl ?_
    refine ⟨fun h => ?_, fun _ => ?_⟩
    · have h : decide (nm = [108, 105]) = true := h
      rw [decide_eq_false h1] at h; cases h
    refine ⟨fun h => ?_, fun _ => ?_⟩
    · have h : decide (nm = [109, 118]) = true := h
      rw [decide_eq_false h2] at h; cases h
    refine ⟨fun h => ?_, fun _ => ?_⟩
    · have h : (decide (0 < fn) || (sufB nm [105] && decide (0 < fi))) = true := h
      simp only [Bool.or_eq_true, Bool.and_eq_true, decide_eq_true_eq] at h; exact absurd h h3
    refine ⟨fun h => ?_, fun _ => ?_⟩
    · have h : decide (nm = [102, 101, 110, 99, 101]) = true := h
      rw [decide_eq_false h5] at h; cases h
    refine ⟨fun h => ?_, fun _ => ?_⟩
    · have h : (decide (nm = [98, 101, 113, 122]) || decide (nm = [98, 110, 101, 122])) = true := h
      simp only [Bool.or_eq_true, decide_eq_true_eq] at h; exact absurd h h6
    refine ⟨fun h => ?_, fun _ => ?_⟩
    · have h : (decide (0 < z) && decide (w = [108])) = true := h
      simp only [Bool.and_eq_true, decide_eq_true_eq] at h; exact absurd h h7
    refine ⟨fun h => ?_, fun _ => ?_⟩
    · have h : (decide (0 < z) && decide (w = [115])) = true := h
      simp only [Bool.and_eq_true, decide_eq_true_eq] at h; exact absurd h h8
    refine OpC.callV rfl rfl rfl rfl rfl rfl rfl (fun _ => hat) ?_
    refine ⟨fun _ => ?_, fun h => no_tf h⟩
    refine OpC.callH rfl rfl rfl rfl [0, 1, 2, 3] rfl (rreg_w hk) rfl rfl rfl rfl ⟨rfl, rfl, rfl, rfl, trivial⟩ rfl ?_
    refine OpC.callH rfl rfl rfl rfl [0, 1, 2, 3] rfl (rmark_w hr [44]) rfl rfl rfl rfl ⟨rfl, rfl, rfl, rfl, trivial⟩ rfl ?_
    refine OpC.callH rfl rfl rfl rfl [0, 1, 2, 3] rfl (rreg_w hm) rfl rfl rfl rfl ⟨rfl, rfl, rfl, rfl, trivial⟩ rfl ?_
    refine OpC.callH rfl rfl rfl rfl [0, 1, 2, 3] rfl (rmark_w hr2 [44]) rfl rfl rfl rfl ⟨rfl, rfl, rfl, rfl, trivial⟩ rfl ?_
    refine OpC.callH rfl rfl rfl rfl [0, 1, 2, 3, 4] rfl (rmem_w hm2 { i with dst := (regP lgR ts s).1, a := (regP lgR ts (markP ts [44] (regP lgR ts s).2)).1 } i.sz) rfl rfl rfl rfl ⟨rfl, rfl, rfl, rfl, rfl, trivial⟩ rfl ?_
    exact ⟨rfl, _, rfl⟩
  | false =>
    rw [if_neg (by decide)]
    refine Ctr.enterH tabOkF (fn := Tryz.f156) rfl rfl rfl rfl rfl rfl bndR (Nat.le_refl _) ?_
    refine OpC.callV rfl rfl rfl rfl rfl rfl rfl (fun _ => hct) ?_
    refine OpC.callL rfl rfl rfl rfl [] 1 rfl rfl rfl vfunctions_ok rfl rfl rfl rfl trivial rfl (fun r H' hk => ?_) ?_
    · obtain ⟨rfl, rfl⟩ := hk; exact ⟨Nat.zero_le _, Nat.le_refl _⟩
    rintro r H' ⟨rfl, rfl⟩
    refine OpC.callH rfl rfl rfl rfl [5] rfl hfn rfl rfl rfl rfl ⟨rfl, trivial⟩ rfl ?_
    refine OpC.callL rfl rfl rfl rfl [] 1 rfl rfl rfl vfunctions_ok rfl rfl rfl rfl trivial rfl (fun r H' hk => ?_) ?_
    · obtain ⟨rfl, rfl⟩ := hk; exact ⟨Nat.zero_le _, Nat.le_refl _⟩
    rintro r H' ⟨rfl, rfl⟩
    refine OpC.callH rfl rfl rfl rfl [6] rfl hfi rfl rfl rfl rfl ⟨rfl, trivial⟩ rfl ?_
    refine OpC.callH rfl rfl rfl rfl [7] rfl hsz rfl rfl rfl rfl ⟨rfl, trivial⟩ rfl ?_
    refine ⟨fun h => ?_, fun _ => ?_⟩
    · have h : decide (nm = [108, 105]) = true := h
      rw [decide_eq_false h1] at h; cases h
    refine ⟨fun h => ?_, fun _ => ?_⟩
    · have h : decide (nm = [109, 118]) = true := h
      rw [decide_eq_false h2] at h; cases h
    refine ⟨fun h => ?_, fun _ => ?_⟩
    · have h : (decide (0 < fn) || (sufB nm [105] && decide (0 < fi))) = true := h
      simp only [Bool.or_eq_true, Bool.and_eq_true, decide_eq_true_eq] at h; exact absurd h h3
    refine ⟨fun h => ?_, fun _ => ?_⟩
    · have h : decide (nm = [102, 101, 110, 99, 101]) = true := h
      rw [decide_eq_false h5] at h; cases h
    refine ⟨fun h => ?_, fun _ => ?_⟩
    · have h : (decide (nm = [98, 101, 113, 122]) || decide (nm = [98, 110, 101, 122])) = true := h
      simp only [Bool.or_eq_true, decide_eq_true_eq] at h; exact absurd h h6
    refine ⟨fun h => ?_, fun _ => ?_⟩
    · have h : (decide (0 < z) && decide (w = [108])) = true := h
      simp only [Bool.and_eq_true, decide_eq_true_eq] at h; exact absurd h h7
    refine ⟨fun h => ?_, fun _ => ?_⟩
    · have h : (decide (0 < z) && decide (w = [115])) = true := h
      simp only [Bool.and_eq_true, decide_eq_true_eq] at h; exact absurd h h8
    refine OpC.callV rfl rfl rfl rfl rfl rfl rfl (fun _ => hat) ?_
    refine ⟨fun h => no_ft h, fun _ => ?_⟩
    exact ⟨rfl, _, rfl⟩
end SX
end Go.Proofs.YtlgjjklikbpcoaaGreatDoor

/- The reference's riscv. Written by qwe.py. -/
set_option linter.unusedVariables false
set_option maxRecDepth 100000
namespace Go.Proofs.YtlgjjklikbpcoaaGreatDoor
namespace SX
open Go Go.Proofs
variable {c : Qc} {s : RS}
theorem am_hit {n : Nat} {v : List UInt8} {y : List UInt8 × Am} {r : List (List UInt8 × Am)} {x : Am} (hx : amFind (amNames.drop n) v = x) (h : amNames.drop n = y :: r) (hv : v = y.1) : x = y.2 := by
  subst hx
  rw [h]
  simp only [amFind]
  rw [if_pos hv]
theorem am_miss {n : Nat} {v : List UInt8} {y : List UInt8 × Am} {r : List (List UInt8 × Am)} {x : Am} (hx : amFind (amNames.drop n) v = x) (h : amNames.drop n = y :: r) (h2 : amNames.drop (n + 1) = r) (hv : ¬ v = y.1) : amFind (amNames.drop (n + 1)) v = x := by
  rw [h2]
  rw [h] at hx
  simp only [amFind] at hx
  rw [if_neg hv] at hx
  exact hx
set_option maxHeartbeats 8000000 in
theorem amo_w (nm : List UInt8) (x : Am) (hx : amFind (amNames.drop 0) nm = x) : CtrV Tryz.prog 142 [.s nm] (.tup [.i .i64 x.fn, .i .i64 x.sz, .b x.aq, .b x.rl]) := by
  refine Ctr.enterV tabOkF (fn := Tryz.f142) rfl rfl rfl rfl rfl rfl ?_
  refine WpC.loop tabOkF (β := Nat) (fun k => k ≤ 2 ∧ amFind (amNames.drop (16 * k)) nm = x) (fun k => [(8, .i .i64 k)]) (fun _ => [strB [[97, 109, 111, 115, 119, 97, 112, 46], [97, 109, 111, 97, 100, 100, 46]], strB [[], [46, 97, 113], [46, 114, 108], [46, 97, 113, 46, 114, 108]]]) (fun k => 2 - k) 0 (2 ^ 54 - 1 - 2 ^ 0 - 2 ^ 6 - 2 ^ 7) ⟨by decide, hx⟩ ?_ ?_
  · exact ⟨rfl, ⟨⟨rfl, rfl, rfl⟩, trivial⟩, ⟨[], rfl⟩, ⟨⟨rfl, rfl, trivial⟩, ⟨rfl, rfl, rfl, rfl, trivial⟩, trivial⟩, rfl⟩
  · rintro k ⟨hk, hx⟩
    rcases (by omega : k = 0 ∨ k = 1 ∨ k = 2) with rfl | rfl | rfl
    · refine ⟨fun _ => ?_, fun h => no_tf h⟩
      refine WpC.loop tabOkF (β := Nat) (fun k => k ≤ 4 ∧ amFind (amNames.drop (0 + 4 * k)) nm = x) (fun k => [(9, .i .i64 k)]) (fun _ => [strB [[97, 109, 111, 115, 119, 97, 112, 46], [97, 109, 111, 97, 100, 100, 46]], strB [[], [46, 97, 113], [46, 114, 108], [46, 97, 113, 46, 114, 108]]]) (fun k => 4 - k) 0 (2 ^ 54 - 1 - 2 ^ 0 - 2 ^ 6 - 2 ^ 7 - 2 ^ 8) ⟨by decide, hx⟩ ?_ ?_
      · exact ⟨rfl, ⟨⟨rfl, rfl, rfl⟩, trivial⟩, ⟨[], rfl⟩, ⟨⟨rfl, rfl, trivial⟩, ⟨rfl, rfl, rfl, rfl, trivial⟩, trivial⟩, rfl⟩
      · rintro k ⟨hk, hx⟩
        rcases (by omega : k = 0 ∨ k = 1 ∨ k = 2 ∨ k = 3 ∨ k = 4) with rfl | rfl | rfl | rfl | rfl
        · refine ⟨fun _ => ?_, fun h => no_tf h⟩
          refine WpC.loop tabOkF (β := Nat) (fun e => e ≤ 4 ∧ amFind (amNames.drop (0 + e)) nm = x) (fun e => [(10, .i .i64 e)]) (fun _ => [strB [[97, 109, 111, 115, 119, 97, 112, 46], [97, 109, 111, 97, 100, 100, 46]], strB [[], [46, 97, 113], [46, 114, 108], [46, 97, 113, 46, 114, 108]]]) (fun e => 4 - e) 0 (2 ^ 54 - 1 - 2 ^ 0 - 2 ^ 6 - 2 ^ 7 - 2 ^ 8 - 2 ^ 9) ⟨by decide, hx⟩ ?_ ?_
          · exact ⟨rfl, ⟨⟨rfl, rfl, rfl⟩, trivial⟩, ⟨[], rfl⟩, ⟨⟨rfl, rfl, trivial⟩, ⟨rfl, rfl, rfl, rfl, trivial⟩, trivial⟩, rfl⟩
          · rintro e ⟨he, hx⟩
            rcases (by omega : e = 0 ∨ e = 1 ∨ e = 2 ∨ e = 3 ∨ e = 4) with rfl | rfl | rfl | rfl | rfl
            rotate_left 4
            · refine ⟨fun h => no_ft h, fun _ => ?_⟩
              exact ⟨1, ⟨by decide, hx⟩, by decide, rfl, ⟨⟨rfl, rfl, rfl⟩, trivial⟩, ⟨[], rfl⟩, ⟨⟨rfl, rfl, trivial⟩, ⟨rfl, rfl, rfl, rfl, trivial⟩, trivial⟩, rfl⟩
            all_goals
              refine ⟨fun _ => ?_, fun h => no_tf h⟩
              refine WpC.dr tabOkF mixed 0 ?_
              refine ⟨fun _ => by decide, ?_⟩
              refine ⟨fun _ => by decide, ?_⟩
              refine OpD.callV rfl rfl rfl rfl rfl rfl rfl (fun _ => tail5_ok 2 1 (by decide) (by decide)) ?_
              refine ⟨fun _ => by decide, ?_⟩
              refine ⟨fun _ => by decide, ?_⟩
              refine ⟨fun _ => by decide, ?_⟩
              refine ⟨by kernel_rfl, ?_⟩
              refine ⟨fun h => ?_, fun h => ?_⟩
              · have hA := am_hit hx rfl (of_decide_eq_true h)
                subst hA
                refine ⟨fun h => no_ft h, fun _ => ?_⟩
                refine WpC.dr tabOkF mixed 0 ?_
                refine ⟨fun _ => by decide, ?_⟩
                refine ⟨by kernel_rfl, ?_⟩
                exact rfl
              · have hm := am_miss hx rfl rfl (of_decide_eq_false h)
                first
                  | exact ⟨1, ⟨by decide, hm⟩, by decide, rfl, ⟨⟨rfl, rfl, rfl⟩, trivial⟩, ⟨[], rfl⟩, ⟨⟨rfl, rfl, trivial⟩, ⟨rfl, rfl, rfl, rfl, trivial⟩, trivial⟩, rfl⟩
                  | exact ⟨2, ⟨by decide, hm⟩, by decide, rfl, ⟨⟨rfl, rfl, rfl⟩, trivial⟩, ⟨[], rfl⟩, ⟨⟨rfl, rfl, trivial⟩, ⟨rfl, rfl, rfl, rfl, trivial⟩, trivial⟩, rfl⟩
                  | exact ⟨3, ⟨by decide, hm⟩, by decide, rfl, ⟨⟨rfl, rfl, rfl⟩, trivial⟩, ⟨[], rfl⟩, ⟨⟨rfl, rfl, trivial⟩, ⟨rfl, rfl, rfl, rfl, trivial⟩, trivial⟩, rfl⟩
                  | exact ⟨4, ⟨by decide, hm⟩, by decide, rfl, ⟨⟨rfl, rfl, rfl⟩, trivial⟩, ⟨[], rfl⟩, ⟨⟨rfl, rfl, trivial⟩, ⟨rfl, rfl, rfl, rfl, trivial⟩, trivial⟩, rfl⟩
        · refine ⟨fun _ => ?_, fun h => no_tf h⟩
          refine WpC.loop tabOkF (β := Nat) (fun e => e ≤ 4 ∧ amFind (amNames.drop (4 + e)) nm = x) (fun e => [(10, .i .i64 e)]) (fun _ => [strB [[97, 109, 111, 115, 119, 97, 112, 46], [97, 109, 111, 97, 100, 100, 46]], strB [[], [46, 97, 113], [46, 114, 108], [46, 97, 113, 46, 114, 108]]]) (fun e => 4 - e) 0 (2 ^ 54 - 1 - 2 ^ 0 - 2 ^ 6 - 2 ^ 7 - 2 ^ 8 - 2 ^ 9) ⟨by decide, hx⟩ ?_ ?_
          · exact ⟨rfl, ⟨⟨rfl, rfl, rfl⟩, trivial⟩, ⟨[], rfl⟩, ⟨⟨rfl, rfl, trivial⟩, ⟨rfl, rfl, rfl, rfl, trivial⟩, trivial⟩, rfl⟩
          · rintro e ⟨he, hx⟩
            rcases (by omega : e = 0 ∨ e = 1 ∨ e = 2 ∨ e = 3 ∨ e = 4) with rfl | rfl | rfl | rfl | rfl
            rotate_left 4
            · refine ⟨fun h => no_ft h, fun _ => ?_⟩
              exact ⟨2, ⟨by decide, hx⟩, by decide, rfl, ⟨⟨rfl, rfl, rfl⟩, trivial⟩, ⟨[], rfl⟩, ⟨⟨rfl, rfl, trivial⟩, ⟨rfl, rfl, rfl, rfl, trivial⟩, trivial⟩, rfl⟩
            all_goals
              refine ⟨fun _ => ?_, fun h => no_tf h⟩
              refine WpC.dr tabOkF mixed 0 ?_
              refine ⟨fun _ => by decide, ?_⟩
              refine ⟨fun _ => by decide, ?_⟩
              refine OpD.callV rfl rfl rfl rfl rfl rfl rfl (fun _ => tail5_ok 2 2 (by decide) (by decide)) ?_
              refine ⟨fun _ => by decide, ?_⟩
              refine ⟨fun _ => by decide, ?_⟩
              refine ⟨fun _ => by decide, ?_⟩
              refine ⟨by kernel_rfl, ?_⟩
              refine ⟨fun h => ?_, fun h => ?_⟩
              · have hA := am_hit hx rfl (of_decide_eq_true h)
                subst hA
                refine ⟨fun h => no_ft h, fun _ => ?_⟩
                refine WpC.dr tabOkF mixed 0 ?_
                refine ⟨fun _ => by decide, ?_⟩
                refine ⟨by kernel_rfl, ?_⟩
                exact rfl
              · have hm := am_miss hx rfl rfl (of_decide_eq_false h)
                first
                  | exact ⟨1, ⟨by decide, hm⟩, by decide, rfl, ⟨⟨rfl, rfl, rfl⟩, trivial⟩, ⟨[], rfl⟩, ⟨⟨rfl, rfl, trivial⟩, ⟨rfl, rfl, rfl, rfl, trivial⟩, trivial⟩, rfl⟩
                  | exact ⟨2, ⟨by decide, hm⟩, by decide, rfl, ⟨⟨rfl, rfl, rfl⟩, trivial⟩, ⟨[], rfl⟩, ⟨⟨rfl, rfl, trivial⟩, ⟨rfl, rfl, rfl, rfl, trivial⟩, trivial⟩, rfl⟩
                  | exact ⟨3, ⟨by decide, hm⟩, by decide, rfl, ⟨⟨rfl, rfl, rfl⟩, trivial⟩, ⟨[], rfl⟩, ⟨⟨rfl, rfl, trivial⟩, ⟨rfl, rfl, rfl, rfl, trivial⟩, trivial⟩, rfl⟩
                  | exact ⟨4, ⟨by decide, hm⟩, by decide, rfl, ⟨⟨rfl, rfl, rfl⟩, trivial⟩, ⟨[], rfl⟩, ⟨⟨rfl, rfl, trivial⟩, ⟨rfl, rfl, rfl, rfl, trivial⟩, trivial⟩, rfl⟩
        · refine ⟨fun _ => ?_, fun h => no_tf h⟩
          refine WpC.loop tabOkF (β := Nat) (fun e => e ≤ 4 ∧ amFind (amNames.drop (8 + e)) nm = x) (fun e => [(10, .i .i64 e)]) (fun _ => [strB [[97, 109, 111, 115, 119, 97, 112, 46], [97, 109, 111, 97, 100, 100, 46]], strB [[], [46, 97, 113], [46, 114, 108], [46, 97, 113, 46, 114, 108]]]) (fun e => 4 - e) 0 (2 ^ 54 - 1 - 2 ^ 0 - 2 ^ 6 - 2 ^ 7 - 2 ^ 8 - 2 ^ 9) ⟨by decide, hx⟩ ?_ ?_
          · exact ⟨rfl, ⟨⟨rfl, rfl, rfl⟩, trivial⟩, ⟨[], rfl⟩, ⟨⟨rfl, rfl, trivial⟩, ⟨rfl, rfl, rfl, rfl, trivial⟩, trivial⟩, rfl⟩
          · rintro e ⟨he, hx⟩
            rcases (by omega : e = 0 ∨ e = 1 ∨ e = 2 ∨ e = 3 ∨ e = 4) with rfl | rfl | rfl | rfl | rfl
            rotate_left 4
            · refine ⟨fun h => no_ft h, fun _ => ?_⟩
              exact ⟨3, ⟨by decide, hx⟩, by decide, rfl, ⟨⟨rfl, rfl, rfl⟩, trivial⟩, ⟨[], rfl⟩, ⟨⟨rfl, rfl, trivial⟩, ⟨rfl, rfl, rfl, rfl, trivial⟩, trivial⟩, rfl⟩
            all_goals
              refine ⟨fun _ => ?_, fun h => no_tf h⟩
              refine WpC.dr tabOkF mixed 0 ?_
              refine ⟨fun _ => by decide, ?_⟩
              refine ⟨fun _ => by decide, ?_⟩
              refine OpD.callV rfl rfl rfl rfl rfl rfl rfl (fun _ => tail5_ok 2 4 (by decide) (by decide)) ?_
              refine ⟨fun _ => by decide, ?_⟩
              refine ⟨fun _ => by decide, ?_⟩
              refine ⟨fun _ => by decide, ?_⟩
              refine ⟨by kernel_rfl, ?_⟩
              refine ⟨fun h => ?_, fun h => ?_⟩
              · have hA := am_hit hx rfl (of_decide_eq_true h)
                subst hA
                refine ⟨fun h => no_ft h, fun _ => ?_⟩
                refine WpC.dr tabOkF mixed 0 ?_
                refine ⟨fun _ => by decide, ?_⟩
                refine ⟨by kernel_rfl, ?_⟩
                exact rfl
              · have hm := am_miss hx rfl rfl (of_decide_eq_false h)
                first
                  | exact ⟨1, ⟨by decide, hm⟩, by decide, rfl, ⟨⟨rfl, rfl, rfl⟩, trivial⟩, ⟨[], rfl⟩, ⟨⟨rfl, rfl, trivial⟩, ⟨rfl, rfl, rfl, rfl, trivial⟩, trivial⟩, rfl⟩
                  | exact ⟨2, ⟨by decide, hm⟩, by decide, rfl, ⟨⟨rfl, rfl, rfl⟩, trivial⟩, ⟨[], rfl⟩, ⟨⟨rfl, rfl, trivial⟩, ⟨rfl, rfl, rfl, rfl, trivial⟩, trivial⟩, rfl⟩
                  | exact ⟨3, ⟨by decide, hm⟩, by decide, rfl, ⟨⟨rfl, rfl, rfl⟩, trivial⟩, ⟨[], rfl⟩, ⟨⟨rfl, rfl, trivial⟩, ⟨rfl, rfl, rfl, rfl, trivial⟩, trivial⟩, rfl⟩
                  | exact ⟨4, ⟨by decide, hm⟩, by decide, rfl, ⟨⟨rfl, rfl, rfl⟩, trivial⟩, ⟨[], rfl⟩, ⟨⟨rfl, rfl, trivial⟩, ⟨rfl, rfl, rfl, rfl, trivial⟩, trivial⟩, rfl⟩
        · refine ⟨fun _ => ?_, fun h => no_tf h⟩
          refine WpC.loop tabOkF (β := Nat) (fun e => e ≤ 4 ∧ amFind (amNames.drop (12 + e)) nm = x) (fun e => [(10, .i .i64 e)]) (fun _ => [strB [[97, 109, 111, 115, 119, 97, 112, 46], [97, 109, 111, 97, 100, 100, 46]], strB [[], [46, 97, 113], [46, 114, 108], [46, 97, 113, 46, 114, 108]]]) (fun e => 4 - e) 0 (2 ^ 54 - 1 - 2 ^ 0 - 2 ^ 6 - 2 ^ 7 - 2 ^ 8 - 2 ^ 9) ⟨by decide, hx⟩ ?_ ?_
          · exact ⟨rfl, ⟨⟨rfl, rfl, rfl⟩, trivial⟩, ⟨[], rfl⟩, ⟨⟨rfl, rfl, trivial⟩, ⟨rfl, rfl, rfl, rfl, trivial⟩, trivial⟩, rfl⟩
          · rintro e ⟨he, hx⟩
            rcases (by omega : e = 0 ∨ e = 1 ∨ e = 2 ∨ e = 3 ∨ e = 4) with rfl | rfl | rfl | rfl | rfl
            rotate_left 4
            · refine ⟨fun h => no_ft h, fun _ => ?_⟩
              exact ⟨4, ⟨by decide, hx⟩, by decide, rfl, ⟨⟨rfl, rfl, rfl⟩, trivial⟩, ⟨[], rfl⟩, ⟨⟨rfl, rfl, trivial⟩, ⟨rfl, rfl, rfl, rfl, trivial⟩, trivial⟩, rfl⟩
            all_goals
              refine ⟨fun _ => ?_, fun h => no_tf h⟩
              refine WpC.dr tabOkF mixed 0 ?_
              refine ⟨fun _ => by decide, ?_⟩
              refine ⟨fun _ => by decide, ?_⟩
              refine OpD.callV rfl rfl rfl rfl rfl rfl rfl (fun _ => tail5_ok 2 8 (by decide) (by decide)) ?_
              refine ⟨fun _ => by decide, ?_⟩
              refine ⟨fun _ => by decide, ?_⟩
              refine ⟨fun _ => by decide, ?_⟩
              refine ⟨by kernel_rfl, ?_⟩
              refine ⟨fun h => ?_, fun h => ?_⟩
              · have hA := am_hit hx rfl (of_decide_eq_true h)
                subst hA
                refine ⟨fun h => no_ft h, fun _ => ?_⟩
                refine WpC.dr tabOkF mixed 0 ?_
                refine ⟨fun _ => by decide, ?_⟩
                refine ⟨by kernel_rfl, ?_⟩
                exact rfl
              · have hm := am_miss hx rfl rfl (of_decide_eq_false h)
                first
                  | exact ⟨1, ⟨by decide, hm⟩, by decide, rfl, ⟨⟨rfl, rfl, rfl⟩, trivial⟩, ⟨[], rfl⟩, ⟨⟨rfl, rfl, trivial⟩, ⟨rfl, rfl, rfl, rfl, trivial⟩, trivial⟩, rfl⟩
                  | exact ⟨2, ⟨by decide, hm⟩, by decide, rfl, ⟨⟨rfl, rfl, rfl⟩, trivial⟩, ⟨[], rfl⟩, ⟨⟨rfl, rfl, trivial⟩, ⟨rfl, rfl, rfl, rfl, trivial⟩, trivial⟩, rfl⟩
                  | exact ⟨3, ⟨by decide, hm⟩, by decide, rfl, ⟨⟨rfl, rfl, rfl⟩, trivial⟩, ⟨[], rfl⟩, ⟨⟨rfl, rfl, trivial⟩, ⟨rfl, rfl, rfl, rfl, trivial⟩, trivial⟩, rfl⟩
                  | exact ⟨4, ⟨by decide, hm⟩, by decide, rfl, ⟨⟨rfl, rfl, rfl⟩, trivial⟩, ⟨[], rfl⟩, ⟨⟨rfl, rfl, trivial⟩, ⟨rfl, rfl, rfl, rfl, trivial⟩, trivial⟩, rfl⟩
        · refine ⟨fun h => no_ft h, fun _ => ?_⟩
          exact ⟨1, ⟨by decide, hx⟩, by decide, rfl, ⟨⟨rfl, rfl, rfl⟩, trivial⟩, ⟨[], rfl⟩, ⟨⟨rfl, rfl, trivial⟩, ⟨rfl, rfl, rfl, rfl, trivial⟩, trivial⟩, rfl⟩
    · refine ⟨fun _ => ?_, fun h => no_tf h⟩
      refine WpC.loop tabOkF (β := Nat) (fun k => k ≤ 4 ∧ amFind (amNames.drop (16 + 4 * k)) nm = x) (fun k => [(9, .i .i64 k)]) (fun _ => [strB [[97, 109, 111, 115, 119, 97, 112, 46], [97, 109, 111, 97, 100, 100, 46]], strB [[], [46, 97, 113], [46, 114, 108], [46, 97, 113, 46, 114, 108]]]) (fun k => 4 - k) 0 (2 ^ 54 - 1 - 2 ^ 0 - 2 ^ 6 - 2 ^ 7 - 2 ^ 8) ⟨by decide, hx⟩ ?_ ?_
      · exact ⟨rfl, ⟨⟨rfl, rfl, rfl⟩, trivial⟩, ⟨[], rfl⟩, ⟨⟨rfl, rfl, trivial⟩, ⟨rfl, rfl, rfl, rfl, trivial⟩, trivial⟩, rfl⟩
      · rintro k ⟨hk, hx⟩
        rcases (by omega : k = 0 ∨ k = 1 ∨ k = 2 ∨ k = 3 ∨ k = 4) with rfl | rfl | rfl | rfl | rfl
        · refine ⟨fun _ => ?_, fun h => no_tf h⟩
          refine WpC.loop tabOkF (β := Nat) (fun e => e ≤ 4 ∧ amFind (amNames.drop (16 + e)) nm = x) (fun e => [(10, .i .i64 e)]) (fun _ => [strB [[97, 109, 111, 115, 119, 97, 112, 46], [97, 109, 111, 97, 100, 100, 46]], strB [[], [46, 97, 113], [46, 114, 108], [46, 97, 113, 46, 114, 108]]]) (fun e => 4 - e) 0 (2 ^ 54 - 1 - 2 ^ 0 - 2 ^ 6 - 2 ^ 7 - 2 ^ 8 - 2 ^ 9) ⟨by decide, hx⟩ ?_ ?_
          · exact ⟨rfl, ⟨⟨rfl, rfl, rfl⟩, trivial⟩, ⟨[], rfl⟩, ⟨⟨rfl, rfl, trivial⟩, ⟨rfl, rfl, rfl, rfl, trivial⟩, trivial⟩, rfl⟩
          · rintro e ⟨he, hx⟩
            rcases (by omega : e = 0 ∨ e = 1 ∨ e = 2 ∨ e = 3 ∨ e = 4) with rfl | rfl | rfl | rfl | rfl
            rotate_left 4
            · refine ⟨fun h => no_ft h, fun _ => ?_⟩
              exact ⟨1, ⟨by decide, hx⟩, by decide, rfl, ⟨⟨rfl, rfl, rfl⟩, trivial⟩, ⟨[], rfl⟩, ⟨⟨rfl, rfl, trivial⟩, ⟨rfl, rfl, rfl, rfl, trivial⟩, trivial⟩, rfl⟩
            all_goals
              refine ⟨fun _ => ?_, fun h => no_tf h⟩
              refine WpC.dr tabOkF mixed 0 ?_
              refine ⟨fun _ => by decide, ?_⟩
              refine ⟨fun _ => by decide, ?_⟩
              refine OpD.callV rfl rfl rfl rfl rfl rfl rfl (fun _ => tail5_ok 2 1 (by decide) (by decide)) ?_
              refine ⟨fun _ => by decide, ?_⟩
              refine ⟨fun _ => by decide, ?_⟩
              refine ⟨fun _ => by decide, ?_⟩
              refine ⟨by kernel_rfl, ?_⟩
              refine ⟨fun h => ?_, fun h => ?_⟩
              · have hA := am_hit hx rfl (of_decide_eq_true h)
                subst hA
                refine ⟨fun _ => ?_, fun h => no_tf h⟩
                refine WpC.dr tabOkF mixed 0 ?_
                refine ⟨fun _ => by decide, ?_⟩
                refine ⟨by kernel_rfl, ?_⟩
                exact rfl
              · have hm := am_miss hx rfl rfl (of_decide_eq_false h)
                first
                  | exact ⟨1, ⟨by decide, hm⟩, by decide, rfl, ⟨⟨rfl, rfl, rfl⟩, trivial⟩, ⟨[], rfl⟩, ⟨⟨rfl, rfl, trivial⟩, ⟨rfl, rfl, rfl, rfl, trivial⟩, trivial⟩, rfl⟩
                  | exact ⟨2, ⟨by decide, hm⟩, by decide, rfl, ⟨⟨rfl, rfl, rfl⟩, trivial⟩, ⟨[], rfl⟩, ⟨⟨rfl, rfl, trivial⟩, ⟨rfl, rfl, rfl, rfl, trivial⟩, trivial⟩, rfl⟩
                  | exact ⟨3, ⟨by decide, hm⟩, by decide, rfl, ⟨⟨rfl, rfl, rfl⟩, trivial⟩, ⟨[], rfl⟩, ⟨⟨rfl, rfl, trivial⟩, ⟨rfl, rfl, rfl, rfl, trivial⟩, trivial⟩, rfl⟩
                  | exact ⟨4, ⟨by decide, hm⟩, by decide, rfl, ⟨⟨rfl, rfl, rfl⟩, trivial⟩, ⟨[], rfl⟩, ⟨⟨rfl, rfl, trivial⟩, ⟨rfl, rfl, rfl, rfl, trivial⟩, trivial⟩, rfl⟩
        · refine ⟨fun _ => ?_, fun h => no_tf h⟩
          refine WpC.loop tabOkF (β := Nat) (fun e => e ≤ 4 ∧ amFind (amNames.drop (20 + e)) nm = x) (fun e => [(10, .i .i64 e)]) (fun _ => [strB [[97, 109, 111, 115, 119, 97, 112, 46], [97, 109, 111, 97, 100, 100, 46]], strB [[], [46, 97, 113], [46, 114, 108], [46, 97, 113, 46, 114, 108]]]) (fun e => 4 - e) 0 (2 ^ 54 - 1 - 2 ^ 0 - 2 ^ 6 - 2 ^ 7 - 2 ^ 8 - 2 ^ 9) ⟨by decide, hx⟩ ?_ ?_
          · exact ⟨rfl, ⟨⟨rfl, rfl, rfl⟩, trivial⟩, ⟨[], rfl⟩, ⟨⟨rfl, rfl, trivial⟩, ⟨rfl, rfl, rfl, rfl, trivial⟩, trivial⟩, rfl⟩
          · rintro e ⟨he, hx⟩
            rcases (by omega : e = 0 ∨ e = 1 ∨ e = 2 ∨ e = 3 ∨ e = 4) with rfl | rfl | rfl | rfl | rfl
            rotate_left 4
            · refine ⟨fun h => no_ft h, fun _ => ?_⟩
              exact ⟨2, ⟨by decide, hx⟩, by decide, rfl, ⟨⟨rfl, rfl, rfl⟩, trivial⟩, ⟨[], rfl⟩, ⟨⟨rfl, rfl, trivial⟩, ⟨rfl, rfl, rfl, rfl, trivial⟩, trivial⟩, rfl⟩
            all_goals
              refine ⟨fun _ => ?_, fun h => no_tf h⟩
              refine WpC.dr tabOkF mixed 0 ?_
              refine ⟨fun _ => by decide, ?_⟩
              refine ⟨fun _ => by decide, ?_⟩
              refine OpD.callV rfl rfl rfl rfl rfl rfl rfl (fun _ => tail5_ok 2 2 (by decide) (by decide)) ?_
              refine ⟨fun _ => by decide, ?_⟩
              refine ⟨fun _ => by decide, ?_⟩
              refine ⟨fun _ => by decide, ?_⟩
              refine ⟨by kernel_rfl, ?_⟩
              refine ⟨fun h => ?_, fun h => ?_⟩
              · have hA := am_hit hx rfl (of_decide_eq_true h)
                subst hA
                refine ⟨fun _ => ?_, fun h => no_tf h⟩
                refine WpC.dr tabOkF mixed 0 ?_
                refine ⟨fun _ => by decide, ?_⟩
                refine ⟨by kernel_rfl, ?_⟩
                exact rfl
              · have hm := am_miss hx rfl rfl (of_decide_eq_false h)
                first
                  | exact ⟨1, ⟨by decide, hm⟩, by decide, rfl, ⟨⟨rfl, rfl, rfl⟩, trivial⟩, ⟨[], rfl⟩, ⟨⟨rfl, rfl, trivial⟩, ⟨rfl, rfl, rfl, rfl, trivial⟩, trivial⟩, rfl⟩
                  | exact ⟨2, ⟨by decide, hm⟩, by decide, rfl, ⟨⟨rfl, rfl, rfl⟩, trivial⟩, ⟨[], rfl⟩, ⟨⟨rfl, rfl, trivial⟩, ⟨rfl, rfl, rfl, rfl, trivial⟩, trivial⟩, rfl⟩
                  | exact ⟨3, ⟨by decide, hm⟩, by decide, rfl, ⟨⟨rfl, rfl, rfl⟩, trivial⟩, ⟨[], rfl⟩, ⟨⟨rfl, rfl, trivial⟩, ⟨rfl, rfl, rfl, rfl, trivial⟩, trivial⟩, rfl⟩
                  | exact ⟨4, ⟨by decide, hm⟩, by decide, rfl, ⟨⟨rfl, rfl, rfl⟩, trivial⟩, ⟨[], rfl⟩, ⟨⟨rfl, rfl, trivial⟩, ⟨rfl, rfl, rfl, rfl, trivial⟩, trivial⟩, rfl⟩
        · refine ⟨fun _ => ?_, fun h => no_tf h⟩
          refine WpC.loop tabOkF (β := Nat) (fun e => e ≤ 4 ∧ amFind (amNames.drop (24 + e)) nm = x) (fun e => [(10, .i .i64 e)]) (fun _ => [strB [[97, 109, 111, 115, 119, 97, 112, 46], [97, 109, 111, 97, 100, 100, 46]], strB [[], [46, 97, 113], [46, 114, 108], [46, 97, 113, 46, 114, 108]]]) (fun e => 4 - e) 0 (2 ^ 54 - 1 - 2 ^ 0 - 2 ^ 6 - 2 ^ 7 - 2 ^ 8 - 2 ^ 9) ⟨by decide, hx⟩ ?_ ?_
          · exact ⟨rfl, ⟨⟨rfl, rfl, rfl⟩, trivial⟩, ⟨[], rfl⟩, ⟨⟨rfl, rfl, trivial⟩, ⟨rfl, rfl, rfl, rfl, trivial⟩, trivial⟩, rfl⟩
          · rintro e ⟨he, hx⟩
            rcases (by omega : e = 0 ∨ e = 1 ∨ e = 2 ∨ e = 3 ∨ e = 4) with rfl | rfl | rfl | rfl | rfl
            rotate_left 4
            · refine ⟨fun h => no_ft h, fun _ => ?_⟩
              exact ⟨3, ⟨by decide, hx⟩, by decide, rfl, ⟨⟨rfl, rfl, rfl⟩, trivial⟩, ⟨[], rfl⟩, ⟨⟨rfl, rfl, trivial⟩, ⟨rfl, rfl, rfl, rfl, trivial⟩, trivial⟩, rfl⟩
            all_goals
              refine ⟨fun _ => ?_, fun h => no_tf h⟩
              refine WpC.dr tabOkF mixed 0 ?_
              refine ⟨fun _ => by decide, ?_⟩
              refine ⟨fun _ => by decide, ?_⟩
              refine OpD.callV rfl rfl rfl rfl rfl rfl rfl (fun _ => tail5_ok 2 4 (by decide) (by decide)) ?_
              refine ⟨fun _ => by decide, ?_⟩
              refine ⟨fun _ => by decide, ?_⟩
              refine ⟨fun _ => by decide, ?_⟩
              refine ⟨by kernel_rfl, ?_⟩
              refine ⟨fun h => ?_, fun h => ?_⟩
              · have hA := am_hit hx rfl (of_decide_eq_true h)
                subst hA
                refine ⟨fun _ => ?_, fun h => no_tf h⟩
                refine WpC.dr tabOkF mixed 0 ?_
                refine ⟨fun _ => by decide, ?_⟩
                refine ⟨by kernel_rfl, ?_⟩
                exact rfl
              · have hm := am_miss hx rfl rfl (of_decide_eq_false h)
                first
                  | exact ⟨1, ⟨by decide, hm⟩, by decide, rfl, ⟨⟨rfl, rfl, rfl⟩, trivial⟩, ⟨[], rfl⟩, ⟨⟨rfl, rfl, trivial⟩, ⟨rfl, rfl, rfl, rfl, trivial⟩, trivial⟩, rfl⟩
                  | exact ⟨2, ⟨by decide, hm⟩, by decide, rfl, ⟨⟨rfl, rfl, rfl⟩, trivial⟩, ⟨[], rfl⟩, ⟨⟨rfl, rfl, trivial⟩, ⟨rfl, rfl, rfl, rfl, trivial⟩, trivial⟩, rfl⟩
                  | exact ⟨3, ⟨by decide, hm⟩, by decide, rfl, ⟨⟨rfl, rfl, rfl⟩, trivial⟩, ⟨[], rfl⟩, ⟨⟨rfl, rfl, trivial⟩, ⟨rfl, rfl, rfl, rfl, trivial⟩, trivial⟩, rfl⟩
                  | exact ⟨4, ⟨by decide, hm⟩, by decide, rfl, ⟨⟨rfl, rfl, rfl⟩, trivial⟩, ⟨[], rfl⟩, ⟨⟨rfl, rfl, trivial⟩, ⟨rfl, rfl, rfl, rfl, trivial⟩, trivial⟩, rfl⟩
        · refine ⟨fun _ => ?_, fun h => no_tf h⟩
          refine WpC.loop tabOkF (β := Nat) (fun e => e ≤ 4 ∧ amFind (amNames.drop (28 + e)) nm = x) (fun e => [(10, .i .i64 e)]) (fun _ => [strB [[97, 109, 111, 115, 119, 97, 112, 46], [97, 109, 111, 97, 100, 100, 46]], strB [[], [46, 97, 113], [46, 114, 108], [46, 97, 113, 46, 114, 108]]]) (fun e => 4 - e) 0 (2 ^ 54 - 1 - 2 ^ 0 - 2 ^ 6 - 2 ^ 7 - 2 ^ 8 - 2 ^ 9) ⟨by decide, hx⟩ ?_ ?_
          · exact ⟨rfl, ⟨⟨rfl, rfl, rfl⟩, trivial⟩, ⟨[], rfl⟩, ⟨⟨rfl, rfl, trivial⟩, ⟨rfl, rfl, rfl, rfl, trivial⟩, trivial⟩, rfl⟩
          · rintro e ⟨he, hx⟩
            rcases (by omega : e = 0 ∨ e = 1 ∨ e = 2 ∨ e = 3 ∨ e = 4) with rfl | rfl | rfl | rfl | rfl
            rotate_left 4
            · refine ⟨fun h => no_ft h, fun _ => ?_⟩
              exact ⟨4, ⟨by decide, hx⟩, by decide, rfl, ⟨⟨rfl, rfl, rfl⟩, trivial⟩, ⟨[], rfl⟩, ⟨⟨rfl, rfl, trivial⟩, ⟨rfl, rfl, rfl, rfl, trivial⟩, trivial⟩, rfl⟩
            all_goals
              refine ⟨fun _ => ?_, fun h => no_tf h⟩
              refine WpC.dr tabOkF mixed 0 ?_
              refine ⟨fun _ => by decide, ?_⟩
              refine ⟨fun _ => by decide, ?_⟩
              refine OpD.callV rfl rfl rfl rfl rfl rfl rfl (fun _ => tail5_ok 2 8 (by decide) (by decide)) ?_
              refine ⟨fun _ => by decide, ?_⟩
              refine ⟨fun _ => by decide, ?_⟩
              refine ⟨fun _ => by decide, ?_⟩
              refine ⟨by kernel_rfl, ?_⟩
              refine ⟨fun h => ?_, fun h => ?_⟩
              · have hA := am_hit hx rfl (of_decide_eq_true h)
                subst hA
                refine ⟨fun _ => ?_, fun h => no_tf h⟩
                refine WpC.dr tabOkF mixed 0 ?_
                refine ⟨fun _ => by decide, ?_⟩
                refine ⟨by kernel_rfl, ?_⟩
                exact rfl
              · have hm := am_miss hx rfl rfl (of_decide_eq_false h)
                first
                  | exact ⟨1, ⟨by decide, hm⟩, by decide, rfl, ⟨⟨rfl, rfl, rfl⟩, trivial⟩, ⟨[], rfl⟩, ⟨⟨rfl, rfl, trivial⟩, ⟨rfl, rfl, rfl, rfl, trivial⟩, trivial⟩, rfl⟩
                  | exact ⟨2, ⟨by decide, hm⟩, by decide, rfl, ⟨⟨rfl, rfl, rfl⟩, trivial⟩, ⟨[], rfl⟩, ⟨⟨rfl, rfl, trivial⟩, ⟨rfl, rfl, rfl, rfl, trivial⟩, trivial⟩, rfl⟩
                  | exact ⟨3, ⟨by decide, hm⟩, by decide, rfl, ⟨⟨rfl, rfl, rfl⟩, trivial⟩, ⟨[], rfl⟩, ⟨⟨rfl, rfl, trivial⟩, ⟨rfl, rfl, rfl, rfl, trivial⟩, trivial⟩, rfl⟩
                  | exact ⟨4, ⟨by decide, hm⟩, by decide, rfl, ⟨⟨rfl, rfl, rfl⟩, trivial⟩, ⟨[], rfl⟩, ⟨⟨rfl, rfl, trivial⟩, ⟨rfl, rfl, rfl, rfl, trivial⟩, trivial⟩, rfl⟩
        · refine ⟨fun h => no_ft h, fun _ => ?_⟩
          exact ⟨2, ⟨by decide, hx⟩, by decide, rfl, ⟨⟨rfl, rfl, rfl⟩, trivial⟩, ⟨[], rfl⟩, ⟨⟨rfl, rfl, trivial⟩, ⟨rfl, rfl, rfl, rfl, trivial⟩, trivial⟩, rfl⟩
    · refine ⟨fun h => no_ft h, fun _ => ?_⟩
      subst hx
      exact rfl
theorem Qk.bits (h : Qk c s) : Qk c (bitsR c.ts s).2 := by
  unfold bitsR
  split
  · split
    · rename_i hk; exact h.go (at_lt (by rw [hk.1]; decide))
    · exact h.odd _
  · exact h
theorem sideI_no {v : List UInt8} (h1 : ¬ v = [114]) (h2 : ¬ v = [119]) (h3 : ¬ v = [114, 119]) : sideI v = -1 := by unfold sideI; rw [if_neg h1, if_neg h2, if_neg h3]
theorem qbits_w (hk : Qk c s) : Ctr Tryz.prog 144 [.ptr 1 1 0 []] (hQ c s) (fun r h => r = .i .i64 (bitsR c.ts s).1 ∧ h = hQ c (bitsR c.ts s).2) := by
  obtain ⟨p, e0, q0⟩ := s
  have hpk := wpeek_ok (ad := c.ad) (cap := c.cap) hk.p
  unfold bitsR
  dsimp only at hpk ⊢
  by_cases he : e0 = 0
  · subst he
    rw [if_pos rfl]
    by_cases h1 : (tkAt c.ts p).k = 1
    · have hlt := at_lt (ts := c.ts) (p := p) (by rw [h1]; decide)
      by_cases e0 : (tkAt c.ts p).s = [114]
      · have hS : sideI (tkAt c.ts p).s = 1 := by rw [e0]; rfl
        rw [if_pos ⟨h1, by rw [hS]; decide⟩, hS]
        refine Ctr.enterH tabOkF (fn := Tryz.f144) rfl rfl rfl rfl rfl rfl bndQ2 (Nat.le_refl _) ?_
        refine OpC.callH rfl rfl rfl rfl [0] rfl (hpk) rfl rfl rfl rfl ⟨rfl, trivial⟩ rfl ?_
        refine ⟨fun h => no_ft h, fun _ => ?_⟩
        refine ⟨fun _ => ?_, fun h => ?_⟩
        rotate_left
        · have h : (decide (p < c.ts.length) && decide ((tkAt c.ts p).k = 1)) = false := h
          rw [decide_eq_true hlt, decide_eq_true h1] at h; cases h
        refine ⟨fun _ => ?_, fun h => ?_⟩
        rotate_left
        · have h : (decide ((tkAt c.ts p).s = [114])) = false := h
          rw [decide_eq_true e0] at h; cases h
        refine ⟨fun h => no_ft h, fun _ => ?_⟩
        refine OpC.callH rfl rfl rfl rfl [0] rfl (wnext_ok (ad := c.ad) (cap := c.cap) hlt hk.l) rfl rfl rfl rfl ⟨rfl, trivial⟩ rfl ?_
        exact ⟨rfl, _, rfl⟩
      by_cases e1 : (tkAt c.ts p).s = [119]
      · have hS : sideI (tkAt c.ts p).s = 2 := by rw [e1]; rfl
        rw [if_pos ⟨h1, by rw [hS]; decide⟩, hS]
        refine Ctr.enterH tabOkF (fn := Tryz.f144) rfl rfl rfl rfl rfl rfl bndQ2 (Nat.le_refl _) ?_
        refine OpC.callH rfl rfl rfl rfl [0] rfl (hpk) rfl rfl rfl rfl ⟨rfl, trivial⟩ rfl ?_
        refine ⟨fun h => no_ft h, fun _ => ?_⟩
        refine ⟨fun _ => ?_, fun h => ?_⟩
        rotate_left
        · have h : (decide (p < c.ts.length) && decide ((tkAt c.ts p).k = 1)) = false := h
          rw [decide_eq_true hlt, decide_eq_true h1] at h; cases h
        refine ⟨fun h => ?_, fun _ => ?_⟩
        · have h : (decide ((tkAt c.ts p).s = [114])) = true := h
          rw [decide_eq_false e0] at h; cases h
        refine ⟨fun _ => ?_, fun h => ?_⟩
        rotate_left
        · have h : (decide ((tkAt c.ts p).s = [119])) = false := h
          rw [decide_eq_true e1] at h; cases h
        refine ⟨fun h => no_ft h, fun _ => ?_⟩
        refine OpC.callH rfl rfl rfl rfl [0] rfl (wnext_ok (ad := c.ad) (cap := c.cap) hlt hk.l) rfl rfl rfl rfl ⟨rfl, trivial⟩ rfl ?_
        exact ⟨rfl, _, rfl⟩
      by_cases e2 : (tkAt c.ts p).s = [114, 119]
      · have hS : sideI (tkAt c.ts p).s = 3 := by rw [e2]; rfl
        rw [if_pos ⟨h1, by rw [hS]; decide⟩, hS]
        refine Ctr.enterH tabOkF (fn := Tryz.f144) rfl rfl rfl rfl rfl rfl bndQ2 (Nat.le_refl _) ?_
        refine OpC.callH rfl rfl rfl rfl [0] rfl (hpk) rfl rfl rfl rfl ⟨rfl, trivial⟩ rfl ?_
        refine ⟨fun h => no_ft h, fun _ => ?_⟩
        refine ⟨fun _ => ?_, fun h => ?_⟩
        rotate_left
        · have h : (decide (p < c.ts.length) && decide ((tkAt c.ts p).k = 1)) = false := h
          rw [decide_eq_true hlt, decide_eq_true h1] at h; cases h
        refine ⟨fun h => ?_, fun _ => ?_⟩
        · have h : (decide ((tkAt c.ts p).s = [114])) = true := h
          rw [decide_eq_false e0] at h; cases h
        refine ⟨fun h => ?_, fun _ => ?_⟩
        · have h : (decide ((tkAt c.ts p).s = [119])) = true := h
          rw [decide_eq_false e1] at h; cases h
        refine ⟨fun _ => ?_, fun h => ?_⟩
        rotate_left
        · have h : (decide ((tkAt c.ts p).s = [114, 119])) = false := h
          rw [decide_eq_true e2] at h; cases h
        refine ⟨fun h => no_ft h, fun _ => ?_⟩
        refine OpC.callH rfl rfl rfl rfl [0] rfl (wnext_ok (ad := c.ad) (cap := c.cap) hlt hk.l) rfl rfl rfl rfl ⟨rfl, trivial⟩ rfl ?_
        exact ⟨rfl, _, rfl⟩
      have hS := sideI_no e0 e1 e2
      rw [if_neg (by rw [hS]; intro hh; exact absurd hh.2 (by decide))]
      refine Ctr.enterH tabOkF (fn := Tryz.f144) rfl rfl rfl rfl rfl rfl bndQ2 (Nat.le_refl _) ?_
      refine OpC.callH rfl rfl rfl rfl [0] rfl (hpk) rfl rfl rfl rfl ⟨rfl, trivial⟩ rfl ?_
      refine ⟨fun h => no_ft h, fun _ => ?_⟩
      refine ⟨fun _ => ?_, fun h => ?_⟩
      rotate_left
      · have h : (decide (p < c.ts.length) && decide ((tkAt c.ts p).k = 1)) = false := h
        rw [decide_eq_true hlt, decide_eq_true h1] at h; cases h
      refine ⟨fun h => ?_, fun _ => ?_⟩
      · have h : (decide ((tkAt c.ts p).s = [114])) = true := h
        rw [decide_eq_false e0] at h; cases h
      refine ⟨fun h => ?_, fun _ => ?_⟩
      · have h : (decide ((tkAt c.ts p).s = [119])) = true := h
        rw [decide_eq_false e1] at h; cases h
      refine ⟨fun h => ?_, fun _ => ?_⟩
      · have h : (decide ((tkAt c.ts p).s = [114, 119])) = true := h
        rw [decide_eq_false e2] at h; cases h
      refine ⟨fun _ => ?_, fun h => no_tf h⟩
      refine OpC.callH rfl rfl rfl rfl [0, 1] rfl (qodd_ok (s := ⟨p, 0, q0⟩) hk true) rfl rfl rfl rfl ⟨rfl, rfl, trivial⟩ rfl ?_
      exact ⟨rfl, _, rfl⟩
    · rw [if_neg (fun hh => h1 hh.1)]
      refine Ctr.enterH tabOkF (fn := Tryz.f144) rfl rfl rfl rfl rfl rfl bndQ2 (Nat.le_refl _) ?_
      refine OpC.callH rfl rfl rfl rfl [0] rfl (hpk) rfl rfl rfl rfl ⟨rfl, trivial⟩ rfl ?_
      refine ⟨fun h => no_ft h, fun _ => ?_⟩
      refine ⟨fun h => ?_, fun _ => ?_⟩
      · have h : (decide (p < c.ts.length) && decide ((tkAt c.ts p).k = 1)) = true := h
        rw [decide_eq_false h1, Bool.and_false] at h; cases h
      refine ⟨fun _ => ?_, fun h => no_tf h⟩
      refine OpC.callH rfl rfl rfl rfl [0, 1] rfl (qodd_ok (s := ⟨p, 0, q0⟩) hk true) rfl rfl rfl rfl ⟨rfl, rfl, trivial⟩ rfl ?_
      exact ⟨rfl, _, rfl⟩
  · rw [if_neg he]
    refine Ctr.enterH tabOkF (fn := Tryz.f144) rfl rfl rfl rfl rfl rfl bndQ2 (Nat.le_refl _) ?_
    refine OpC.callH rfl rfl rfl rfl [0] rfl (hpk) rfl rfl rfl rfl ⟨rfl, trivial⟩ rfl ?_
    refine ⟨fun _ => ⟨rfl, _, rfl⟩, fun h => ?_⟩
    have h : (!decide (e0 = 0)) = false := h
    rw [decide_eq_false he] at h; cases h
theorem qthree_w (hL : QL c) (hk : Qk c s) (i : In) : Ctr Tryz.prog 143 [.ptr 1 1 0 [], .ptr 2 1 1 [], .ptr 2 1 2 [], .ptr 2 1 0 []] (hJ c s i)
    (fun r h => r = .tup [] ∧ h = hJ c (memR c.L c.ts { i with dst := (regR c.L c.ts s).1, a := (regR c.L c.ts (markR c.ts [44] (regR c.L c.ts s).2)).1 } (markR c.ts [44] (regR c.L c.ts (markR c.ts [44] (regR c.L c.ts s).2)).2)).2 (memR c.L c.ts { i with dst := (regR c.L c.ts s).1, a := (regR c.L c.ts (markR c.ts [44] (regR c.L c.ts s).2)).1 } (markR c.ts [44] (regR c.L c.ts (markR c.ts [44] (regR c.L c.ts s).2)).2)).1) := by
  obtain ⟨op, dst, a, b, imm, loc, off, ix, sz, fn, acq, wk, rel, pr, su, to, ze⟩ := i
  have hr := hk.reg
  have hm := hr.mark [44]
  have hr2 := hm.reg
  have hm2 := hr2.mark [44]
  refine Ctr.enterH tabOkF (fn := Tryz.f143) rfl rfl rfl rfl rfl rfl bndJ (Nat.le_refl _) ?_
  refine OpC.callH rfl rfl rfl rfl [0, 1] rfl (qreg_w hL hk) rfl rfl rfl rfl ⟨rfl, rfl, trivial⟩ rfl ?_
  refine OpC.callH rfl rfl rfl rfl [0, 1] rfl (qmark_w hr [44]) rfl rfl rfl rfl ⟨rfl, rfl, trivial⟩ rfl ?_
  refine OpC.callH rfl rfl rfl rfl [0, 1] rfl (qreg_w hL hm) rfl rfl rfl rfl ⟨rfl, rfl, trivial⟩ rfl ?_
  refine OpC.callH rfl rfl rfl rfl [0, 1] rfl (qmark_w hr2 [44]) rfl rfl rfl rfl ⟨rfl, rfl, trivial⟩ rfl ?_
  refine OpC.callH rfl rfl rfl rfl [0, 1, 2] rfl (qmem_w hL hm2 ⟨op, (regR c.L c.ts s).1, (regR c.L c.ts (markR c.ts [44] (regR c.L c.ts s).2)).1, b, imm, loc, off, ix, sz, fn, acq, wk, rel, pr, su, to, ze⟩) rfl rfl rfl rfl ⟨rfl, rfl, rfl, trivial⟩ rfl ?_
  exact ⟨rfl, _, rfl⟩
theorem qriscv_rk : QReadRk readVR lgR := by
  rintro ⟨a, L, ts, ad, cap⟩ s nm hL hk
  dsimp only at hL
  subst hL
  have hr := hk.reg
  have hm := hr.mark [44]
  have hm2 := hm.reg.mark [44]
  unfold readVR
  dsimp only
  repeat' split
  all_goals first
    | exact hk
    | exact hm.imm
    | exact hm.reg
    | exact hm2.imm
    | exact hm2.reg
    | exact hm.lab
    | exact hm.mem _
    | exact hm2.mem _
    | exact (hk.bits.mark [44]).bits
set_option maxHeartbeats 8000000 in
theorem qriscv_read : QReadOk readVR lgR 2 71 := by
  rintro ⟨a, L, ts, ad, cap⟩ s nm hL ha hQ hk hn
  dsimp only at hL ha
  subst hL ha
  have hal := alu2_w nm
  have hz1 := szd2_w nm [108] (by omega) (by decide)
  have hz2 := szd2_w nm [115] (by omega) (by decide)
  have ham := amo_w nm (amoR nm) rfl
  unfold readVR
  dsimp only
  rw [show szdF [98] [104] [119] [100] nm [108] = szdV nm [108] from rfl] at hz1
  rw [show szdF [98] [104] [119] [100] nm [115] = szdV nm [115] from rfl] at hz2
  generalize szdV nm [108] = ld at *
  generalize szdV nm [115] = st at *
  generalize amoR nm = x at *
  generalize aluV nm = f at *
  obtain ⟨f, fi⟩ := f
  obtain ⟨xf, xs, xa, xr⟩ := x
  dsimp only at hal ham ⊢
  have hr := hk.reg
  have hm := hr.mark [44]
  have hr2 := hm.reg
  have hm2 := hr2.mark [44]
  by_cases h1 : nm = [108, 105] ∨ nm = [109, 118]
  · rw [if_pos h1]
    by_cases h2 : nm = [108, 105]
    · rw [if_pos h2]
      refine Ctr.enterH tabOkF (fn := Tryz.f71) rfl rfl rfl rfl rfl rfl bndJ (Nat.le_refl _) ?_
      refine OpC.callV rfl rfl rfl rfl rfl rfl rfl (fun _ => hal) ?_
      refine OpC.callV rfl rfl rfl rfl rfl rfl rfl (fun _ => hz1) ?_
      refine OpC.callV rfl rfl rfl rfl rfl rfl rfl (fun _ => hz2) ?_
      refine OpC.callV rfl rfl rfl rfl rfl rfl rfl (fun _ => ham) ?_
      refine ⟨fun _ => ?_, fun h => ?_⟩
      rotate_left
      · have h : (decide (nm = [108, 105]) || decide (nm = [109, 118])) = false := h
        simp only [Bool.or_eq_false_iff, decide_eq_false_iff_not] at h; exact absurd h1 (fun hh => hh.elim h.1 h.2)
      refine OpC.callH rfl rfl rfl rfl [0, 1] rfl (qreg_w hQ hk) rfl rfl rfl rfl ⟨rfl, rfl, trivial⟩ rfl ?_
      refine OpC.callH rfl rfl rfl rfl [0, 1] rfl (qmark_w hr [44]) rfl rfl rfl rfl ⟨rfl, rfl, trivial⟩ rfl ?_
      refine ⟨fun _ => ?_, fun h => ?_⟩
      rotate_left
      · have h : (decide (nm = [108, 105])) = false := h
        rw [decide_eq_true h2] at h; cases h
      refine OpC.callH rfl rfl rfl rfl [0, 1] rfl (qimm_w hQ hm) rfl rfl rfl rfl ⟨rfl, rfl, trivial⟩ rfl ?_
      exact ⟨rfl, _, rfl⟩
    · rw [if_neg h2]
      refine Ctr.enterH tabOkF (fn := Tryz.f71) rfl rfl rfl rfl rfl rfl bndJ (Nat.le_refl _) ?_
      refine OpC.callV rfl rfl rfl rfl rfl rfl rfl (fun _ => hal) ?_
      refine OpC.callV rfl rfl rfl rfl rfl rfl rfl (fun _ => hz1) ?_
      refine OpC.callV rfl rfl rfl rfl rfl rfl rfl (fun _ => hz2) ?_
      refine OpC.callV rfl rfl rfl rfl rfl rfl rfl (fun _ => ham) ?_
      refine ⟨fun _ => ?_, fun h => ?_⟩
      rotate_left
      · have h : (decide (nm = [108, 105]) || decide (nm = [109, 118])) = false := h
        simp only [Bool.or_eq_false_iff, decide_eq_false_iff_not] at h; exact absurd h1 (fun hh => hh.elim h.1 h.2)
      refine OpC.callH rfl rfl rfl rfl [0, 1] rfl (qreg_w hQ hk) rfl rfl rfl rfl ⟨rfl, rfl, trivial⟩ rfl ?_
      refine OpC.callH rfl rfl rfl rfl [0, 1] rfl (qmark_w hr [44]) rfl rfl rfl rfl ⟨rfl, rfl, trivial⟩ rfl ?_
      refine ⟨fun h => ?_, fun _ => ?_⟩
      · have h : (decide (nm = [108, 105])) = true := h
        rw [decide_eq_false h2] at h; cases h
      refine OpC.callH rfl rfl rfl rfl [0, 1] rfl (qreg_w hQ hm) rfl rfl rfl rfl ⟨rfl, rfl, trivial⟩ rfl ?_
      exact ⟨rfl, _, rfl⟩
  rw [if_neg h1]
  by_cases h3 : 0 < f
  · rw [if_pos h3]
    cases fi with
    | true =>
      rw [if_pos rfl]
      refine Ctr.enterH tabOkF (fn := Tryz.f71) rfl rfl rfl rfl rfl rfl bndJ (Nat.le_refl _) ?_
      refine OpC.callV rfl rfl rfl rfl rfl rfl rfl (fun _ => hal) ?_
      refine OpC.callV rfl rfl rfl rfl rfl rfl rfl (fun _ => hz1) ?_
      refine OpC.callV rfl rfl rfl rfl rfl rfl rfl (fun _ => hz2) ?_
      refine OpC.callV rfl rfl rfl rfl rfl rfl rfl (fun _ => ham) ?_
      refine ⟨fun h => ?_, fun _ => ?_⟩
      · have h : (decide (nm = [108, 105]) || decide (nm = [109, 118])) = true := h
        simp only [Bool.or_eq_true, decide_eq_true_eq] at h; exact absurd h h1
      refine ⟨fun _ => ?_, fun h => ?_⟩
      rotate_left
      · have h : (decide ((0 : Int) < f)) = false := h
        rw [decide_eq_true h3] at h; cases h
      refine OpC.callH rfl rfl rfl rfl [0, 1] rfl (qreg_w hQ hk) rfl rfl rfl rfl ⟨rfl, rfl, trivial⟩ rfl ?_
      refine OpC.callH rfl rfl rfl rfl [0, 1] rfl (qmark_w hr [44]) rfl rfl rfl rfl ⟨rfl, rfl, trivial⟩ rfl ?_
      refine OpC.callH rfl rfl rfl rfl [0, 1] rfl (qreg_w hQ hm) rfl rfl rfl rfl ⟨rfl, rfl, trivial⟩ rfl ?_
      refine OpC.callH rfl rfl rfl rfl [0, 1] rfl (qmark_w hr2 [44]) rfl rfl rfl rfl ⟨rfl, rfl, trivial⟩ rfl ?_
      refine ⟨fun _ => ?_, fun h => no_tf h⟩
      refine OpC.callH rfl rfl rfl rfl [0, 1] rfl (qimm_w hQ hm2) rfl rfl rfl rfl ⟨rfl, rfl, trivial⟩ rfl ?_
      exact ⟨rfl, _, rfl⟩
    | false =>
      rw [if_neg (by decide)]
      refine Ctr.enterH tabOkF (fn := Tryz.f71) rfl rfl rfl rfl rfl rfl bndJ (Nat.le_refl _) ?_
      refine OpC.callV rfl rfl rfl rfl rfl rfl rfl (fun _ => hal) ?_
      refine OpC.callV rfl rfl rfl rfl rfl rfl rfl (fun _ => hz1) ?_
      refine OpC.callV rfl rfl rfl rfl rfl rfl rfl (fun _ => hz2) ?_
      refine OpC.callV rfl rfl rfl rfl rfl rfl rfl (fun _ => ham) ?_
      refine ⟨fun h => ?_, fun _ => ?_⟩
      · have h : (decide (nm = [108, 105]) || decide (nm = [109, 118])) = true := h
        simp only [Bool.or_eq_true, decide_eq_true_eq] at h; exact absurd h h1
      refine ⟨fun _ => ?_, fun h => ?_⟩
      rotate_left
      · have h : (decide ((0 : Int) < f)) = false := h
        rw [decide_eq_true h3] at h; cases h
      refine OpC.callH rfl rfl rfl rfl [0, 1] rfl (qreg_w hQ hk) rfl rfl rfl rfl ⟨rfl, rfl, trivial⟩ rfl ?_
      refine OpC.callH rfl rfl rfl rfl [0, 1] rfl (qmark_w hr [44]) rfl rfl rfl rfl ⟨rfl, rfl, trivial⟩ rfl ?_
      refine OpC.callH rfl rfl rfl rfl [0, 1] rfl (qreg_w hQ hm) rfl rfl rfl rfl ⟨rfl, rfl, trivial⟩ rfl ?_
      refine OpC.callH rfl rfl rfl rfl [0, 1] rfl (qmark_w hr2 [44]) rfl rfl rfl rfl ⟨rfl, rfl, trivial⟩ rfl ?_
      refine ⟨fun h => no_ft h, fun _ => ?_⟩
      refine OpC.callH rfl rfl rfl rfl [0, 1] rfl (qreg_w hQ hm2) rfl rfl rfl rfl ⟨rfl, rfl, trivial⟩ rfl ?_
      exact ⟨rfl, _, rfl⟩
  rw [if_neg h3]
  by_cases h4 : 0 < ld
  · rw [if_pos h4]
    refine Ctr.enterH tabOkF (fn := Tryz.f71) rfl rfl rfl rfl rfl rfl bndJ (Nat.le_refl _) ?_
    refine OpC.callV rfl rfl rfl rfl rfl rfl rfl (fun _ => hal) ?_
    refine OpC.callV rfl rfl rfl rfl rfl rfl rfl (fun _ => hz1) ?_
    refine OpC.callV rfl rfl rfl rfl rfl rfl rfl (fun _ => hz2) ?_
    refine OpC.callV rfl rfl rfl rfl rfl rfl rfl (fun _ => ham) ?_
    refine ⟨fun h => ?_, fun _ => ?_⟩
    · have h : (decide (nm = [108, 105]) || decide (nm = [109, 118])) = true := h
      simp only [Bool.or_eq_true, decide_eq_true_eq] at h; exact absurd h h1
    refine ⟨fun h => ?_, fun _ => ?_⟩
    · have h : (decide ((0 : Int) < f)) = true := h
      rw [decide_eq_false h3] at h; cases h
    refine ⟨fun _ => ?_, fun h => ?_⟩
    rotate_left
    · have h : (decide ((0 : Int) < ld)) = false := h
      rw [decide_eq_true h4] at h; cases h
    refine OpC.callH rfl rfl rfl rfl [0, 1] rfl (qreg_w hQ hk) rfl rfl rfl rfl ⟨rfl, rfl, trivial⟩ rfl ?_
    refine OpC.callH rfl rfl rfl rfl [0, 1] rfl (qmark_w hr [44]) rfl rfl rfl rfl ⟨rfl, rfl, trivial⟩ rfl ?_
    refine OpC.callH rfl rfl rfl rfl [0, 1, 2] rfl (qmem_w hQ hm { blkI with op := 4, sz := ld, dst := (regR lgR ts s).1 }) rfl rfl rfl rfl ⟨rfl, rfl, rfl, trivial⟩ rfl ?_
    exact ⟨rfl, _, rfl⟩
  rw [if_neg h4]
  by_cases h5 : 0 < st
  · rw [if_pos h5]
    refine Ctr.enterH tabOkF (fn := Tryz.f71) rfl rfl rfl rfl rfl rfl bndJ (Nat.le_refl _) ?_
    refine OpC.callV rfl rfl rfl rfl rfl rfl rfl (fun _ => hal) ?_
    refine OpC.callV rfl rfl rfl rfl rfl rfl rfl (fun _ => hz1) ?_
    refine OpC.callV rfl rfl rfl rfl rfl rfl rfl (fun _ => hz2) ?_
    refine OpC.callV rfl rfl rfl rfl rfl rfl rfl (fun _ => ham) ?_
    refine ⟨fun h => ?_, fun _ => ?_⟩
    · have h : (decide (nm = [108, 105]) || decide (nm = [109, 118])) = true := h
      simp only [Bool.or_eq_true, decide_eq_true_eq] at h; exact absurd h h1
    refine ⟨fun h => ?_, fun _ => ?_⟩
    · have h : (decide ((0 : Int) < f)) = true := h
      rw [decide_eq_false h3] at h; cases h
    refine ⟨fun h => ?_, fun _ => ?_⟩
    · have h : (decide ((0 : Int) < ld)) = true := h
      rw [decide_eq_false h4] at h; cases h
    refine ⟨fun _ => ?_, fun h => ?_⟩
    rotate_left
    · have h : (decide ((0 : Int) < st)) = false := h
      rw [decide_eq_true h5] at h; cases h
    refine OpC.callH rfl rfl rfl rfl [0, 1] rfl (qreg_w hQ hk) rfl rfl rfl rfl ⟨rfl, rfl, trivial⟩ rfl ?_
    refine OpC.callH rfl rfl rfl rfl [0, 1] rfl (qmark_w hr [44]) rfl rfl rfl rfl ⟨rfl, rfl, trivial⟩ rfl ?_
    refine OpC.callH rfl rfl rfl rfl [0, 1, 2] rfl (qmem_w hQ hm { blkI with op := 5, sz := st, a := (regR lgR ts s).1 }) rfl rfl rfl rfl ⟨rfl, rfl, rfl, trivial⟩ rfl ?_
    exact ⟨rfl, _, rfl⟩
  rw [if_neg h5]
  by_cases h6 : 0 < xf
  · rw [if_pos h6]
    refine Ctr.enterH tabOkF (fn := Tryz.f71) rfl rfl rfl rfl rfl rfl bndJ (Nat.le_refl _) ?_
    refine OpC.callV rfl rfl rfl rfl rfl rfl rfl (fun _ => hal) ?_
    refine OpC.callV rfl rfl rfl rfl rfl rfl rfl (fun _ => hz1) ?_
    refine OpC.callV rfl rfl rfl rfl rfl rfl rfl (fun _ => hz2) ?_
    refine OpC.callV rfl rfl rfl rfl rfl rfl rfl (fun _ => ham) ?_
    refine ⟨fun h => ?_, fun _ => ?_⟩
    · have h : (decide (nm = [108, 105]) || decide (nm = [109, 118])) = true := h
      simp only [Bool.or_eq_true, decide_eq_true_eq] at h; exact absurd h h1
    refine ⟨fun h => ?_, fun _ => ?_⟩
    · have h : (decide ((0 : Int) < f)) = true := h
      rw [decide_eq_false h3] at h; cases h
    refine ⟨fun h => ?_, fun _ => ?_⟩
    · have h : (decide ((0 : Int) < ld)) = true := h
      rw [decide_eq_false h4] at h; cases h
    refine ⟨fun h => ?_, fun _ => ?_⟩
    · have h : (decide ((0 : Int) < st)) = true := h
      rw [decide_eq_false h5] at h; cases h
    refine ⟨fun _ => ?_, fun h => ?_⟩
    rotate_left
    · have h : (decide ((0 : Int) < xf)) = false := h
      rw [decide_eq_true h6] at h; cases h
    refine WpC.dr tabOkF mixed 0 ?_
    refine OpD.callL rfl rfl rfl rfl [0, 1, 2] 0 rfl rfl (qthree_w hQ hk { blkI with op := 6, fn := xf, sz := xs, acq := xa, rel := xr }) rfl rfl rfl rfl ⟨rfl, rfl, rfl, trivial⟩ rfl rfl ?_
    refine ⟨by kernel_rfl, ?_⟩
    exact ⟨rfl, _, rfl⟩
  rw [if_neg h6]
  by_cases h7 : nm = [102, 101, 110, 99, 101]
  · rw [if_pos h7]
    have hb := hk.bits
    have hbm := hb.mark [44]
    refine Ctr.enterH tabOkF (fn := Tryz.f71) rfl rfl rfl rfl rfl rfl bndJ (Nat.le_refl _) ?_
    refine OpC.callV rfl rfl rfl rfl rfl rfl rfl (fun _ => hal) ?_
    refine OpC.callV rfl rfl rfl rfl rfl rfl rfl (fun _ => hz1) ?_
    refine OpC.callV rfl rfl rfl rfl rfl rfl rfl (fun _ => hz2) ?_
    refine OpC.callV rfl rfl rfl rfl rfl rfl rfl (fun _ => ham) ?_
    refine ⟨fun h => ?_, fun _ => ?_⟩
    · have h : (decide (nm = [108, 105]) || decide (nm = [109, 118])) = true := h
      simp only [Bool.or_eq_true, decide_eq_true_eq] at h; exact absurd h h1
    refine ⟨fun h => ?_, fun _ => ?_⟩
    · have h : (decide ((0 : Int) < f)) = true := h
      rw [decide_eq_false h3] at h; cases h
    refine ⟨fun h => ?_, fun _ => ?_⟩
    · have h : (decide ((0 : Int) < ld)) = true := h
      rw [decide_eq_false h4] at h; cases h
    refine ⟨fun h => ?_, fun _ => ?_⟩
    · have h : (decide ((0 : Int) < st)) = true := h
      rw [decide_eq_false h5] at h; cases h
    refine ⟨fun h => ?_, fun _ => ?_⟩
    · have h : (decide ((0 : Int) < xf)) = true := h
      rw [decide_eq_false h6] at h; cases h
    refine ⟨fun _ => ?_, fun h => ?_⟩
    rotate_left
    · have h : (decide (nm = [102, 101, 110, 99, 101])) = false := h
      rw [decide_eq_true h7] at h; cases h
    refine OpC.callH rfl rfl rfl rfl [0, 1] rfl (qbits_w hk) rfl rfl rfl rfl ⟨rfl, rfl, trivial⟩ rfl ?_
    refine OpC.callH rfl rfl rfl rfl [0, 1] rfl (qmark_w hb [44]) rfl rfl rfl rfl ⟨rfl, rfl, trivial⟩ rfl ?_
    refine OpC.callH rfl rfl rfl rfl [0, 1] rfl (qbits_w hbm) rfl rfl rfl rfl ⟨rfl, rfl, trivial⟩ rfl ?_
    exact ⟨rfl, _, rfl⟩
  rw [if_neg h7]
  by_cases h8 : nm = [98, 101, 113, 122] ∨ nm = [98, 110, 101, 122]
  · rw [if_pos h8]
    refine Ctr.enterH tabOkF (fn := Tryz.f71) rfl rfl rfl rfl rfl rfl bndJ (Nat.le_refl _) ?_
    refine OpC.callV rfl rfl rfl rfl rfl rfl rfl (fun _ => hal) ?_
    refine OpC.callV rfl rfl rfl rfl rfl rfl rfl (fun _ => hz1) ?_
    refine OpC.callV rfl rfl rfl rfl rfl rfl rfl (fun _ => hz2) ?_
    refine OpC.callV rfl rfl rfl rfl rfl rfl rfl (fun _ => ham) ?_
    refine ⟨fun h => ?_, fun _ => ?_⟩
    · have h : (decide (nm = [108, 105]) || decide (nm = [109, 118])) = true := h
      simp only [Bool.or_eq_true, decide_eq_true_eq] at h; exact absurd h h1
    refine ⟨fun h => ?_, fun _ => ?_⟩
    · have h : (decide ((0 : Int) < f)) = true := h
      rw [decide_eq_false h3] at h; cases h
    refine ⟨fun h => ?_, fun _ => ?_⟩
    · have h : (decide ((0 : Int) < ld)) = true := h
      rw [decide_eq_false h4] at h; cases h
    refine ⟨fun h => ?_, fun _ => ?_⟩
    · have h : (decide ((0 : Int) < st)) = true := h
      rw [decide_eq_false h5] at h; cases h
    refine ⟨fun h => ?_, fun _ => ?_⟩
    · have h : (decide ((0 : Int) < xf)) = true := h
      rw [decide_eq_false h6] at h; cases h
    refine ⟨fun h => ?_, fun _ => ?_⟩
    · have h : (decide (nm = [102, 101, 110, 99, 101])) = true := h
      rw [decide_eq_false h7] at h; cases h
    refine ⟨fun _ => ?_, fun h => ?_⟩
    rotate_left
    · have h : (decide (nm = [98, 101, 113, 122]) || decide (nm = [98, 110, 101, 122])) = false := h
      simp only [Bool.or_eq_false_iff, decide_eq_false_iff_not] at h; exact absurd h8 (fun hh => hh.elim h.1 h.2)
    refine OpC.callH rfl rfl rfl rfl [0, 1, 2] rfl (qbranch_w hQ hk blkI (decide (nm = [98, 101, 113, 122]))) rfl rfl rfl rfl ⟨rfl, rfl, rfl, trivial⟩ rfl ?_
    exact ⟨rfl, _, rfl⟩
  rw [if_neg h8]
  refine Ctr.enterH tabOkF (fn := Tryz.f71) rfl rfl rfl rfl rfl rfl bndJ (Nat.le_refl _) ?_
  refine OpC.callV rfl rfl rfl rfl rfl rfl rfl (fun _ => hal) ?_
  refine OpC.callV rfl rfl rfl rfl rfl rfl rfl (fun _ => hz1) ?_
  refine OpC.callV rfl rfl rfl rfl rfl rfl rfl (fun _ => hz2) ?_
  refine OpC.callV rfl rfl rfl rfl rfl rfl rfl (fun _ => ham) ?_
  refine ⟨fun h => ?_, fun _ => ?_⟩
  · have h : (decide (nm = [108, 105]) || decide (nm = [109, 118])) = true := h
    simp only [Bool.or_eq_true, decide_eq_true_eq] at h; exact absurd h h1
  refine ⟨fun h => ?_, fun _ => ?_⟩
  · have h : (decide ((0 : Int) < f)) = true := h
    rw [decide_eq_false h3] at h; cases h
  refine ⟨fun h => ?_, fun _ => ?_⟩
  · have h : (decide ((0 : Int) < ld)) = true := h
    rw [decide_eq_false h4] at h; cases h
  refine ⟨fun h => ?_, fun _ => ?_⟩
  · have h : (decide ((0 : Int) < st)) = true := h
    rw [decide_eq_false h5] at h; cases h
  refine ⟨fun h => ?_, fun _ => ?_⟩
  · have h : (decide ((0 : Int) < xf)) = true := h
    rw [decide_eq_false h6] at h; cases h
  refine ⟨fun h => ?_, fun _ => ?_⟩
  · have h : (decide (nm = [102, 101, 110, 99, 101])) = true := h
    rw [decide_eq_false h7] at h; cases h
  refine ⟨fun h => ?_, fun _ => ?_⟩
  · have h : (decide (nm = [98, 101, 113, 122]) || decide (nm = [98, 110, 101, 122])) = true := h
    simp only [Bool.or_eq_true, decide_eq_true_eq] at h; exact absurd h h8
  exact ⟨rfl, _, rfl⟩
end SX
end Go.Proofs.YtlgjjklikbpcoaaGreatDoor

/- The reference: registers of RISC-V and Arm, by name; Parse. Written by qwf.py. -/
set_option linter.unusedVariables false
set_option maxRecDepth 100000
namespace Go.Proofs.YtlgjjklikbpcoaaGreatDoor
namespace SX
open Go Go.Proofs
set_option maxHeartbeats 1000000 in
theorem rreg2_ok (v : List UInt8) : CtrV Tryz.prog 28 [.i .i64 2, .s v] (.i .i64 (idxF [97, 48] [97, 49] [97, 50] [97, 51] [97, 52] [97, 53] [97, 54] [97, 55] v)) := by
  refine Ctr.enterV tabOkF (fn := Tryz.f28) rfl rfl rfl rfl rfl rfl ?_
  refine WpC.loop tabOkF (β := Nat) (fun k => k ≤ 8 ∧ (0 < k → v ≠ [97, 48]) ∧ (1 < k → v ≠ [97, 49]) ∧ (2 < k → v ≠ [97, 50]) ∧ (3 < k → v ≠ [97, 51]) ∧ (4 < k → v ≠ [97, 52]) ∧ (5 < k → v ≠ [97, 53]) ∧ (6 < k → v ≠ [97, 54]) ∧ (7 < k → v ≠ [97, 55])) (fun k => [(5, .i .i64 k)]) (fun _ => []) (fun k => 8 - k) 0 1048560 ⟨by decide, fun h => absurd h (by decide), fun h => absurd h (by decide), fun h => absurd h (by decide), fun h => absurd h (by decide), fun h => absurd h (by decide), fun h => absurd h (by decide), fun h => absurd h (by decide), fun h => absurd h (by decide)⟩ ?_ ?_
  · exact ⟨rfl, ⟨⟨rfl, rfl, rfl⟩, trivial⟩, ⟨[], rfl⟩, trivial, rfl⟩
  · rintro k ⟨hk, q0, q1, q2, q3, q4, q5, q6, q7⟩
    rcases (by omega : k = 0 ∨ k = 1 ∨ k = 2 ∨ k = 3 ∨ k = 4 ∨ k = 5 ∨ k = 6 ∨ k = 7 ∨ k = 8) with rfl | rfl | rfl | rfl | rfl | rfl | rfl | rfl | rfl
    · refine ⟨fun _ => ?_, fun h => absurd h (by decide)⟩
      refine OpC.callV rfl rfl rfl rfl rfl rfl rfl (fun _ => rname_ok 2 0) ?_
      refine ⟨fun h => ?_, fun h => ?_⟩
      · have h : ((!decide (v = [])) && decide ([97, 48] = v)) = true := h
        have e : v = [97, 48] := by simp at h; exact h.2.symm
        refine i_cg ?_
        unfold idxF
        rw [if_pos e]
        rfl
      · have h : ((!decide (v = [])) && decide ([97, 48] = v)) = false := h
        have e0 : ¬ v = [97, 48] := fun e => by subst e; exact absurd h (by decide)
        exact ⟨1, ⟨by decide, fun _ => e0, fun h => absurd h (by decide), fun h => absurd h (by decide), fun h => absurd h (by decide), fun h => absurd h (by decide), fun h => absurd h (by decide), fun h => absurd h (by decide), fun h => absurd h (by decide)⟩, by decide, rfl, ⟨⟨rfl, rfl, rfl⟩, trivial⟩, ⟨[], rfl⟩, trivial, rfl⟩
    · have e0 := q0 (by decide)
      refine ⟨fun _ => ?_, fun h => absurd h (by decide)⟩
      refine OpC.callV rfl rfl rfl rfl rfl rfl rfl (fun _ => rname_ok 2 1) ?_
      refine ⟨fun h => ?_, fun h => ?_⟩
      · have h : ((!decide (v = [])) && decide ([97, 49] = v)) = true := h
        have e : v = [97, 49] := by simp at h; exact h.2.symm
        refine i_cg ?_
        unfold idxF
        rw [if_neg e0]
        rw [if_pos e]
        rfl
      · have h : ((!decide (v = [])) && decide ([97, 49] = v)) = false := h
        have e1 : ¬ v = [97, 49] := fun e => by subst e; exact absurd h (by decide)
        exact ⟨2, ⟨by decide, fun _ => e0, fun _ => e1, fun h => absurd h (by decide), fun h => absurd h (by decide), fun h => absurd h (by decide), fun h => absurd h (by decide), fun h => absurd h (by decide), fun h => absurd h (by decide)⟩, by decide, rfl, ⟨⟨rfl, rfl, rfl⟩, trivial⟩, ⟨[], rfl⟩, trivial, rfl⟩
    · have e0 := q0 (by decide)
      have e1 := q1 (by decide)
      refine ⟨fun _ => ?_, fun h => absurd h (by decide)⟩
      refine OpC.callV rfl rfl rfl rfl rfl rfl rfl (fun _ => rname_ok 2 2) ?_
      refine ⟨fun h => ?_, fun h => ?_⟩
      · have h : ((!decide (v = [])) && decide ([97, 50] = v)) = true := h
        have e : v = [97, 50] := by simp at h; exact h.2.symm
        refine i_cg ?_
        unfold idxF
        rw [if_neg e0]
        rw [if_neg e1]
        rw [if_pos e]
        rfl
      · have h : ((!decide (v = [])) && decide ([97, 50] = v)) = false := h
        have e2 : ¬ v = [97, 50] := fun e => by subst e; exact absurd h (by decide)
        exact ⟨3, ⟨by decide, fun _ => e0, fun _ => e1, fun _ => e2, fun h => absurd h (by decide), fun h => absurd h (by decide), fun h => absurd h (by decide), fun h => absurd h (by decide), fun h => absurd h (by decide)⟩, by decide, rfl, ⟨⟨rfl, rfl, rfl⟩, trivial⟩, ⟨[], rfl⟩, trivial, rfl⟩
    · have e0 := q0 (by decide)
      have e1 := q1 (by decide)
      have e2 := q2 (by decide)
      refine ⟨fun _ => ?_, fun h => absurd h (by decide)⟩
      refine OpC.callV rfl rfl rfl rfl rfl rfl rfl (fun _ => rname_ok 2 3) ?_
      refine ⟨fun h => ?_, fun h => ?_⟩
      · have h : ((!decide (v = [])) && decide ([97, 51] = v)) = true := h
        have e : v = [97, 51] := by simp at h; exact h.2.symm
        refine i_cg ?_
        unfold idxF
        rw [if_neg e0]
        rw [if_neg e1]
        rw [if_neg e2]
        rw [if_pos e]
        rfl
      · have h : ((!decide (v = [])) && decide ([97, 51] = v)) = false := h
        have e3 : ¬ v = [97, 51] := fun e => by subst e; exact absurd h (by decide)
        exact ⟨4, ⟨by decide, fun _ => e0, fun _ => e1, fun _ => e2, fun _ => e3, fun h => absurd h (by decide), fun h => absurd h (by decide), fun h => absurd h (by decide), fun h => absurd h (by decide)⟩, by decide, rfl, ⟨⟨rfl, rfl, rfl⟩, trivial⟩, ⟨[], rfl⟩, trivial, rfl⟩
    · have e0 := q0 (by decide)
      have e1 := q1 (by decide)
      have e2 := q2 (by decide)
      have e3 := q3 (by decide)
      refine ⟨fun _ => ?_, fun h => absurd h (by decide)⟩
      refine OpC.callV rfl rfl rfl rfl rfl rfl rfl (fun _ => rname_ok 2 4) ?_
      refine ⟨fun h => ?_, fun h => ?_⟩
      · have h : ((!decide (v = [])) && decide ([97, 52] = v)) = true := h
        have e : v = [97, 52] := by simp at h; exact h.2.symm
        refine i_cg ?_
        unfold idxF
        rw [if_neg e0]
        rw [if_neg e1]
        rw [if_neg e2]
        rw [if_neg e3]
        rw [if_pos e]
        rfl
      · have h : ((!decide (v = [])) && decide ([97, 52] = v)) = false := h
        have e4 : ¬ v = [97, 52] := fun e => by subst e; exact absurd h (by decide)
        exact ⟨5, ⟨by decide, fun _ => e0, fun _ => e1, fun _ => e2, fun _ => e3, fun _ => e4, fun h => absurd h (by decide), fun h => absurd h (by decide), fun h => absurd h (by decide)⟩, by decide, rfl, ⟨⟨rfl, rfl, rfl⟩, trivial⟩, ⟨[], rfl⟩, trivial, rfl⟩
    · have e0 := q0 (by decide)
      have e1 := q1 (by decide)
      have e2 := q2 (by decide)
      have e3 := q3 (by decide)
      have e4 := q4 (by decide)
      refine ⟨fun _ => ?_, fun h => absurd h (by decide)⟩
      refine OpC.callV rfl rfl rfl rfl rfl rfl rfl (fun _ => rname_ok 2 5) ?_
      refine ⟨fun h => ?_, fun h => ?_⟩
      · have h : ((!decide (v = [])) && decide ([97, 53] = v)) = true := h
        have e : v = [97, 53] := by simp at h; exact h.2.symm
        refine i_cg ?_
        unfold idxF
        rw [if_neg e0]
        rw [if_neg e1]
        rw [if_neg e2]
        rw [if_neg e3]
        rw [if_neg e4]
        rw [if_pos e]
        rfl
      · have h : ((!decide (v = [])) && decide ([97, 53] = v)) = false := h
        have e5 : ¬ v = [97, 53] := fun e => by subst e; exact absurd h (by decide)
        exact ⟨6, ⟨by decide, fun _ => e0, fun _ => e1, fun _ => e2, fun _ => e3, fun _ => e4, fun _ => e5, fun h => absurd h (by decide), fun h => absurd h (by decide)⟩, by decide, rfl, ⟨⟨rfl, rfl, rfl⟩, trivial⟩, ⟨[], rfl⟩, trivial, rfl⟩
    · have e0 := q0 (by decide)
      have e1 := q1 (by decide)
      have e2 := q2 (by decide)
      have e3 := q3 (by decide)
      have e4 := q4 (by decide)
      have e5 := q5 (by decide)
      refine ⟨fun _ => ?_, fun h => absurd h (by decide)⟩
      refine OpC.callV rfl rfl rfl rfl rfl rfl rfl (fun _ => rname_ok 2 6) ?_
      refine ⟨fun h => ?_, fun h => ?_⟩
      · have h : ((!decide (v = [])) && decide ([97, 54] = v)) = true := h
        have e : v = [97, 54] := by simp at h; exact h.2.symm
        refine i_cg ?_
        unfold idxF
        rw [if_neg e0]
        rw [if_neg e1]
        rw [if_neg e2]
        rw [if_neg e3]
        rw [if_neg e4]
        rw [if_neg e5]
        rw [if_pos e]
        rfl
      · have h : ((!decide (v = [])) && decide ([97, 54] = v)) = false := h
        have e6 : ¬ v = [97, 54] := fun e => by subst e; exact absurd h (by decide)
        exact ⟨7, ⟨by decide, fun _ => e0, fun _ => e1, fun _ => e2, fun _ => e3, fun _ => e4, fun _ => e5, fun _ => e6, fun h => absurd h (by decide)⟩, by decide, rfl, ⟨⟨rfl, rfl, rfl⟩, trivial⟩, ⟨[], rfl⟩, trivial, rfl⟩
    · have e0 := q0 (by decide)
      have e1 := q1 (by decide)
      have e2 := q2 (by decide)
      have e3 := q3 (by decide)
      have e4 := q4 (by decide)
      have e5 := q5 (by decide)
      have e6 := q6 (by decide)
      refine ⟨fun _ => ?_, fun h => absurd h (by decide)⟩
      refine OpC.callV rfl rfl rfl rfl rfl rfl rfl (fun _ => rname_ok 2 7) ?_
      refine ⟨fun h => ?_, fun h => ?_⟩
      · have h : ((!decide (v = [])) && decide ([97, 55] = v)) = true := h
        have e : v = [97, 55] := by simp at h; exact h.2.symm
        refine i_cg ?_
        unfold idxF
        rw [if_neg e0]
        rw [if_neg e1]
        rw [if_neg e2]
        rw [if_neg e3]
        rw [if_neg e4]
        rw [if_neg e5]
        rw [if_neg e6]
        rw [if_pos e]
        rfl
      · have h : ((!decide (v = [])) && decide ([97, 55] = v)) = false := h
        have e7 : ¬ v = [97, 55] := fun e => by subst e; exact absurd h (by decide)
        exact ⟨8, ⟨by decide, fun _ => e0, fun _ => e1, fun _ => e2, fun _ => e3, fun _ => e4, fun _ => e5, fun _ => e6, fun _ => e7⟩, by decide, rfl, ⟨⟨rfl, rfl, rfl⟩, trivial⟩, ⟨[], rfl⟩, trivial, rfl⟩
    · have e0 := q0 (by decide)
      have e1 := q1 (by decide)
      have e2 := q2 (by decide)
      have e3 := q3 (by decide)
      have e4 := q4 (by decide)
      have e5 := q5 (by decide)
      have e6 := q6 (by decide)
      have e7 := q7 (by decide)
      refine ⟨fun h => absurd h (by decide), fun _ => i_cg ?_⟩
      unfold idxF
      rw [if_neg e0, if_neg e1, if_neg e2, if_neg e3, if_neg e4, if_neg e5, if_neg e6, if_neg e7]
theorem qlR (ts : List Tk) (ad : Option Addr) (cap : Nat) : QL ⟨2, lgR, ts, ad, cap⟩ := ⟨fun v => rreg2_ok v, .inr (.inl ⟨rfl, rfl⟩)⟩
set_option maxHeartbeats 4000000 in
theorem rparse2_w {rdR : List Tk → List UInt8 → RS → Rd × RS} {L : Lg} (hread : QReadOk rdR L 2 71) (hrk : QReadRk rdR L) (hL : ∀ ts ad cap, QL ⟨2, L, ts, ad, cap⟩) (ts : List Tk) (ad : Option Addr) (cap : Nat) (hl : ts.length ≤ 100000) (hnm : (tkAt ts 0).s.length ≤ 100000) :
    CtrV Tryz.prog 22 [.i .i64 2, .imm Tk tk0 4 tkenc ts ad cap] (prV5r (parseR rdR ts)) := by
  have hk0 : Qk ⟨2, L, ts, ad, cap⟩ rs0 := ⟨Nat.zero_le _, hl⟩
  have hpk := wpeek_ok (ts := ts) (ad := ad) (cap := cap) (p := 0) (Nat.zero_le _)
  have hwh := where_ok (ts := ts) (ad := ad) (cap := cap) (p := 0) (Nat.zero_le _) hl
  refine Ctr.enterV tabOkF (fn := Tryz.f22) rfl rfl rfl rfl rfl (prV5r_ok _) ?_
  unfold parseR
  refine OpC.callH rfl rfl rfl rfl [1] rfl (hpk) rfl rfl rfl rfl ⟨rfl, trivial⟩ rfl ?_
  refine OpC.callH rfl rfl rfl rfl [1] rfl (hwh) rfl rfl rfl rfl ⟨rfl, trivial⟩ rfl ?_
  by_cases h1 : (tkAt ts 0).k = 1
  · rw [if_pos h1]
    have hlt := at_lt (ts := ts) (p := 0) (by rw [h1]; decide)
    have hk1 : Qk ⟨2, L, ts, ad, cap⟩ (goF rs0) := ⟨hlt, hl⟩
    have hx := hread ⟨2, L, ts, ad, cap⟩ (goF rs0) (tkAt ts 0).s rfl rfl (hL ts ad cap) hk1 hnm
    have hk2 : Qk ⟨2, L, ts, ad, cap⟩ (rdR ts (tkAt ts 0).s (goF rs0)).2 := hrk ⟨2, L, ts, ad, cap⟩ (goF rs0) (tkAt ts 0).s rfl hk1
    dsimp only at hx
    generalize rdR ts (tkAt ts 0).s (goF rs0) = x at *
    refine ⟨fun h => ?_, fun _ => ?_⟩
    · have h : ((!decide (0 < ts.length)) || (!decide ((tkAt ts 0).k = 1))) = true := h
      rw [decide_eq_true hlt, decide_eq_true h1] at h; cases h
    refine OpC.callH rfl rfl rfl rfl [1] rfl (wnext_ok (ad := ad) (cap := cap) hlt hl) rfl rfl rfl rfl ⟨rfl, trivial⟩ rfl ?_
    refine OpC.callV rfl rfl rfl rfl rfl rfl rfl (fun _ => blank_w) ?_
    refine ⟨fun h => no_ft h, fun _ => ?_⟩
    refine ⟨fun _ => ?_, fun h => no_tf h⟩
    unfold endR
    cases hkn : x.1.known with
    | false =>
      rw [hkn] at hx
      rw [if_neg (by decide)]
      refine OpC.callH rfl rfl rfl rfl [1, 2, 4] rfl (hx) rfl rfl rfl rfl ⟨rfl, rfl, rfl, trivial⟩ rfl ?_
      refine ⟨fun _ => ?_, fun h => no_tf h⟩
      exact rfl
    | true =>
      rw [hkn] at hx
      rw [if_pos rfl]
      dsimp only
      refine OpC.callH rfl rfl rfl rfl [1, 2, 4] rfl (hx) rfl rfl rfl rfl ⟨rfl, rfl, rfl, trivial⟩ rfl ?_
      refine ⟨fun h => no_ft h, fun _ => ?_⟩
      have hpk2 := wpeek_ok (ad := ad) (cap := cap) hk2.p
      refine OpC.callH rfl rfl rfl rfl [1] rfl (hpk2) rfl rfl rfl rfl ⟨rfl, trivial⟩ rfl ?_
      refine ⟨fun h => ?_, fun h => ?_⟩
      · have hm : (decide (x.2.p < ts.length)) = true := h
        have hm : x.2.p < ts.length := of_decide_eq_true hm
        have em : moreF ts x.2 = failF x.2 25 (tkAt ts x.2.p).a := by unfold moreF whF; rw [if_pos hm, if_pos hm]
        rw [em]
        refine OpC.callH rfl rfl rfl rfl [1, 2] rfl (qfail_ok (c := (⟨2, L, ts, ad, cap⟩ : Qc)) (s := x.2) 25 (tkAt ts x.2.p).a) rfl rfl rfl rfl ⟨rfl, rfl, trivial⟩ rfl ?_
        refine ⟨fun h => ?_, fun h => ?_⟩
        · have h9 : (decide (x.1.i.op = 9)) = true := h
          have h9 : x.1.i.op = 9 := of_decide_eq_true h9
          have ht1 : to1 x.1.i = { x.1.i with to := 1 } := by unfold to1; rw [if_pos h9]
          refine OpC.callV rfl rfl rfl rfl rfl rfl rfl (fun _ => rright3_ok ({ x.1.i with to := 1 }) 0 1) ?_
          refine ⟨fun h => ?_, fun h => ?_⟩
          · have hr : (decide ((failF x.2 25 (tkAt ts x.2.p).a).e = 0) && !decide (rgtF ({ x.1.i with to := 1 }) 0 1 = 0)) = true := h
            have hq : ((failF x.2 25 (tkAt ts x.2.p).a).e = 0 ∧ rgtF (to1 x.1.i) 0 1 ≠ 0) := by rw [ht1]; simp only [Bool.and_eq_true, decide_eq_true_eq, Bool.not_eq_true', decide_eq_false_iff_not] at hr; exact hr
            rw [if_pos hq]
            refine OpC.callH rfl rfl rfl rfl [1, 2] rfl (qfail_ok (c := (⟨2, L, ts, ad, cap⟩ : Qc)) (s := failF x.2 25 (tkAt ts x.2.p).a) 34 (whF ts 0)) rfl rfl rfl rfl ⟨rfl, rfl, trivial⟩ rfl ?_
            refine ⟨fun h => ?_, fun h => ?_⟩
            · have he : (!decide ((failF (failF x.2 25 (tkAt ts x.2.p).a) 34 (whF ts 0)).e = 0)) = true := h
              have he : ¬ (failF (failF x.2 25 (tkAt ts x.2.p).a) 34 (whF ts 0)).e = 0 := by simpa using he
              have hO : outF x.1 (failF (failF x.2 25 (tkAt ts x.2.p).a) 34 (whF ts 0)) = ⟨in0, [], (failF (failF x.2 25 (tkAt ts x.2.p).a) 34 (whF ts 0)).e, (failF (failF x.2 25 (tkAt ts x.2.p).a) 34 (whF ts 0)).q⟩ := by unfold outF; rw [if_neg he]
              rw [hO]
              refine WpC.dr tabOkF mixed 0 ?_
              refine ⟨by kernel_rfl, ?_⟩
              exact rfl
            · have he : (!decide ((failF (failF x.2 25 (tkAt ts x.2.p).a) 34 (whF ts 0)).e = 0)) = false := h
              have he : (failF (failF x.2 25 (tkAt ts x.2.p).a) 34 (whF ts 0)).e = 0 := by simpa using he
              have hO : outF x.1 (failF (failF x.2 25 (tkAt ts x.2.p).a) 34 (whF ts 0)) = ⟨x.1.i, x.1.lb, 0, 0⟩ := by unfold outF; rw [if_pos he]
              rw [hO]
              exact rfl
          · have hr : (decide ((failF x.2 25 (tkAt ts x.2.p).a).e = 0) && !decide (rgtF ({ x.1.i with to := 1 }) 0 1 = 0)) = false := h
            have hq : ¬ ((failF x.2 25 (tkAt ts x.2.p).a).e = 0 ∧ rgtF (to1 x.1.i) 0 1 ≠ 0) := by rw [ht1]; intro hh; rw [decide_eq_true hh.1, decide_eq_false hh.2] at hr; cases hr
            rw [if_neg hq]
            refine ⟨fun h => ?_, fun h => ?_⟩
            · have he : (!decide ((failF x.2 25 (tkAt ts x.2.p).a).e = 0)) = true := h
              have he : ¬ (failF x.2 25 (tkAt ts x.2.p).a).e = 0 := by simpa using he
              have hO : outF x.1 (failF x.2 25 (tkAt ts x.2.p).a) = ⟨in0, [], (failF x.2 25 (tkAt ts x.2.p).a).e, (failF x.2 25 (tkAt ts x.2.p).a).q⟩ := by unfold outF; rw [if_neg he]
              rw [hO]
              refine WpC.dr tabOkF mixed 0 ?_
              refine ⟨by kernel_rfl, ?_⟩
              exact rfl
            · have he : (!decide ((failF x.2 25 (tkAt ts x.2.p).a).e = 0)) = false := h
              have he : (failF x.2 25 (tkAt ts x.2.p).a).e = 0 := by simpa using he
              have hO : outF x.1 (failF x.2 25 (tkAt ts x.2.p).a) = ⟨x.1.i, x.1.lb, 0, 0⟩ := by unfold outF; rw [if_pos he]
              rw [hO]
              exact rfl
        · have h9 : (decide (x.1.i.op = 9)) = false := h
          have h9 : ¬ x.1.i.op = 9 := of_decide_eq_false h9
          have ht1 : to1 x.1.i = x.1.i := by unfold to1; rw [if_neg h9]
          refine OpC.callV rfl rfl rfl rfl rfl rfl rfl (fun _ => rright3_ok (x.1.i) 0 1) ?_
          refine ⟨fun h => ?_, fun h => ?_⟩
          · have hr : (decide ((failF x.2 25 (tkAt ts x.2.p).a).e = 0) && !decide (rgtF (x.1.i) 0 1 = 0)) = true := h
            have hq : ((failF x.2 25 (tkAt ts x.2.p).a).e = 0 ∧ rgtF (to1 x.1.i) 0 1 ≠ 0) := by rw [ht1]; simp only [Bool.and_eq_true, decide_eq_true_eq, Bool.not_eq_true', decide_eq_false_iff_not] at hr; exact hr
            rw [if_pos hq]
            refine OpC.callH rfl rfl rfl rfl [1, 2] rfl (qfail_ok (c := (⟨2, L, ts, ad, cap⟩ : Qc)) (s := failF x.2 25 (tkAt ts x.2.p).a) 34 (whF ts 0)) rfl rfl rfl rfl ⟨rfl, rfl, trivial⟩ rfl ?_
            refine ⟨fun h => ?_, fun h => ?_⟩
            · have he : (!decide ((failF (failF x.2 25 (tkAt ts x.2.p).a) 34 (whF ts 0)).e = 0)) = true := h
              have he : ¬ (failF (failF x.2 25 (tkAt ts x.2.p).a) 34 (whF ts 0)).e = 0 := by simpa using he
              have hO : outF x.1 (failF (failF x.2 25 (tkAt ts x.2.p).a) 34 (whF ts 0)) = ⟨in0, [], (failF (failF x.2 25 (tkAt ts x.2.p).a) 34 (whF ts 0)).e, (failF (failF x.2 25 (tkAt ts x.2.p).a) 34 (whF ts 0)).q⟩ := by unfold outF; rw [if_neg he]
              rw [hO]
              refine WpC.dr tabOkF mixed 0 ?_
              refine ⟨by kernel_rfl, ?_⟩
              exact rfl
            · have he : (!decide ((failF (failF x.2 25 (tkAt ts x.2.p).a) 34 (whF ts 0)).e = 0)) = false := h
              have he : (failF (failF x.2 25 (tkAt ts x.2.p).a) 34 (whF ts 0)).e = 0 := by simpa using he
              have hO : outF x.1 (failF (failF x.2 25 (tkAt ts x.2.p).a) 34 (whF ts 0)) = ⟨x.1.i, x.1.lb, 0, 0⟩ := by unfold outF; rw [if_pos he]
              rw [hO]
              exact rfl
          · have hr : (decide ((failF x.2 25 (tkAt ts x.2.p).a).e = 0) && !decide (rgtF (x.1.i) 0 1 = 0)) = false := h
            have hq : ¬ ((failF x.2 25 (tkAt ts x.2.p).a).e = 0 ∧ rgtF (to1 x.1.i) 0 1 ≠ 0) := by rw [ht1]; intro hh; rw [decide_eq_true hh.1, decide_eq_false hh.2] at hr; cases hr
            rw [if_neg hq]
            refine ⟨fun h => ?_, fun h => ?_⟩
            · have he : (!decide ((failF x.2 25 (tkAt ts x.2.p).a).e = 0)) = true := h
              have he : ¬ (failF x.2 25 (tkAt ts x.2.p).a).e = 0 := by simpa using he
              have hO : outF x.1 (failF x.2 25 (tkAt ts x.2.p).a) = ⟨in0, [], (failF x.2 25 (tkAt ts x.2.p).a).e, (failF x.2 25 (tkAt ts x.2.p).a).q⟩ := by unfold outF; rw [if_neg he]
              rw [hO]
              refine WpC.dr tabOkF mixed 0 ?_
              refine ⟨by kernel_rfl, ?_⟩
              exact rfl
            · have he : (!decide ((failF x.2 25 (tkAt ts x.2.p).a).e = 0)) = false := h
              have he : (failF x.2 25 (tkAt ts x.2.p).a).e = 0 := by simpa using he
              have hO : outF x.1 (failF x.2 25 (tkAt ts x.2.p).a) = ⟨x.1.i, x.1.lb, 0, 0⟩ := by unfold outF; rw [if_pos he]
              rw [hO]
              exact rfl
      · have hm : (decide (x.2.p < ts.length)) = false := h
        have hm : ¬ x.2.p < ts.length := of_decide_eq_false hm
        have em : moreF ts x.2 = x.2 := by unfold moreF; rw [if_neg hm]
        rw [em]
        refine ⟨fun h => ?_, fun h => ?_⟩
        · have h9 : (decide (x.1.i.op = 9)) = true := h
          have h9 : x.1.i.op = 9 := of_decide_eq_true h9
          have ht1 : to1 x.1.i = { x.1.i with to := 1 } := by unfold to1; rw [if_pos h9]
          refine OpC.callV rfl rfl rfl rfl rfl rfl rfl (fun _ => rright3_ok ({ x.1.i with to := 1 }) 0 1) ?_
          refine ⟨fun h => ?_, fun h => ?_⟩
          · have hr : (decide ((x.2).e = 0) && !decide (rgtF ({ x.1.i with to := 1 }) 0 1 = 0)) = true := h
            have hq : ((x.2).e = 0 ∧ rgtF (to1 x.1.i) 0 1 ≠ 0) := by rw [ht1]; simp only [Bool.and_eq_true, decide_eq_true_eq, Bool.not_eq_true', decide_eq_false_iff_not] at hr; exact hr
            rw [if_pos hq]
            refine OpC.callH rfl rfl rfl rfl [1, 2] rfl (qfail_ok (c := (⟨2, L, ts, ad, cap⟩ : Qc)) (s := x.2) 34 (whF ts 0)) rfl rfl rfl rfl ⟨rfl, rfl, trivial⟩ rfl ?_
            refine ⟨fun h => ?_, fun h => ?_⟩
            · have he : (!decide ((failF (x.2) 34 (whF ts 0)).e = 0)) = true := h
              have he : ¬ (failF (x.2) 34 (whF ts 0)).e = 0 := by simpa using he
              have hO : outF x.1 (failF (x.2) 34 (whF ts 0)) = ⟨in0, [], (failF (x.2) 34 (whF ts 0)).e, (failF (x.2) 34 (whF ts 0)).q⟩ := by unfold outF; rw [if_neg he]
              rw [hO]
              refine WpC.dr tabOkF mixed 0 ?_
              refine ⟨by kernel_rfl, ?_⟩
              exact rfl
            · have he : (!decide ((failF (x.2) 34 (whF ts 0)).e = 0)) = false := h
              have he : (failF (x.2) 34 (whF ts 0)).e = 0 := by simpa using he
              have hO : outF x.1 (failF (x.2) 34 (whF ts 0)) = ⟨x.1.i, x.1.lb, 0, 0⟩ := by unfold outF; rw [if_pos he]
              rw [hO]
              exact rfl
          · have hr : (decide ((x.2).e = 0) && !decide (rgtF ({ x.1.i with to := 1 }) 0 1 = 0)) = false := h
            have hq : ¬ ((x.2).e = 0 ∧ rgtF (to1 x.1.i) 0 1 ≠ 0) := by rw [ht1]; intro hh; rw [decide_eq_true hh.1, decide_eq_false hh.2] at hr; cases hr
            rw [if_neg hq]
            refine ⟨fun h => ?_, fun h => ?_⟩
            · have he : (!decide ((x.2).e = 0)) = true := h
              have he : ¬ (x.2).e = 0 := by simpa using he
              have hO : outF x.1 (x.2) = ⟨in0, [], (x.2).e, (x.2).q⟩ := by unfold outF; rw [if_neg he]
              rw [hO]
              refine WpC.dr tabOkF mixed 0 ?_
              refine ⟨by kernel_rfl, ?_⟩
              exact rfl
            · have he : (!decide ((x.2).e = 0)) = false := h
              have he : (x.2).e = 0 := by simpa using he
              have hO : outF x.1 (x.2) = ⟨x.1.i, x.1.lb, 0, 0⟩ := by unfold outF; rw [if_pos he]
              rw [hO]
              exact rfl
        · have h9 : (decide (x.1.i.op = 9)) = false := h
          have h9 : ¬ x.1.i.op = 9 := of_decide_eq_false h9
          have ht1 : to1 x.1.i = x.1.i := by unfold to1; rw [if_neg h9]
          refine OpC.callV rfl rfl rfl rfl rfl rfl rfl (fun _ => rright3_ok (x.1.i) 0 1) ?_
          refine ⟨fun h => ?_, fun h => ?_⟩
          · have hr : (decide ((x.2).e = 0) && !decide (rgtF (x.1.i) 0 1 = 0)) = true := h
            have hq : ((x.2).e = 0 ∧ rgtF (to1 x.1.i) 0 1 ≠ 0) := by rw [ht1]; simp only [Bool.and_eq_true, decide_eq_true_eq, Bool.not_eq_true', decide_eq_false_iff_not] at hr; exact hr
            rw [if_pos hq]
            refine OpC.callH rfl rfl rfl rfl [1, 2] rfl (qfail_ok (c := (⟨2, L, ts, ad, cap⟩ : Qc)) (s := x.2) 34 (whF ts 0)) rfl rfl rfl rfl ⟨rfl, rfl, trivial⟩ rfl ?_
            refine ⟨fun h => ?_, fun h => ?_⟩
            · have he : (!decide ((failF (x.2) 34 (whF ts 0)).e = 0)) = true := h
              have he : ¬ (failF (x.2) 34 (whF ts 0)).e = 0 := by simpa using he
              have hO : outF x.1 (failF (x.2) 34 (whF ts 0)) = ⟨in0, [], (failF (x.2) 34 (whF ts 0)).e, (failF (x.2) 34 (whF ts 0)).q⟩ := by unfold outF; rw [if_neg he]
              rw [hO]
              refine WpC.dr tabOkF mixed 0 ?_
              refine ⟨by kernel_rfl, ?_⟩
              exact rfl
            · have he : (!decide ((failF (x.2) 34 (whF ts 0)).e = 0)) = false := h
              have he : (failF (x.2) 34 (whF ts 0)).e = 0 := by simpa using he
              have hO : outF x.1 (failF (x.2) 34 (whF ts 0)) = ⟨x.1.i, x.1.lb, 0, 0⟩ := by unfold outF; rw [if_pos he]
              rw [hO]
              exact rfl
          · have hr : (decide ((x.2).e = 0) && !decide (rgtF (x.1.i) 0 1 = 0)) = false := h
            have hq : ¬ ((x.2).e = 0 ∧ rgtF (to1 x.1.i) 0 1 ≠ 0) := by rw [ht1]; intro hh; rw [decide_eq_true hh.1, decide_eq_false hh.2] at hr; cases hr
            rw [if_neg hq]
            refine ⟨fun h => ?_, fun h => ?_⟩
            · have he : (!decide ((x.2).e = 0)) = true := h
              have he : ¬ (x.2).e = 0 := by simpa using he
              have hO : outF x.1 (x.2) = ⟨in0, [], (x.2).e, (x.2).q⟩ := by unfold outF; rw [if_neg he]
              rw [hO]
              refine WpC.dr tabOkF mixed 0 ?_
              refine ⟨by kernel_rfl, ?_⟩
              exact rfl
            · have he : (!decide ((x.2).e = 0)) = false := h
              have he : (x.2).e = 0 := by simpa using he
              have hO : outF x.1 (x.2) = ⟨x.1.i, x.1.lb, 0, 0⟩ := by unfold outF; rw [if_pos he]
              rw [hO]
              exact rfl
  · rw [if_neg h1]
    refine ⟨fun _ => ?_, fun h => ?_⟩
    rotate_left
    · have h : ((!decide (0 < ts.length)) || (!decide ((tkAt ts 0).k = 1))) = false := h
      rw [decide_eq_false h1, Bool.not_false, Bool.or_true] at h; cases h
    refine OpC.callH rfl rfl rfl rfl [1, 2] rfl (qodd_ok (s := rs0) hk0 true) rfl rfl rfl rfl ⟨rfl, rfl, trivial⟩ rfl ?_
    refine WpC.dr tabOkF mixed 0 ?_
    refine ⟨by kernel_rfl, ?_⟩
    exact rfl
end SX
end Go.Proofs.YtlgjjklikbpcoaaGreatDoor

/- RISC-V: Parse, the program's and the reference's. Written by qwf.py. -/
set_option linter.unusedVariables false
set_option maxRecDepth 100000
namespace Go.Proofs.YtlgjjklikbpcoaaGreatDoor
namespace SX
open Go Go.Proofs
theorem riscv_rk : ReadRk readVP lgR := by
  rintro ⟨L, rd, pr, ts, ad, cap, lb⟩ s nm hL hk
  dsimp only at hL
  subst hL
  have hr := hk.reg
  have hm := hr.mark [44]
  have hm2 := hm.reg.mark [44]
  unfold readVP
  dsimp only
  repeat' split
  all_goals first
    | exact hk
    | exact hm.num
    | exact hm.reg
    | exact hm2.num
    | exact hm2.reg
    | exact hm.word
    | exact hm.mem _ _
    | exact hm2.mem _ _
    | exact ((hk.of _).mark [44]).of _
theorem riscvParse_w (ts : List Tk) (ad : Option Addr) (cap : Nat) (hl : ts.length ≤ 100000) (hn : ad = none → ts = []) (hnm : (tkAt ts 0).s.length ≤ 100000) : CtrV Tryz.prog 30 [.imm Tk tk0 4 tkenc ts ad cap] (prV5 (parseP readVP ts)) := by
  refine Ctr.enterV tabOkF (fn := Tryz.f30) rfl rfl rfl rfl rfl rfl ?_
  refine OpC.callL rfl rfl rfl rfl [] 2 rfl rfl rfl riscv_lang rfl rfl rfl rfl trivial rfl (fun r H' hk => ?_) ?_
  · obtain ⟨rfl, rfl⟩ := hk; exact ⟨Nat.zero_le _, Nat.le_refl _⟩
  rintro r H' ⟨rfl, rfl⟩
  refine OpC.callH rfl rfl rfl rfl [1, 2] rfl (lparse_w riscv_read riscv_rk ts ad cap hl hn hnm) rfl rfl rfl rfl ⟨rfl, rfl, trivial⟩ rfl ?_
  exact rfl
theorem rparseR_w (ts : List Tk) (ad : Option Addr) (cap : Nat) (hl : ts.length ≤ 100000) (hnm : (tkAt ts 0).s.length ≤ 100000) : CtrV Tryz.prog 22 [.i .i64 2, .imm Tk tk0 4 tkenc ts ad cap] (prV5r (parseR readVR ts)) :=
  rparse2_w qriscv_read qriscv_rk qlR ts ad cap hl hnm
end SX
end Go.Proofs.YtlgjjklikbpcoaaGreatDoor

/- Law 6: able() answers true. Written by x67.py. -/
set_option linter.unusedVariables false
set_option maxRecDepth 100000
namespace Go.Proofs.YtlgjjklikbpcoaaGreatDoor
namespace SX
open Go Go.Proofs
def x6ms : List Memo := [mIB 91 4, mIB 93 5, mIB 43 11, mIB 44 8, mLoc [121] 1, mNum [52] 4, mJoin [[97, 48], [97, 49], [91, 121, 43, 52, 93]] 3 [97, 48, 44, 97, 49, 44, 91, 121, 43, 52, 93]]
theorem x6ms_ok : ∀ m ∈ x6ms, MemoOk Tryz.prog m := by
  intro m hm
  simp only [x6ms, List.mem_cons, List.not_mem_nil, or_false] at hm
  rcases hm with rfl | rfl | rfl | rfl | rfl | rfl | rfl
  · exact mIB_ok (by decide)
  · exact mIB_ok (by decide)
  · exact mIB_ok (by decide)
  · exact mIB_ok (by decide)
  · exact mLoc_ok (by decide)
  · exact mNum_ok (by decide) (by decide) (by decide) (by decide)
  · exact mJoin_ok rfl (by decide) (by decide) (by decide)
def x6able : Memo := ⟨29, [], [], .b true, []⟩
theorem able6_ok : CtrV Tryz.prog 29 [] (.b true) := (memo_of (m := x6able) (tr := treeF) (ft := ftree) (ms := x6ms) (n := 40) tabOkF ftOk mixed x6ms_ok (by decide +kernel) : MemoOk Tryz.prog x6able)
end SX
end Go.Proofs.YtlgjjklikbpcoaaGreatDoor

/- RiscvParses: the law's contract. Written by qwf.py from XLq. -/
set_option linter.unusedVariables false
set_option maxRecDepth 100000
namespace Go.Proofs.YtlgjjklikbpcoaaGreatDoor
namespace SX
open Go Go.Proofs
theorem riscvParse_v (ts : List Tk) (ad : Option Addr) (cap : Nat) (hl : ts.length ≤ 100000) (hnm : (tkAt ts 0).s.length ≤ 100000) : CtrV Tryz.prog 30 [.imm Tk tk0 4 tkenc ts ad cap] (prV5 (parseP readVP ts)) := by
  cases ad with
  | some a => exact riscvParse_w ts (some a) cap hl (fun h => by cases h) hnm
  | none =>
    by_cases he : ts = []
    · exact riscvParse_w ts none cap hl (fun _ => he) hnm
    · exact Cp.vac fun m V h => he (imm_none h)
set_option maxHeartbeats 4000000 in
theorem riscvParses_ok (text : List UInt8) (htl : text.length ≤ 2 ^ 47) : CtrV Tryz.prog 6 [.s text] (.b true) := by
  refine Ctr.enterV tabOkM (fn := Tryz.f6) rfl rfl rfl rfl rfl rfl ?_
  refine OpC.callV rfl rfl rfl rfl rfl rfl rfl (fun _ => able6_ok) ?_
  refine ⟨fun h => no_ft h, fun _ => ?_⟩
  refine OpC.callL rfl rfl rfl rfl [] 1 rfl rfl rfl (tokensI_ok text) rfl rfl rfl rfl trivial rfl (fun r H' hk => ?_) ?_
  · rcases hk with ⟨ts, ad, cap, B, h1, rfl, rfl⟩ | ⟨e, p, h1, he, rfl, rfl⟩
    · exact ⟨Nat.zero_le _, Nat.le_refl _⟩
    · exact ⟨Nat.zero_le _, Nat.zero_le _⟩
  rintro r H' (⟨ts, ad, cap, B, h1, rfl, rfl⟩ | ⟨e, p, h1, he, rfl, rfl⟩)
  rotate_left
  · refine ⟨fun _ => rfl, fun h => ?_⟩
    have h : (!decide (e = 0)) = false := h
    rw [decide_eq_false he] at h; cases h
  have hts : (tokF text).1 = ts := by rw [h1]
  have hw : WfA ts := by rw [← hts]; exact tok_wf text
  have hn : ts.length ≤ 8192 := by rw [← hts]; exact tok_count text
  have hl : ts.length ≤ 100000 := by omega
  have hnm := tk_at_len hts 0
  have hP := riscv_parse hw
  refine ⟨fun h => no_ft h, fun _ => ?_⟩
  refine OpC.yld 1 rfl (yld_app_lit tabOkM rfl rfl rfl rfl rfl rfl rfl rfl (fun E => rfl) (SrcA.imm rfl rfl rfl) (p := 2) rfl Joins.nil (Nat.le_trans hn (by decide)) ?_) (fun d hd => by cases hd; rfl) ?_
  · exact tok_bytes _ hl
  refine OpC.yld 0 rfl (yld_app_row tabOkM rfl rfl rfl rfl rfl rfl rfl rfl rfl (SrcA.sl rfl rfl rfl rfl (by decide) rfl) (Joins.arrN (y := t77) rfl rfl tkenc_w) (by decide) (Nat.le_trans (show ts.length + 1 ≤ 8193 by omega) (by decide)) ?_) (fun d hd => by cases hd; rfl) ?_
  · exact tok_bytes _ (by omega)
  have hsl : ((1 + 1 = 1 + 1 ∧ 4 = 3 + 1 ∧ 0 < 3 + 1) ∧ 0 = 0 * 4 ∧ (0 + (ts.length + 1)) * 4 ≤ (ts.length + 1) * 4 + 0) ∧ (0 : Int) ≤ ts.length ∧ (ts.length : Int) ≤ ((ts.length + 1 : Nat) : Int) := by omega
  refine ⟨fun _ => hsl, ?_⟩
  have hx := fun a cap => riscvParse_v ts a cap hl hnm
  have hy := rparseR_w ts ad cap hl hnm
  rw [hP] at hx
  generalize parseR readVR ts = P at *
  obtain ⟨i, lb, e, q⟩ := P
  refine OpC.callG rfl rfl rfl rfl rfl rfl (r := prV5 ⟨i, lb, e, q⟩) (fun _ => Ctr.frz (A := []) (B := []) (ys := ts ++ [t77]) rfl tk_take (by omega) (by simp) (by omega) tkw tkok ⟨rfl, by decide, rfl⟩ rfl rfl rfl hx) ?_
  refine OpC.callV rfl rfl rfl rfl rfl rfl rfl (fun _ => hy) ?_
  have hB : BndH 6 [.gone B, .gone 1, .mem 28 [.arr (ts.length + 1) Tk tk0 4 tkenc (ts ++ [t77])] 2 4, .mem 28 (tkenc t77) 1 0, .mem 30 (ienc i) 1 0, .mem 30 (ienc i) 1 0] := ⟨trivial, trivial, ⟨fun _ => rfl, trivial⟩, ⟨rfl, rfl, rfl, rfl, trivial⟩, bndIn, bndIn, trivial⟩
  refine WpC.loop tabOkM (β := Nat) (fun k => k ≤ ts.length) (fun k => [(15, .i .i64 k)]) (fun _ => [.gone B, .gone 1, .mem 28 [.arr (ts.length + 1) Tk tk0 4 tkenc (ts ++ [t77])] 2 4, .mem 28 (tkenc t77) 1 0, .mem 30 (ienc i) 1 0, .mem 30 (ienc i) 1 0]) (fun k => ts.length - k) 0 (2 ^ 94 - 2 ^ 15 + 4) (Nat.zero_le _) ?_ ?_
  · refine ⟨rfl, ⟨⟨rfl, rfl, rfl⟩, trivial⟩, ⟨[], rfl⟩, hB, rfl⟩
  · rintro k hk
    refine ⟨fun h2 => ?_, fun h2 => ?_⟩
    · have h2 : (k : Int) < (ts.length : Int) := of_decide_eq_true h2
      have h3 : k < ts.length := by omega
      have hg : (ts ++ [t77]).getD (0 + k) tk0 = ts.getD k tk0 := by rw [Nat.zero_add]; simp only [List.getD_eq_getElem?_getD]; rw [List.getElem?_append_left h3]
      refine WpC.dr tabOkM mixed 0 ?_
      have hix : 0 = 0 * 4 ∧ (0 : Int) ≤ (k : Int) ∧ (k : Int) < ((ts.length + 1 : Nat) : Int) := by omega
      have hld : 2 = 2 ∧ 0 + k < ts.length + 1 := by omega
      have hit : (0 : Int) ≤ (k : Int) ∧ (k : Int) < (ts.length : Int) := by omega
      refine ⟨fun _ => hix, ?_⟩
      refine ⟨fun _ => hld, ?_⟩
      refine ⟨fun _ => hit, ?_⟩
      refine ⟨by kernel_rfl, ?_⟩
      refine ⟨fun h => ?_, fun _ => ?_⟩
      · have h : (!(decide (((ts ++ [t77]).getD (0 + k) tk0).k = (ts.getD k tk0).k) && (decide (((ts ++ [t77]).getD (0 + k) tk0).s = (ts.getD k tk0).s) && (decide (((ts ++ [t77]).getD (0 + k) tk0).n = (ts.getD k tk0).n) && decide (((ts ++ [t77]).getD (0 + k) tk0).a = (ts.getD k tk0).a))))) = true := h
        rw [hg] at h
        simp at h
      · refine ⟨k + 1, h3, by omega, Eq.trans (b := [.s text, .dead, .dead, .imm Tk tk0 4 tkenc ts ad cap, .i .i64 0, .i .i64 0, .sl 2 2 0 (ts.length + 1) none 0, .ptr 4 1 0 [], .s lb, .i .i64 e, .i .i64 q, .ptr 5 1 0 [], .s lb, .i .i64 e, .i .i64 q] ++ List.replicate 79 .dead) rfl rfl, ⟨⟨?_, rfl, rfl⟩, trivial⟩, ⟨[], rfl⟩, hB, rfl⟩
        show SV.i .i64 (IntKind.i64.wrap ((k : Int) + 1)) = SV.i .i64 ((k + 1 : Nat) : Int)
        rw [w64 (by omega) (by omega)]; rfl
    · have h2 : ¬ (k : Int) < (ts.length : Int) := of_decide_eq_false h2
      have hix : 0 = 0 * 4 ∧ (0 : Int) ≤ ts.length ∧ (ts.length : Int) < ((ts.length + 1 : Nat) : Int) := by omega
      have hld : 2 = 2 ∧ 0 + ts.length < ts.length + 1 := by omega
      refine ⟨fun _ => hix, ⟨fun _ => hld, ?_⟩⟩
      refine b_cg ?_
      show ((((eqI i i && decide (lb = lb)) && decide (e = e)) && decide (q = q)) && decide (((ts ++ [t77]).getD (0 + ts.length) tk0).n = -77)) = true
      rw [eqI_rfl, Nat.zero_add]
      simp [List.getD_eq_getElem?_getD, t77]
end SX
end Go.Proofs.YtlgjjklikbpcoaaGreatDoor

/- RiscvParses: the row. Written by row.py. -/
set_option linter.unusedVariables false
set_option linter.unusedSimpArgs false
set_option maxRecDepth 100000
namespace Go.Proofs.YtlgjjklikbpcoaaGreatDoor
open Go Go.ChangeShapes Go.WideShapes Go.ChangeAt Go.RowKit
theorem params_in : ∀ t ∈ Tryz.f6.params.toList, t < Tryz.prog.types.size := by
  have : (Tryz.f6.params.toList.all fun t => Nat.blt t Tryz.prog.types.size) = true := by kernel_rfl
  exact fun t ht => Nat.le_of_ble_eq_true (List.all_eq_true.1 this t ht)
theorem door_met (os : Os) (args : Array Value) : laidMetH Tryz.prog Rows.riscvParsesRow.laid ((World.doorLaid Tryz.prog 400 os).forCall (fun _ _ => 0) ⟨#[], args, []⟩).memory :=
  laidMetH_of_parts3 (fuel := 8) (laidMet_of_run' 8 (by kernel_rfl) (by kernel_rfl)) (by kernel_rfl) (by kernel_rfl)
theorem lifted (os : Os) (started : os.Started) (H : Type) (enc : TypeId × Value → H) :
    ReturnsInHanded {} Tryz.checked os 6 .any (fun w args => (Rows.riscvParsesSpec.pre enc Tryz.prog Tryz.f6 [] false w args ∧ laidMetH Tryz.prog Rows.riscvParsesRow.laid w) ∧ sizedMet enc Tryz.prog Tryz.f6 (OpenSpec.ofChange Rows.riscvParsesSpec) false w args)
      (Rows.riscvParsesSpec.post enc Tryz.prog Tryz.f6 false true false false) := by
  refine SX.returns_shaped (C := Tryz.checked) (X := fun w _ => laidMetH Tryz.prog Rows.riscvParsesRow.laid w) (fun _ _ _ hh h => h.of_heap hh) own started (by kernel_rfl) Tryz.func6
    (ChangeSpec.witness_shaped (enc := enc) (C := Tryz.checked) (os := os) (X := fun w _ => laidMetH Tryz.prog Rows.riscvParsesRow.laid w) false (World.doorLaid Tryz.prog 400 os) #[.string ⟨#[]⟩] 8 rfl (World.shaped_of_RefB (by kernel_rfl) (by kernel_rfl)) (by kernel_rfl) (by kernel_rfl) (by kernel_rfl) (door_met os _)) ?_
  intro W base args ds gs before hval0 hW hz hL hSh
  have hval : ∀ (j : Nat) t v, Tryz.f6.params[j]? = some t → args[j]? = some v → Value.okWide Tryz.prog W .any base t v := hval0
  have hW' := hW
  obtain ⟨p, q, hA0, hV, rfl, hfz, hnd⟩ := hW
  have hA : DataW.TrodAll enc Tryz.prog W 0 (fun _ => true) true Tryz.f6.params.toList args.toList ds p := hA0
  rw [Tryz.params6] at hA hval
  obtain ⟨v0, d0, rfl, rfl, h0⟩ := trodAll_one hA
  obtain ⟨rfl, rfl⟩ := trodVars_none hV
  obtain ⟨s0, rfl, e0, _, _⟩ := Go.ChangeMaps.open_string Tryz.underlying9 (hval 0 _ v0 rfl rfl) h0
  have w0 := sized_string hz (j := 0) rfl (congrArg some e0)
  clear hA0 hval0
  have hT := SX.tabsIn_row hL rfl hSh (List.mem_of_getElem? (i := 0) rfl) (List.mem_of_getElem? (i := 1) rfl) (List.mem_of_getElem? (i := 2) rfl) (List.mem_of_getElem? (i := 3) rfl) (List.mem_of_getElem? (i := 4) rfl) (List.mem_of_getElem? (i := 6) rfl) (by kernel_rfl) (by kernel_rfl) (by kernel_rfl) (by kernel_rfl) (by kernel_rfl) (by kernel_rfl)
  refine (SX.law_callsM (args := [.s s0.data.toList]) Tryz.func6 rfl rfl (SX.riscvParses_ok s0.data.toList (Nat.le_of_lt (Nat.lt_of_le_of_lt w0 reachBytes_lt))) W hT (fun _ => false) ?_ (by simp [SX.den, SX.denL, SX.wrapV, SX.cells])).mono fun e W' ⟨he, hk, ho, hu⟩ => ?_
  · exact ⟨⟨rfl, trivial⟩, trivial⟩
  subst he
  exact ⟨_, rfl, SX.post_kept hk compsOk params_in (fun n hn => by cases hn) hW' ho hu rfl rfl rfl (fun _ _ _ => trodAll_mk1 (shut_bool Tryz.underlying4 _)) (ok_one (by kernel_rfl) rfl (okWide_bool_mk Tryz.underlying4 _))⟩
theorem fact0 : (fun (P : Program) (f : FuncId) (fn : Func) (s : ChangeSpec) (c : OpenClaim) => c.wf (OpenSpec.ofChange s)) Tryz.prog 6 Tryz.f6 Rows.riscvParsesSpec Rows.riscvParsesRow = true := by kernel_rfl
theorem fact1 : (fun (P : Program) (f : FuncId) (fn : Func) (s : ChangeSpec) (c : OpenClaim) => laidOutB P) Tryz.prog 6 Tryz.f6 Rows.riscvParsesSpec Rows.riscvParsesRow = true := by kernel_rfl
theorem fact2 : (fun (P : Program) (f : FuncId) (fn : Func) (s : ChangeSpec) (c : OpenClaim) => mapsRowed P) Tryz.prog 6 Tryz.f6 Rows.riscvParsesSpec Rows.riscvParsesRow = true := by kernel_rfl
theorem fact3 : (fun (P : Program) (f : FuncId) (fn : Func) (s : ChangeSpec) (c : OpenClaim) => fn.params.all (P.readableRec ·)) Tryz.prog 6 Tryz.f6 Rows.riscvParsesSpec Rows.riscvParsesRow = true := by kernel_rfl
theorem fact4 : (fun (P : Program) (f : FuncId) (fn : Func) (s : ChangeSpec) (c : OpenClaim) => namedTie P c.named s.vars) Tryz.prog 6 Tryz.f6 Rows.riscvParsesSpec Rows.riscvParsesRow = true := by kernel_rfl
theorem fact5 : (fun (P : Program) (f : FuncId) (fn : Func) (s : ChangeSpec) (c : OpenClaim) => (c.stops == [])) Tryz.prog 6 Tryz.f6 Rows.riscvParsesSpec Rows.riscvParsesRow = true := by kernel_rfl
theorem fact6 : (fun (P : Program) (f : FuncId) (fn : Func) (s : ChangeSpec) (c : OpenClaim) => (P.stops == [])) Tryz.prog 6 Tryz.f6 Rows.riscvParsesSpec Rows.riscvParsesRow = true := by kernel_rfl
theorem fact7 : (fun (P : Program) (f : FuncId) (fn : Func) (s : ChangeSpec) (c : OpenClaim) => (c.knobs == [])) Tryz.prog 6 Tryz.f6 Rows.riscvParsesSpec Rows.riscvParsesRow = true := by kernel_rfl
theorem fact8 : (fun (P : Program) (f : FuncId) (fn : Func) (s : ChangeSpec) (c : OpenClaim) => (P.stopKnobs == [])) Tryz.prog 6 Tryz.f6 Rows.riscvParsesSpec Rows.riscvParsesRow = true := by kernel_rfl
theorem fact9 : (fun (P : Program) (f : FuncId) (fn : Func) (s : ChangeSpec) (c : OpenClaim) => (c.inPlace == P.inPlace f)) Tryz.prog 6 Tryz.f6 Rows.riscvParsesSpec Rows.riscvParsesRow = true := by kernel_rfl
theorem fact10 : (fun (P : Program) (f : FuncId) (fn : Func) (s : ChangeSpec) (c : OpenClaim) => (c.unfollowed == P.unfollowed f)) Tryz.prog 6 Tryz.f6 Rows.riscvParsesSpec Rows.riscvParsesRow = true := by kernel_rfl
theorem fact11 : (fun (P : Program) (f : FuncId) (fn : Func) (s : ChangeSpec) (c : OpenClaim) => (c.recurses == P.recurses f)) Tryz.prog 6 Tryz.f6 Rows.riscvParsesSpec Rows.riscvParsesRow = true := by kernel_rfl
theorem fact12 : (fun (P : Program) (f : FuncId) (fn : Func) (s : ChangeSpec) (c : OpenClaim) => (c.named == P.varsNamed f)) Tryz.prog 6 Tryz.f6 Rows.riscvParsesSpec Rows.riscvParsesRow = true := by kernel_rfl
theorem fact13 : (fun (P : Program) (f : FuncId) (fn : Func) (s : ChangeSpec) (c : OpenClaim) => (c.maps == (fn.params.toList ++ s.plain.varTypes P).any (P.mapsRec ·))) Tryz.prog 6 Tryz.f6 Rows.riscvParsesSpec Rows.riscvParsesRow = true := by kernel_rfl
theorem fact14 : (fun (P : Program) (f : FuncId) (fn : Func) (s : ChangeSpec) (c : OpenClaim) => (c.ifaces == (fn.params.toList ++ s.plain.varTypes P).any (P.ifacesRec ·))) Tryz.prog 6 Tryz.f6 Rows.riscvParsesSpec Rows.riscvParsesRow = true := by kernel_rfl
theorem fact15 : (fun (P : Program) (f : FuncId) (fn : Func) (s : ChangeSpec) (c : OpenClaim) => (c.mapsOut == P.mapsAmong fn.resultTypes.toList)) Tryz.prog 6 Tryz.f6 Rows.riscvParsesSpec Rows.riscvParsesRow = true := by kernel_rfl
theorem fact16 : (fun (P : Program) (f : FuncId) (fn : Func) (s : ChangeSpec) (c : OpenClaim) => (c.loops == (fn.params.toList ++ s.plain.varTypes P).any (P.loopsFrom ·))) Tryz.prog 6 Tryz.f6 Rows.riscvParsesSpec Rows.riscvParsesRow = true := by kernel_rfl
theorem fact17 : (fun (P : Program) (f : FuncId) (fn : Func) (s : ChangeSpec) (c : OpenClaim) => (c.wideKeys == (fn.params.toList ++ s.plain.varTypes P ++ fn.resultTypes.toList).any (P.wideKeysFrom ·))) Tryz.prog 6 Tryz.f6 Rows.riscvParsesSpec Rows.riscvParsesRow = true := by kernel_rfl
theorem fact18 : (fun (P : Program) (f : FuncId) (fn : Func) (s : ChangeSpec) (c : OpenClaim) => s.vars.all (P.varReadable ·)) Tryz.prog 6 Tryz.f6 Rows.riscvParsesSpec Rows.riscvParsesRow = true := by kernel_rfl
theorem fact19 : (fun (P : Program) (f : FuncId) (fn : Func) (s : ChangeSpec) (c : OpenClaim) => fn.resultTypes.all (fun t => P.readableRec t && decide (t < P.types.size))) Tryz.prog 6 Tryz.f6 Rows.riscvParsesSpec Rows.riscvParsesRow = true := by kernel_rfl
theorem fact20 : (fun (P : Program) (f : FuncId) (fn : Func) (s : ChangeSpec) (c : OpenClaim) => (c.ifacesOut == fn.resultTypes.toList.any (P.ifacesRec ·))) Tryz.prog 6 Tryz.f6 Rows.riscvParsesSpec Rows.riscvParsesRow = true := by kernel_rfl
theorem fact21 : (fun (P : Program) (f : FuncId) (fn : Func) (s : ChangeSpec) (c : OpenClaim) => (c.loopsOut == fn.resultTypes.toList.any (P.loopsFrom ·))) Tryz.prog 6 Tryz.f6 Rows.riscvParsesSpec Rows.riscvParsesRow = true := by kernel_rfl
theorem fact22 : (fun (P : Program) (f : FuncId) (fn : Func) (s : ChangeSpec) (c : OpenClaim) => (c.plainKeys == P.plainKeys)) Tryz.prog 6 Tryz.f6 Rows.riscvParsesSpec Rows.riscvParsesRow = true := by kernel_rfl
theorem fact23 : (fun (P : Program) (f : FuncId) (fn : Func) (s : ChangeSpec) (c : OpenClaim) => c.shortTexts.isNone) Tryz.prog 6 Tryz.f6 Rows.riscvParsesSpec Rows.riscvParsesRow = true := by kernel_rfl
theorem fact24 : (fun (P : Program) (f : FuncId) (fn : Func) (s : ChangeSpec) (c : OpenClaim) => P.stopsHeard) Tryz.prog 6 Tryz.f6 Rows.riscvParsesSpec Rows.riscvParsesRow = true := by kernel_rfl
theorem fact25 : (fun (P : Program) (f : FuncId) (fn : Func) (s : ChangeSpec) (c : OpenClaim) => P.mayEnter) Tryz.prog 6 Tryz.f6 Rows.riscvParsesSpec Rows.riscvParsesRow = true := by kernel_rfl
theorem fact26 : (fun (P : Program) (f : FuncId) (fn : Func) (s : ChangeSpec) (c : OpenClaim) => (c.lifted == P.liftsFinal)) Tryz.prog 6 Tryz.f6 Rows.riscvParsesSpec Rows.riscvParsesRow = true := by kernel_rfl
theorem fact27 : (fun (P : Program) (f : FuncId) (fn : Func) (s : ChangeSpec) (c : OpenClaim) => (P.make == some c.make)) Tryz.prog 6 Tryz.f6 Rows.riscvParsesSpec Rows.riscvParsesRow = true := by kernel_rfl
theorem fact28 : (fun (P : Program) (f : FuncId) (fn : Func) (s : ChangeSpec) (c : OpenClaim) => (c.kinds == (if c.domain.isEmpty then [] else fn.params.toList.map fun t => match P.underlying t with | some (.int k) => some k | _ => none))) Tryz.prog 6 Tryz.f6 Rows.riscvParsesSpec Rows.riscvParsesRow = true := by kernel_rfl
theorem fact29 : (fun (P : Program) (f : FuncId) (fn : Func) (s : ChangeSpec) (c : OpenClaim) => (c.pinned == c.pinnedBy)) Tryz.prog 6 Tryz.f6 Rows.riscvParsesSpec Rows.riscvParsesRow = true := by kernel_rfl
theorem fact30 : (fun (P : Program) (f : FuncId) (fn : Func) (s : ChangeSpec) (c : OpenClaim) => (c.veiled == (fn.params.toList ++ s.plain.varTypes P ++ fn.resultTypes.toList).any (P.veiledRec ·))) Tryz.prog 6 Tryz.f6 Rows.riscvParsesSpec Rows.riscvParsesRow = true := by kernel_rfl
theorem fact31 : (fun (P : Program) (f : FuncId) (fn : Func) (s : ChangeSpec) (c : OpenClaim) => c.veiledFits P fn.params.toList (fn.params.toList ++ s.plain.varTypes P ++ fn.resultTypes.toList)) Tryz.prog 6 Tryz.f6 Rows.riscvParsesSpec Rows.riscvParsesRow = true := by kernel_rfl
theorem facts : joinedFacts Tryz.prog 6 Tryz.f6 Rows.riscvParsesSpec Rows.riscvParsesRow = true := facts_of fact0 fact1 fact2 fact3 fact4 fact5 fact6 fact7 fact8 fact9 fact10 fact11 fact12 fact13 fact14 fact15 fact16 fact17 fact18 fact19 fact20 fact21 fact22 fact23 fact24 fact25 fact26 fact27 fact28 fact29 fact30 fact31
theorem fnamed : Tryz.prog.funcNamed "belated/belatedlaw6.RiscvParses" = some 6 := by kernel_rfl
theorem instOk : Tryz.f6.isInstance Tryz.prog Rows.riscvParsesRow.origin Rows.riscvParsesRow.targs := of_decide_eq_true (by kernel_rfl)
theorem wrapOk : Tryz.f6.isWrapper Tryz.prog Rows.riscvParsesRow.wrapper Rows.riscvParsesRow.mainSum := by
  unfold Func.isWrapper; first | (rw [if_pos (by decide +kernel)]; kernel_rfl) | (rw [if_neg (by decide +kernel)]; exact ⟨rfl, rfl⟩)
theorem riscvParses_holds : Rows.RiscvParsesSaid :=
  OpenClaim.holds_of_wide 6 Tryz.f6 rfl rfl rfl rfl rfl rfl rfl ⟨rfl, rfl, rfl, rfl, rfl⟩ rfl rfl rfl rfl rfl fnamed Tryz.func6 facts instOk wrapOk
    (fun os started H enc _ => lifted os started H enc)
theorem wfText : Rows.riscvParsesRow.wfByText (OpenSpec.ofChange Rows.riscvParsesSpec) = true := by kernel_rfl
theorem mainOk : Tryz.prog.mainIs = some (true, "d30bc18a96f78f06312784778573d1bd57ec19849199987212d56ebc9f648bfb".toList) := by kernel_rfl
theorem looksOk : true = Tryz.prog.looks [] := by kernel_rfl
theorem standOk : ([9].all fun u => !Tryz.prog.wantsStandIn u) = true := by kernel_rfl
theorem goesOk : false = Rows.riscvParsesRow.goesBy Tryz.prog := by kernel_rfl
theorem riscvParses_card : Rows.RiscvParsesCardSaid :=
  Claim7.holds_tied_plain_at .later [] [.data, .data, .data, .sentinel, .sentinel, .listed, .data] true (true, "d30bc18a96f78f06312784778573d1bd57ec19849199987212d56ebc9f648bfb") true
    riscvParses_holds (fun _ h => by cases h) wfText (fun _ h => by cases h) riscvParses_row_tie rfl ⟨rfl, rfl⟩ mainOk rfl
    (fun f fn hf hfn => by
      obtain rfl : f = 6 := Option.some.inj (fnamed.symm.trans hf) |>.symm
      obtain rfl : fn = Tryz.f6 := (Option.some.inj (Tryz.func6.symm.trans hfn)).symm
      exact ⟨looksOk, fun j t ht => by
        have ht : [9].toArray[j]? = some t := by rw [Tryz.params6] at ht; exact ht
        have hm : t ∈ [9] := by simpa using Array.mem_of_getElem? ht
        exact (show Tryz.prog.wantsStandIn t = false by simpa using List.all_eq_true.1 standOk t hm)⟩)
    goesOk
#print axioms riscvParses_card
end Go.Proofs.YtlgjjklikbpcoaaGreatDoor
