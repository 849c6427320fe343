/- A part of SX: symbolic and concrete runs of the program, with contracts of functions; lemmas without further conditions. -/
import Derived.IntWalk
import Derived.Test.YthkedcneehdinaaGreatDoorWA
set_option linter.unusedVariables false
set_option linter.unusedSimpArgs false
set_option linter.unusedSectionVars false
/- SX: a pure operation, whichever. -/
set_option linter.unusedVariables false
set_option linter.unusedSimpArgs false
namespace Go.Proofs.YthkedcneehdinaaGreatDoor
namespace SX
open Go

/-- Operands' values, as an operation sees them. -/
structure Evs (E : Env) (m : Mem) (V : List Nat) (e : Operand → SV) (ρ : Operand → Value) : Prop where
  gd : ∀ o, e o = .dead ∨ Gd m V (e o) ∧ ρ o = den E (e o)
  cst : ∀ v, ρ (.const v) = v
theorem Evs.live {E m V e ρ} (h : Evs E m V e ρ) {o : Operand} (hl : live (e o) = true) : Gd m V (e o) ∧ ρ o = den E (e o) := by
  rcases h.gd o with hd | hg
  · rw [hd] at hl; simp [SX.live] at hl
  · exact hg
theorem okCells_live {x : SV} (h : okCells x = true) : live x = true := by cases x <;> simp [okCells, isCell] at h <;> rfl
/-! ### What is forgotten is of no use -/
section
variable {T : Tb} {h : List SB} {t : TypeId}
theorem loadR_dead : loadR T h t .dead = .no := by unfold loadR; cases T t <;> rfl
theorem fieldA_dead {f : Nat} : fieldA T t .dead f = .no := by
  unfold fieldA
  (repeat' split) <;> first | rfl | simp_all
theorem nilB_dead {k : TK} : nilB k .dead = none := by cases k <;> rfl
theorem isNilLit_dead {k : TK} : isNilLit k .dead = false := by cases k <;> rfl
theorem nilE_dead {k : TK} {c : Bool} {y : SV} : nilE k c .dead y = none ∧ nilE k c y .dead = none := by
  unfold nilE
  rw [isNilLit_dead, nilB_dead]
  cases ckI k c <;> cases isNilLit k y <;> simp
theorem binE_dead {neg c : Bool} {ti : TI} {y : SV} : binE neg c ti .dead y = .no ∧ binE neg c ti y .dead = .no := by
  constructor <;> unfold binE <;> (repeat' split) <;> first | rfl | (simp_all; done) | (simp_all [nilE_dead]; done) | (rename_i hh; simp [nilE_dead] at hh; done)
theorem binR_dead {op : BinOp} {c : Bool} {y : SV} : binR T op t c .dead y = .no ∧ binR T op t c y .dead = .no := by
  constructor
  · simp only [binR]
    cases T t with
    | none => rfl
    | some ti => cases op <;> simp [binE_dead]
  · cases y <;> simp only [binR] <;> (cases T t with
    | none => rfl
    | some ti => cases op <;> simp [binE_dead])
theorem addrIx_dead {o : Operand} {y : SV} : addrIx T t .dead o y = .no ∧ addrIx T t y o .dead = .no := by
  refine ⟨?_, by cases y <;> rfl⟩
  unfold addrIx
  (repeat' split) <;> first | rfl | simp_all
theorem indexR_dead {c : Bool} {y : SV} : indexR T t .dead y c = .no ∧ indexR T t y .dead c = .no := by
  refine ⟨by cases y <;> rfl, ?_⟩
  unfold indexR
  split <;> simp_all
theorem fieldR_dead {f : Nat} : fieldR T t .dead f = .no := rfl
theorem convR_dead {s : TypeId} : convR T s t .dead = .no := by
  unfold convR
  cases T s <;> cases T t <;> simp only
  rename_i ti
  cases ti.k <;> rfl
theorem extR_dead {n : Nat} : extR .dead n = .no := rfl
theorem assertR_dead {c : Bool} : assertR T .dead t c = .no := by unfold assertR; cases T t <;> rfl
theorem slice3R_dead {lo hi mx : Option SV} : slice3R T t .dead lo hi mx = .no := by
  unfold slice3R
  (repeat' split) <;> first | rfl | simp_all
theorem sliceR_dead {lo hi : Option SV} : sliceR T t .dead lo hi = .no := by
  unfold sliceR
  (repeat' split) <;> first | rfl | simp_all
end
section
variable {P : Program} {T : Tb} (hT : TabOk P T) {E : Env} {C : Fr} {m : Mem} {h : List SB} {w : World} (hr : Rel E C m h w) {e : Operand → SV} {ρ : Operand → Value} (he : Evs E m (vers h) e ρ)
include hT hr he
/-- What a pure operation comes to is what the executor says. -/
theorem pureR_ok (o : Oper) {x : SV} (hx : (pureR T h e o.op).To x) : ∃ v, (execOp ρ o).run P w = .ok (.value v) w ∧ (x = .dead ∨ Gd m (vers h) x ∧ v = den E x) := by
  cases ho : o.op <;> rw [ho] at hx <;> try (simp [pureR] at hx; done)
  case move y => simp [pureR] at hx; subst hx; exact ⟨ρ y, by simp [execOp, ho], (he.gd y).imp id id⟩
  case assign y => simp [pureR] at hx; subst hx; exact ⟨ρ y, by simp [execOp, ho], (he.gd y).imp id id⟩
  case load t p =>
    simp only [pureR] at hx
    rcases he.gd p with hd | ⟨g, hρ⟩
    · rw [hd, loadR_dead] at hx; simp at hx
    · obtain ⟨h1, h2⟩ := loadR_ok hT.ti hr g hx
      exact ⟨den E x, by simp [execOp, ho, hρ, h1], .inr ⟨h2, rfl⟩⟩
  case nilCheck y =>
    simp only [pureR] at hx
    rcases he.gd y with hd | ⟨g, hρ⟩
    · rw [hd] at hx; simp [nilCk] at hx
    · obtain ⟨h1, h2⟩ := nilCk_ok hT (w := w) (E := E) g hx o y ho ρ hρ
      exact ⟨_, h1, .inr ⟨h2, rfl⟩⟩
  case fieldAddr t p f =>
    simp only [pureR] at hx
    rcases he.gd p with hd | ⟨g, hρ⟩
    · rw [hd, fieldA_dead] at hx; simp at hx
    · obtain ⟨h1, h2⟩ := fieldA_ok hT.ti (w := w) (E := E) g hx
      exact ⟨_, by simp [execOp, ho, hρ, h1], .inr ⟨h2, rfl⟩⟩
  case indexAddr t y ix =>
    simp only [pureR] at hx
    rcases he.gd y with hd | ⟨g, hρ⟩
    · rw [hd, addrIx_dead.1] at hx; simp at hx
    · rcases he.gd ix with hd | ⟨g2, hρ2⟩
      · rw [hd, addrIx_dead.2] at hx; simp at hx
      · obtain ⟨h1, h2⟩ := addrIx_ok hT (w := w) (E := E) hρ2 (fun v hv => by rw [hv]; exact he.cst v) hr.nn g g2 hx
        exact ⟨_, by simp [execOp, ho, hρ, h1], .inr ⟨h2, rfl⟩⟩
  case index t y ix =>
    simp only [pureR] at hx
    rcases he.gd y with hd | ⟨g, hρ⟩
    · rw [hd, indexR_dead.1] at hx; simp at hx
    · rcases he.gd ix with hd | ⟨g2, hρ2⟩
      · rw [hd, indexR_dead.2] at hx; simp at hx
      · obtain ⟨h1, h2⟩ := indexR_ok hT (w := w) (E := E) (fun hc k n hk => by
          obtain ⟨k', u, hu, _⟩ := constIx_spec hc
          have := he.cst (.int k' (Int.ofNat u))
          rw [← hu, hρ2, hk, den_v.1] at this
          simp at this
          omega) g hx
        exact ⟨_, by simp [execOp, ho, hρ, hρ2, h1], .inr ⟨h2, rfl⟩⟩
  case field t y f =>
    simp only [pureR] at hx
    rcases he.gd y with hd | ⟨g, hρ⟩
    · rw [hd, fieldR_dead] at hx; simp at hx
    · obtain ⟨h1, h2⟩ := fieldR_ok hT (w := w) (E := E) g hx
      exact ⟨_, by simp [execOp, ho, hρ, h1], .inr ⟨h2, rfl⟩⟩
  case binOp op t y z yt =>
    simp only [pureR] at hx
    rcases he.gd y with hd | ⟨g, hρ⟩
    · rw [hd, binR_dead.1] at hx; simp at hx
    · rcases he.gd z with hd | ⟨g2, hρ2⟩
      · rw [hd, binR_dead.2] at hx; simp at hx
      · obtain ⟨h1, h2⟩ := binR_ok hT (w := w) (E := E) hr.nn g g2 hx
        refine ⟨_, ?_, .inr ⟨h2, rfl⟩⟩
        simp only [Sem.run_bind] at h1
        simp only [execOp, ho, hρ, hρ2, Sem.run_bind, h1, Result.andThen_ok, Sem.run_pure]
  case unOp op t y =>
    cases op <;> try (simp [pureR] at hx; done)
    all_goals
      simp only [pureR] at hx
      rcases he.gd y with hd | ⟨g, hρ⟩
      · rw [hd] at hx; simp at hx
      · cases hy : e y <;> rw [hy] at hx <;> simp at hx
        subst hx
        refine ⟨_, ?_, .inr ⟨by first | exact Gd_i _ _ | exact Gd_b _, rfl⟩⟩
        first
        | (simp [execOp, ho, hρ, hy, den_v, Op.unary]; done)
        | (simp only [execOp, ho, hρ, hy, den_v, Op.unary, Op.intArith, Sem.run_bind, Sem.run_pure, Result.andThen_ok]; done)
        | (simp only [execOp, ho, hρ, hy, den_v, Op.unary, Op.intArith, Sem.run_bind, Sem.run_pure, Result.andThen_ok, Int.zero_sub]; done)
        | (simp only [execOp, ho, hρ, hy, den_v, Op.unary, Sem.run_bind, intBits_run (.inr (.inr (.inl rfl))), Result.andThen_ok, Sem.run_pure]; done)
  case convert src dst y =>
    simp only [pureR] at hx
    rcases he.gd y with hd | ⟨g, hρ⟩
    · rw [hd, convR_dead] at hx; simp at hx
    · obtain ⟨h1, h2⟩ := convR_ok hT (w := w) (E := E) (m := m) (V := vers h) hx
      exact ⟨_, by simp [execOp, ho, hρ, h1], .inr ⟨h2, rfl⟩⟩
  case extract y n =>
    simp only [pureR] at hx
    rcases he.gd y with hd | ⟨g, hρ⟩
    · rw [hd, extR_dead] at hx; simp at hx
    · obtain ⟨h1, h2⟩ := extR_ok (P := P) (w := w) (E := E) g hx
      exact ⟨_, by simp [execOp, ho, hρ, h1], .inr ⟨h2, rfl⟩⟩
  case build t parts =>
    simp only [pureR] at hx
    have hall : ∀ p : Nat × Operand, okCells (e p.2) = true → Gd m (vers h) (e p.2) ∧ ρ p.2 = den E (e p.2) := fun p hp => he.live (okCells_live hp)
    obtain ⟨h1, h2⟩ := buildR_ok hT (w := w) (E := E) (m := m) (V := vers h) (vs := parts.toList.map fun p => (p.1, ρ p.2)) (fun p hp hok => by
        obtain ⟨q, _, rfl⟩ := List.mem_map.1 hp
        exact (hall q hok).1)
      (fun hcs => by
        rw [List.map_map]
        apply List.map_congr_left
        intro q hq
        simp only [Function.comp]
        rw [(hall q (hcs (q.1, e q.2) (List.mem_map.2 ⟨q, hq, rfl⟩))).2]) hx
    refine ⟨_, ?_, .inr ⟨h2, rfl⟩⟩
    have : (parts.map fun x : Nat × Operand => match x with | (i, x) => (i, ρ x)) = (parts.toList.map fun p => (p.1, ρ p.2)).toArray := by
      apply Array.ext'; simp
    simp only [execOp, ho, this, Sem.run_bind, h1, Result.andThen_ok, Sem.run_pure]
  case makeFunc fn first caps =>
    cases fn <;> try (simp [pureR] at hx; done)
    rename_i f
    simp only [pureR] at hx
    cases hf : first.toList with
    | cons o1 ol =>
      cases ol with
      | cons _ _ => simp [hf] at hx
      | nil =>
        cases hc : caps.toList with
        | cons _ _ => simp [hf, hc] at hx
        | nil =>
          simp only [hf, hc] at hx
          cases hb : live (e o1) with
          | false => simp [hb] at hx
          | true =>
            simp only [hb, cond_true, R.To_v] at hx; subst hx
            have hfe : first = #[o1] := by apply Array.ext'; simpa using hf
            have hce : caps = #[] := by apply Array.ext'; simpa using hc
            obtain ⟨g, hρ⟩ := he.live hb
            refine ⟨.func (.func f) #[ρ o1] #[], by simp [execOp, ho, Instr.makeFunc, hfe, hce], .inr ⟨⟨by simp only [Ok]; exact g, rfl⟩, ?_⟩⟩
            rw [hρ]
            simp only [den, wrapV, cells, List.headD_cons]
    | nil =>
      simp only [hf] at hx
      cases hb : (caps.toList.map e).all live with
      | false => simp [hb] at hx
      | true =>
        simp only [hb, cond_true, R.To_v] at hx; subst hx
        have hfe : first = #[] := by apply Array.ext'; simpa using hf
        have hl : ∀ o ∈ caps.toList, live (e o) = true := fun o ho => List.all_eq_true.1 hb (e o) (List.mem_map.2 ⟨o, ho, rfl⟩)
        refine ⟨.func (.func f) #[] (caps.map ρ), by simp [execOp, ho, Instr.makeFunc, hfe], .inr ⟨⟨?_, rfl⟩, ?_⟩⟩
        · simp only [Ok]
          have : ∀ l : List Operand, (∀ o ∈ l, live (e o) = true) → OkA m (vers h) (l.map e) := by
            intro l
            induction l with
            | nil => intro _; simp [OkA]
            | cons o l ih => intro hh; simp only [List.map_cons, OkA]; exact ⟨⟨hh o (List.mem_cons_self ..), (he.live (hh o (List.mem_cons_self ..))).1.1⟩, ih fun o ho => hh o (List.mem_cons_of_mem _ ho)⟩
          exact this _ hl
        · have : ∀ l : List Operand, (∀ o ∈ l, live (e o) = true) → denL E (l.map e) = l.map ρ := by
            intro l
            induction l with
            | nil => intro _; simp [denL]
            | cons o l ih => intro hh; simp only [List.map_cons, denL, ih fun o ho => hh o (List.mem_cons_of_mem _ ho)]; rw [(he.live (hh o (List.mem_cons_self ..))).2]; rfl
          simp only [den, wrapV, cells, List.headD_cons, this _ hl]
          congr 1
          apply Array.ext'; simp
  case makeInterface t y =>
    simp only [pureR] at hx
    cases ht : T t with
    | none => simp [ht] at hx
    | some ti =>
      obtain ⟨d, hd, hk⟩ := (hT.ti t ti ht).desc
      simp only [ht] at hx
      have key : (∀ ms, d ≠ .interface ms) ∧ live (e y) = true ∧ x = .iface t (e y) := by
        cases hkk : ti.k <;> rw [hkk] at hx hk <;> simp at hx <;> (cases hl : live (e y) with
          | false => simp [hl] at hx
          | true => (simp [hl] at hx; exact ⟨fun ms em => by subst em; simp [kokB] at hk, rfl, hx.symm⟩))
      obtain ⟨h1, h2, rfl⟩ := key
      obtain ⟨g, hρ⟩ := he.live h2
      refine ⟨.iface t (den E (e y)), ?_, .inr ⟨⟨by simp only [Ok]; exact g, rfl⟩, by simp only [den, wrapV, cells, List.headD_cons]⟩⟩
      simp only [execOp, ho, hρ, Instr.makeInterface, Sem.run_bind, run_underlying' hd, Result.andThen_ok]
      cases d <;> first | (exact absurd rfl (h1 _)) | simp
  case typeAssert y xt t ok =>
    simp only [pureR] at hx
    rcases he.gd y with hd | ⟨g, hρ⟩
    · rw [hd, assertR_dead] at hx; simp at hx
    · obtain ⟨h1, h2⟩ := assertR_ok hT (w := w) (E := E) (xt := xt) g hx
      exact ⟨_, by simp [execOp, ho, hρ, h1], .inr ⟨h2, rfl⟩⟩
  case slice t y lo hi mx =>
    have mapO : ∀ q : Option Operand, liveO e q = true → q.map ρ = (q.map e).map (den E) := fun q hq => by
      cases q with
      | none => rfl
      | some o => simp [(he.live hq).2]
    cases mx with
    | some mx =>
      simp only [pureR] at hx
      cases hb : (liveO e lo && liveO e hi && live (e mx)) with
      | false => simp only [hb] at hx; simp at hx
      | true =>
        simp only [hb, cond_true] at hx
        simp only [Bool.and_eq_true] at hb
        rcases he.gd y with hd | ⟨g, hρ⟩
        · rw [hd, slice3R_dead] at hx; simp at hx
        · obtain ⟨h1, h2⟩ := slice3R_ok hT (w := w) (E := E) g hx
          refine ⟨_, ?_, .inr ⟨h2, rfl⟩⟩
          simp only [execOp, ho, hρ, mapO lo hb.1.1, mapO hi hb.1.2, Option.map_some, (he.live hb.2).2, Sem.run_bind, h1, Result.andThen_ok, Sem.run_pure]
    | none =>
      simp only [pureR] at hx
      cases hb : (liveO e lo && liveO e hi) with
      | false => simp only [hb] at hx; simp at hx
      | true =>
        simp only [hb, cond_true] at hx
        simp only [Bool.and_eq_true] at hb
        rcases he.gd y with hd | ⟨g, hρ⟩
        · rw [hd] at hx; simp only [sliceV, sliceR_dead] at hx; simp at hx
        · have key : (Instr.sliceAt t (den E (e y)) ((lo.map e).map (den E)) ((hi.map e).map (den E)) none).run P w = .ok (den E x) w ∧ Gd m (vers h) x := by
            unfold sliceV at hx
            split at hx
            · rename_i hy
              rw [hy] at g ⊢
              exact sliceH_ok hT hr g hx
            · exact sliceR_ok hT (w := w) (E := E) hr.nn g hx
          obtain ⟨h1, h2⟩ := key
          refine ⟨_, ?_, .inr ⟨h2, rfl⟩⟩
          simp only [execOp, ho, hρ, mapO lo hb.1, mapO hi hb.2, Option.map_none, Sem.run_bind, h1, Result.andThen_ok, Sem.run_pure]
  case call c =>
    obtain ⟨cal, args, ats⟩ := c
    cases cal <;> try (simp [pureR] at hx; done)
    rename_i b
    have hdl : ∀ l : List Operand, (∀ o ∈ l, live (e o) = true) → denL E (l.map e) = l.map ρ := by
      intro l
      induction l with
      | nil => intro _; simp [denL]
      | cons o l ih => intro hh; simp only [List.map_cons, denL, ih fun o ho => hh o (List.mem_cons_of_mem _ ho)]; rw [(he.live (hh o (List.mem_cons_self ..))).2]; rfl
    have hargs : args.map ρ = (args.toList.map ρ).toArray := by apply Array.ext'; simp
    cases b <;> try (simp [pureR] at hx; done)
    case len =>
      simp only [pureR] at hx
      split at hx
      · rename_i y t ha hat
        rcases he.gd y with hd | ⟨g, hρ⟩
        · rw [hd] at hx; unfold lenR at hx
          cases ht : T t <;> rw [ht] at hx <;> simp at hx
        · obtain ⟨h1, h2⟩ := lenR_ok hT (w := w) (E := E) (ty := o.type) g hx
          have hat' : ats = #[t] := by apply Array.ext'; simpa using hat
          refine ⟨_, ?_, .inr ⟨h2, rfl⟩⟩
          simp only [execOp, ho, resolve, hargs, ha, List.map_cons, List.map_nil, hρ, Sem.run_bind, Sem.run_pure, Result.andThen_ok, invoke, builtin, hat', h1]
      · simp at hx
    case min =>
      simp only [pureR] at hx
      cases hb : (args.toList.map e).all live with
      | false => simp [hb] at hx
      | true =>
        simp only [hb, cond_true] at hx
        have hl : ∀ o ∈ args.toList, live (e o) = true := fun o ho => List.all_eq_true.1 hb (e o) (List.mem_map.2 ⟨o, ho, rfl⟩)
        obtain ⟨h1, h2⟩ := minR_ok (P := P) (w := w) (E := E) (m := m) (V := vers h) hx ats o.type
        refine ⟨_, ?_, .inr ⟨h2, rfl⟩⟩
        simp only [Bool.false_eq_true, if_false, hdl _ hl] at h1
        simp only [execOp, ho, resolve, hargs, Sem.run_bind, Sem.run_pure, Result.andThen_ok, invoke, builtin, h1]
    case max =>
      simp only [pureR] at hx
      cases hb : (args.toList.map e).all live with
      | false => simp [hb] at hx
      | true =>
        simp only [hb, cond_true] at hx
        have hl : ∀ o ∈ args.toList, live (e o) = true := fun o ho => List.all_eq_true.1 hb (e o) (List.mem_map.2 ⟨o, ho, rfl⟩)
        obtain ⟨h1, h2⟩ := minR_ok (P := P) (w := w) (E := E) (m := m) (V := vers h) hx ats o.type
        refine ⟨_, ?_, .inr ⟨h2, rfl⟩⟩
        simp only [if_true, hdl _ hl] at h1
        simp only [execOp, ho, resolve, hargs, Sem.run_bind, Sem.run_pure, Result.andThen_ok, invoke, builtin, h1]
end
end SX
end Go.Proofs.YthkedcneehdinaaGreatDoor

/- SX: slots. -/
set_option linter.unusedVariables false
set_option linter.unusedSimpArgs false
namespace Go.Proofs.YthkedcneehdinaaGreatDoor
namespace SX
open Go

theorem GV.fun {t : List SV} {q : List (Nat × Bool)} {g g' : Bool} (h : GV t q g) (h' : GV t q g') : g = g' := by
  induction h generalizing g' with
  | nil => cases h'; rfl
  | one hd => cases h' with
    | one hd' => rw [hd] at hd'; cases hd'; rfl
    | cons hd' _ => rw [hd] at hd'; cases hd'
  | cons hd _ ih => cases h' with
    | one hd' => rw [hd] at hd'; cases hd'
    | cons hd' h2 => rw [hd] at hd'; cases hd'; rw [ih h2]
theorem eqP_eq : ∀ {p q : List (Nat × Bool)}, eqP p q = true → p = q
  | [], [], _ => rfl
  | [], _ :: _, h => by simp [eqP] at h
  | _ :: _, [], h => by simp [eqP] at h
  | (j, b) :: r, (k, c) :: s, h => by
    simp [eqP] at h
    obtain ⟨⟨h1, h2⟩, h3⟩ := h
    rw [eqP_eq h3, h1]
    cases b <;> cases c <;> simp at h2 ⊢
theorem GV_tail {t : List SV} {x : Nat × Bool} {p : List (Nat × Bool)} {g : Bool} (h : GV t (x :: p) g) (hg : g = true) : GV t p true := by
  cases h with
  | one _ => exact .nil
  | cons _ h2 =>
    rename_i g0 _
    have : g0 = true := by revert hg; cases g0 <;> simp
    rw [this] at h2; exact h2
theorem sufx_GV {t : List SV} : ∀ {p q : List (Nat × Bool)}, sufx q p = true → GV t p true → GV t q true
  | [], q, h, hg => by simp only [sufx] at h; rw [eqP_eq h]; exact hg
  | x :: p, q, h, hg => by
    simp only [sufx, Bool.or_eq_true] at h
    rcases h with h | h
    · rw [eqP_eq h]; exact hg
    · exact sufx_GV h (GV_tail hg rfl)
theorem GV_gB {t : List SV} {q : List (Nat × Bool)} {g : Bool} (h : GV t q g) : gB t q = g := by
  induction h with
  | nil => rfl
  | one hd => simp only [gB, hd]
  | cons hd _ ih => simp only [gB, hd, ih]

theorem slot_live {E m V t v x} (h : SlotOk E m V t v x) (hl : live x = true) : Gd m V x ∧ v = den E x := by
  cases x <;> simp [live] at hl <;> exact ⟨⟨h.1, rfl⟩, h.2⟩
theorem Rep.slot {E C m S a w} (h : Rep E C m S a w) (n : Nat) : S.t.getD n .dead = .dead ∨ ∃ x v, S.t[n]? = some x ∧ S.t.getD n .dead = x ∧ a.tmps[n]? = some v ∧ a.eval (.tmp n) = v ∧ SlotOk E m (vers S.h) S.t v x := by
  cases hs : S.t[n]? with
  | none => left; simp [List.getD, hs]
  | some x =>
    right
    have hlt : n < S.t.length := (List.getElem?_eq_some_iff.1 hs).1
    have hv : a.tmps[n]? = some (a.tmps[n]'(by rw [h.sz]; exact hlt)) := Array.getElem?_eq_getElem _
    exact ⟨x, _, rfl, by simp [List.getD, hs], hv, by simp [Act.eval, Array.getD, h.sz, hlt], h.sl n x _ hs hv⟩
theorem ofV_ok {E m V} (v : Value) : Gd m V (ofV v) ∧ den E (ofV v) = v := by
  unfold ofV
  split
  · exact ⟨Gd_i _ _, by simp [den_v]⟩
  · exact ⟨Gd_b _, by simp [den_v]⟩
  · exact ⟨Gd_s _, by simp [den_v]⟩
  · exact ⟨⟨by simp [Ok], rfl⟩, by simp [den_v]⟩
  · exact ⟨⟨by simp [Ok], rfl⟩, by simp [den_v]⟩
theorem ofV_ngrd (v : Value) : ∀ q x, ofV v ≠ .grd q x := by
  intro q x; unfold ofV; split <;> simp
theorem gV_ngrd (g : Nat) : ∀ q x, gV g ≠ .grd q x := by
  intro q x; unfold gV; split <;> simp
theorem Rep.evs {E C m S a w} (h : Rep E C m S a w) {p : List (Nat × Bool)} (hp : GV S.t p true) : Evs E m (vers S.h) (evG p S.t) a.eval := by
  refine ⟨fun o => ?_, fun v => rfl⟩
  cases o with
  | const v =>
    right
    have := ofV_ok (E := E) (m := m) (V := vers S.h) v
    have he : evG p S.t (.const v) = ofV v := by
      simp only [evG, evO]
      cases hv : ofV v <;> first | rfl | exact absurd hv (ofV_ngrd v _ _)
    rw [he]; exact ⟨this.1, this.2.symm⟩
  | global g =>
    right
    cases ht : tabs g with
    | none => exact ⟨⟨by simp [evG, evO, gV, ht, Ok], by simp [evG, evO, gV, ht, SX.live]⟩, by simp [evG, evO, gV, ht, den_v, Act.eval]⟩
    | some v =>
      cases v with
      | ifc => exact ⟨⟨by simp [evG, evO, gV, ht, Ok], by simp [evG, evO, gV, ht, SX.live]⟩, by simp [evG, evO, gV, ht, den_v, Act.eval]⟩
      | anyI k => exact ⟨⟨by simp [evG, evO, gV, ht, Ok], by simp [evG, evO, gV, ht, SX.live]⟩, by simp [evG, evO, gV, ht, den_v, Act.eval]⟩
      | ints k zs =>
        have he : evG p S.t (.global g) = .ipt Unit () zs.length (fun _ => [.ints k zs.length zs]) [()] ⟨g, 0, none⟩ 0 0 [] := by simp [evG, evO, gV, ht]
        rw [he]
        obtain ⟨t, fr, hm⟩ := h.rel.mf.2 g _ ht
        refine ⟨⟨?_, rfl⟩, by simp [den, wrapV, cells, ofs, Act.eval]⟩
        simp only [Ok]
        refine ⟨by simp, fun _ => ⟨_, _, t, fr, rfl, rfl, hm, fun j hj u c hu => ?_⟩, fun _ => by simp [wdL, wd], fun j hj => by simp [OkL, Ok, isUnit]⟩
        have : j = 0 := by simpa using hj
        subst this
        simpa [cellsL, cells] using hu
  | func f => right; exact ⟨⟨by simp [evG, evO, Ok, OkA], rfl⟩, by simp [evG, evO, den, wrapV, cells, denL, Act.eval]⟩
  | tmp n =>
    simp only [evG, evO]
    rcases h.slot n with hd | ⟨x, v, h1, h2, h3, h4, h5⟩
    · left; rw [hd]
    · rw [h2]
      cases x <;> try (right; exact ⟨(slot_live h5 rfl).1, by rw [h4]; exact (slot_live h5 rfl).2⟩)
      case dead => left; rfl
      case grd q y =>
        simp only
        cases hs : sufx q p with
        | false => left; rfl
        | true =>
          right
          obtain ⟨g, hg, ht, _⟩ := h5
          have hgt : g = true := hg.fun (sufx_GV hs hp)
          obtain ⟨o1, o2, o3⟩ := ht hgt
          exact ⟨⟨o1, o2⟩, by rw [h4]; exact o3⟩

/-- The slots, one set anew. -/
def setF (t : List SV) (d : Nat) (x : SV) : List SV := (t.map (killG d)).set d x
theorem forceG_eq (d : Nat) (x : SV) (K : SV → Prop) : forceG d x K = K (killG d x) := by
  cases x <;> simp only [forceG, killG]
  rename_i q y
  cases inG d q <;> rfl
theorem setR_eq (d : Nat) : ∀ (l : List SV) (K : List SV → Prop), setK.setR d l K = K (l.map (killG d))
  | [], K => rfl
  | x :: l, K => by simp only [setK.setR, forceG_eq, setR_eq d l, List.map_cons]
theorem setK_eq (d : Nat) : ∀ (l : List SV) (n : Nat) (v : SV) (K : List SV → Prop), setK d l n v K = K ((l.map (killG d)).set n v)
  | [], n, v, K => by cases n <;> rfl
  | x :: l, 0, v, K => by simp only [setK, setR_eq, List.map_cons, List.set_cons_zero]
  | x :: l, n + 1, v, K => by simp only [setK, forceG_eq, setK_eq d l n v, List.map_cons, List.set_cons_succ]
theorem force_eq (v : SV) (K : SV → Prop) : force v K = K v := by cases v <;> rfl
def putF (t : List SV) (d : Option Nat) (x : SV) : List SV := match d with | some d => setF t d x | none => t
theorem putK_eq (t : List SV) (h : List SB) (d : Option Nat) (v : SV) (K : St → Prop) : putK t h d v K = K ⟨putF t d v, h⟩ := by
  cases d <;> simp only [putK, putF, force_eq, setK_eq, setF]
theorem setH_eq : ∀ (l : List SB) (n : Nat) (v : SB) (K : List SB → Prop), setH l n v K = K (l.set n v)
  | [], n, v, K => by cases n <;> rfl
  | x :: l, 0, v, K => rfl
  | x :: l, n + 1, v, K => by simp only [setH, setH_eq l n v, List.set_cons_succ]
theorem appH_eq : ∀ (l r : List SB) (K : List SB → Prop), appH l r K = K (l ++ r)
  | [], r, K => rfl
  | x :: l, r, K => by simp only [appH, appH_eq l r, List.cons_append]
theorem length_setF (t : List SV) (d : Nat) (x : SV) : (setF t d x).length = t.length := by simp [setF]
theorem GV_slots {t t' : List SV} {q : List (Nat × Bool)} {g : Bool} (h : GV t q g) (hq : ∀ d y, (inG d q = true) → t.getD d .dead = y → (∃ v, y = .b v) ∨ (∃ q' v, y = .grd q' (.b v)) → t'.getD d .dead = y) : GV t' q g := by
  induction h with
  | nil => exact .nil
  | one hd => exact .one (hq _ _ (by simp [inG]) hd (.inl ⟨_, rfl⟩))
  | cons hd _ ih =>
    refine .cons (hq _ _ (by simp [inG]) hd (.inr ⟨_, _, rfl⟩)) (ih fun d y hd' => hq d y (by simp [inG, hd']))
/-- All slots of a row of guards hang on what is behind them in the row alone. -/
theorem GV_in {t : List SV} {q : List (Nat × Bool)} {g : Bool} (h : GV t q g) : ∀ d q' v, inG d q = true → t.getD d .dead = .grd q' (.b v) → ∀ d', inG d' q' = true → inG d' q = true := by
  induction h with
  | nil => intro d q' v hd; simp [inG] at hd
  | one hd =>
    intro d q' v hi hg d' hd'
    simp [inG] at hi
    subst hi
    rw [hd] at hg; cases hg
  | cons hd h2 ih =>
    intro d q' v hi hg d' hd'
    simp only [inG, Bool.or_eq_true] at hi ⊢
    rcases hi with hi | hi
    · have := Nat.eq_of_beq_eq_true hi
      subst this
      rw [hd] at hg; cases hg
      exact .inr hd'
    · exact .inr (ih d q' v hi hg d' hd')
theorem getD_setF (t : List SV) (d n : Nat) (x : SV) (hn : n ≠ d) : (setF t d x).getD n .dead = killG d (t.getD n .dead) := by
  simp only [setF, List.getD_eq_getElem?_getD, List.getElem?_set_ne (Ne.symm hn), List.getElem?_map]
  cases t[n]? <;> rfl
theorem GV_setF {t : List SV} {q : List (Nat × Bool)} {g : Bool} (h : GV t q g) (d : Nat) (x : SV) (hd : inG d q = false) : GV (setF t d x) q g := by
  refine GV_slots h fun n y hn hy hf => ?_
  have hne : n ≠ d := fun e => by subst e; rw [hd] at hn; cases hn
  rw [getD_setF t d n x hne, hy]
  rcases hf with ⟨v, rfl⟩ | ⟨q', v, rfl⟩
  · rfl
  · simp only [killG]
    cases hi : inG d q' with
    | false => rfl
    | true => have := GV_in h n q' v hn hy d hi; rw [hd] at this; cases this
theorem SlotOk.kill {E m V t v x} (h : SlotOk E m V t v x) (d : Nat) (y : SV) : SlotOk E m V (setF t d y) v (killG d x) := by
  cases x <;> try exact h
  rename_i q z
  simp only [killG]
  cases hi : inG d q with
  | true => exact trivial
  | false =>
    obtain ⟨g, hg, h1, h2⟩ := h
    exact ⟨g, GV_setF hg d y hi, h1, h2⟩
theorem SlotOk.mono {E E' m m' V V' t v x} (hx : Ext E m V E' m' V') (h : SlotOk E m V t v x) : SlotOk E' m' V' t v x := by
  have key : ∀ y, Ok m V y → Ok m' V' y ∧ den E' y = den E y := fun y hy => ⟨Ok.mono hx.mm y V V' hx.vv hy, den_stable hx.ee y hy⟩
  cases x <;> try (exact ⟨(key _ h.1).1, by rw [(key _ h.1).2]; exact h.2⟩)
  · rename_i q y
    obtain ⟨g, hg, h1, h2⟩ := h
    exact ⟨g, hg, fun ht => ⟨(key _ (h1 ht).1).1, (h1 ht).2.1, by rw [(key _ (h1 ht).1).2]; exact (h1 ht).2.2⟩, h2⟩
  · exact trivial
theorem Ext.refl (E : Env) (m : Mem) (V : List Nat) : Ext E m V E m V := ⟨fun _ _ h => h, fun _ _ h => h, fun _ _ _ => rfl⟩
theorem Ext.trans {E m V E' m' V' E'' m'' V''} (h : Ext E m V E' m' V') (h' : Ext E' m' V' E'' m'' V'') : Ext E m V E'' m'' V'' :=
  ⟨fun b o hb => h'.mm b o (h.mm b o hb), fun k v hv => h'.vv k v (h.vv k v hv), fun k v hv => (h'.ee k v (h.vv k v hv)).trans (h.ee k v hv)⟩
/-- A slot is set. -/
theorem Rep.put {E C m S a w} (h : Rep E C m S a w) (d : Option Nat) {x : SV} {v : Value} (hx : ∀ d', d = some d' → SlotOk E m (vers S.h) (setF S.t d' x) v x) : Rep E C m ⟨putF S.t d x, S.h⟩ (a.put d v) w := by
  cases d with
  | none => exact ⟨h.sz, h.sl, h.df, h.rel⟩
  | some d =>
    have hx := hx d rfl
    refine ⟨?_, ?_, h.df, h.rel⟩
    · simp [putF, length_setF, Act.put, h.sz]
    · intro n y u hy hu
      simp only [putF, setF] at hy
      simp only [Act.put] at hu
      by_cases hnd : n = d
      · subst hnd
        have hlt : n < S.t.length := by have := (List.getElem?_eq_some_iff.1 hy).1; simpa using this
        rw [List.getElem?_set_self (by simpa using hlt)] at hy
        cases hy
        rw [Array.getElem?_setIfInBounds_self_of_lt (by rw [h.sz]; exact hlt)] at hu
        cases hu
        exact hx
      · rw [List.getElem?_set_ne (Ne.symm hnd), List.getElem?_map] at hy
        rw [Array.getElem?_setIfInBounds_ne (Ne.symm hnd)] at hu
        cases hs : S.t[n]? with
        | none => rw [hs] at hy; simp at hy
        | some z =>
          rw [hs] at hy; simp at hy; subst hy
          exact (h.sl n z u hs hu).kill d x
theorem SlotOk_live {E m V t x} (h : Gd m V x) : SlotOk E m V t (den E x) x := by
  obtain ⟨h1, h2⟩ := h
  cases x <;> first | exact ⟨h1, rfl⟩ | (simp [live] at h2)
end SX
end Go.Proofs.YthkedcneehdinaaGreatDoor

/- SX: new blocks, stores. -/
set_option linter.unusedVariables false
set_option linter.unusedSimpArgs false
namespace Go.Proofs.YthkedcneehdinaaGreatDoor
namespace SX
open Go

theorem size_of_heap {w : World} {b : Nat} {o : Obj} (h : w.heap[b]? = some o) : b < w.heap.size := (Array.getElem?_eq_some_iff.1 h).1
theorem Holds.block {E m V w k B} {H : List SB} (hk : H[k]? = some B) (h : Holds E m V w k B) : ∀ b, BlkAt E H k b → ∃ o, w.heap[b]? = some o := by
  rintro b ⟨B', hB', hb⟩
  rw [hk] at hB'; cases hB'
  cases B with
  | mem t segs ver gr =>
    obtain ⟨h0, c, he⟩ := hb
    cases gr with
    | zero => obtain ⟨_, b', c', he', hh, _⟩ := h; rw [he] at he'; cases he'; exact ⟨_, hh⟩
    | succ gr => obtain ⟨_, _, h3⟩ := h; obtain ⟨b', c', sp, he', hh, _⟩ := h3 h0; rw [he] at he'; cases he'; exact ⟨_, hh⟩
  | mp kv ver =>
    obtain ⟨h0, b', c', es, clock, he', hh, _⟩ := h
    obtain ⟨c, he⟩ := hb
    subst h0
    rw [he] at he'; cases he'; exact ⟨_, hh⟩
  | gone v => exact hb.elim
  | fresh => exact hb.elim
theorem vers_append (H H' : List SB) : vers (H ++ H') = vers H ++ vers H' := by simp [vers]
theorem Vle_append {V V' : List Nat} {k v : Nat} (h : Vle V k v) : Vle (V ++ V') k v := by
  obtain ⟨n, hn, hv⟩ := h
  exact ⟨n, by rw [List.getElem?_append_left (List.getElem?_eq_some_iff.1 hn).1]; exact hn, hv⟩
theorem Vle_lt {V : List Nat} {k v : Nat} (h : Vle V k v) : k < V.length := by
  obtain ⟨n, hn, _⟩ := h; exact (List.getElem?_eq_some_iff.1 hn).1
theorem MapHas.stable {E E' : Env} {kv : List (SV × SV)} {es : List MapEntry} (h : MapHas E kv es) (hs : ∀ p ∈ kv, den E' p.1 = den E p.1 ∧ den E' p.2 = den E p.2) : MapHas E' kv es := by
  unfold MapHas at *
  rw [h]
  apply List.map_congr_left
  intro p hp
  rw [(hs p hp).1, (hs p hp).2]
/-- A block holds what it held where its own block, and what its handles stand for, are as they were. -/
theorem Holds.mono {E E' m m' V V' w w' k B} (h : Holds E m V w k B) (hx : Ext E m V E' m' V') (hE : ∀ v, B.lim = v + 1 → E' k v = E k v) (hw : ∀ b, blkOf E k b B → w'.heap[b]? = w.heap[b]?) : Holds E' m' V' w' k B := by
  cases B with
  | mem t segs ver gr =>
    have he := hE ver rfl
    cases gr with
    | zero =>
      obtain ⟨h0, b, c, h1, h2, h3⟩ := h
      exact ⟨h0, b, c, by rw [he, h1], by rw [hw b ⟨by omega, c, h1⟩, cellsL_stable hx.ee segs h3]; exact h2, OkL.mono hx.mm segs V V' hx.vv h3⟩
    | succ gr =>
      obtain ⟨h3, h4, h5⟩ := h
      refine ⟨OkL.mono hx.mm segs V V' hx.vv h3, fun h0 => by rw [cellsL_stable hx.ee segs h3]; subst h0; rw [he]; exact h4 rfl, fun h0 => ?_⟩
      obtain ⟨b, c, sp, h1, h2, h6⟩ := h5 h0
      exact ⟨b, c, sp, by rw [he, h1], by rw [hw b ⟨h0, c, h1⟩, cellsL_stable hx.ee segs h3]; exact h2, by rw [cellsL_stable hx.ee segs h3]; exact h6⟩
  | mp kv ver =>
    obtain ⟨h0, b, c, es, clock, h1, h2, h3, h4⟩ := h
    subst h0
    refine ⟨rfl, b, c, es, clock, by rw [hE 1 rfl, h1], by rw [hw b ⟨c, h1⟩]; exact h2, h3.stable fun p hp => ⟨den_stable hx.ee _ (h4 p hp).1.1, den_stable hx.ee _ (h4 p hp).2.1⟩, fun p hp => ?_⟩
    have := h4 p hp
    exact ⟨⟨Ok.mono hx.mm _ V V' hx.vv this.1.1, this.1.2⟩, Ok.mono hx.mm _ V V' hx.vv this.2.1, this.2.2⟩
  | gone v => trivial
  | fresh => trivial
def Env.upd (E : Env) (k v : Nat) (x : Nat × Nat) : Env := fun k' v' => if k' = k ∧ v' = v then some x else E k' v'
theorem Env.upd_same (E : Env) (k v : Nat) (x : Nat × Nat) : (E.upd k v x) k v = some x := by simp [Env.upd]
theorem Env.upd_ne (E : Env) {k v k' v' : Nat} (x : Nat × Nat) (h : ¬ (k' = k ∧ v' = v)) : (E.upd k v x) k' v' = E k' v' := by simp [Env.upd, h]
/-- A block of the call's own is made. -/
theorem Rel.alloc {E C m H w} (h : Rel E C m H w) (B : SB) (o : Obj) (hB : B.lim = 2)
    (hh : ∀ E' V', (∀ k v, Vle (vers H) k v → E' k v = E k v) → (∀ k v, Vle (vers H) k v → Vle V' k v) → E' H.length 1 = some (w.heap.size, 0) → Holds E' m V' (w.alloc o) H.length B) :
    ∃ E', E' H.length 1 = some (w.heap.size, 0) ∧ Ext E m (vers H) E' m (vers (H ++ [B])) ∧ Rel E' C m (H ++ [B]) (w.alloc o) := by
  refine ⟨E.upd H.length 1 (w.heap.size, 0), Env.upd_same .., ?_, ?_⟩
  · refine ⟨fun _ _ h => h, fun k v hv => by rw [vers_append]; exact Vle_append hv, fun k v hv => Env.upd_ne _ _ fun e => ?_⟩
    have := Vle_lt hv
    simp [vers] at this; omega
  · have hx : Ext E m (vers H) (E.upd H.length 1 (w.heap.size, 0)) m (vers (H ++ [B])) := by
      refine ⟨fun _ _ h => h, fun k v hv => by rw [vers_append]; exact Vle_append hv, fun k v hv => Env.upd_ne _ _ fun e => ?_⟩
      have := Vle_lt hv
      simp [vers] at this; omega
    have hold : ∀ i, i < w.heap.size → (w.alloc o).heap[i]? = w.heap[i]? := fun i hi => by
      show (w.heap.push o)[i]? = _
      rw [Array.getElem?_push, if_neg (by omega)]
    have hfresh : ∀ b o', w.heap[b]? = some o' → b < w.heap.size := fun b o' hb => size_of_heap hb
    have hbl : ∀ k b, BlkAt (E.upd H.length 1 (w.heap.size, 0)) (H ++ [B]) k b → (k < H.length ∧ BlkAt E H k b) ∨ (k = H.length ∧ b = w.heap.size) := by
      rintro k b ⟨B', hB', hb⟩
      by_cases hk : k < H.length
      · left
        rw [List.getElem?_append_left hk] at hB'
        refine ⟨hk, B', hB', ?_⟩
        cases B' with
        | mem t segs ver gr =>
          obtain ⟨h0, c, he⟩ := hb
          rw [Env.upd_ne _ _ (by omega)] at he
          exact ⟨h0, c, he⟩
        | mp kv ver =>
          obtain ⟨c, he⟩ := hb
          rw [Env.upd_ne _ _ (by omega)] at he
          exact ⟨c, he⟩
        | gone v => exact hb
        | fresh => exact hb
      · right
        have hk' : k = H.length := by
          have := (List.getElem?_eq_some_iff.1 hB').1
          simp at this; omega
        subst hk'
        simp at hB'
        subst hB'
        refine ⟨rfl, ?_⟩
        cases B with
        | mem t segs ver gr =>
          simp [SB.lim] at hB
          subst hB
          obtain ⟨_, c, he⟩ := hb
          rw [Env.upd_same] at he; cases he; rfl
        | mp kv ver =>
          simp [SB.lim] at hB
          subst hB
          obtain ⟨c, he⟩ := hb
          rw [Env.upd_same] at he; cases he; rfl
        | gone v => exact hb.elim
        | fresh => exact hb.elim
    have hsm : m w.heap.size = none := by
      cases hm : m w.heap.size with
      | none => rfl
      | some o' => have := hfresh _ _ (h.im _ _ hm); omega
    have hsf : C.F w.heap.size = none := by
      cases hm : C.F w.heap.size with
      | none => rfl
      | some o' => have := hfresh _ _ (h.fr _ _ hm); omega
    have hlt : ∀ k b, BlkAt E H k b → b < w.heap.size := fun k b hb => by
      obtain ⟨B', hB', hb'⟩ := hb
      obtain ⟨o', ho'⟩ := (h.bl k B' hB').block hB' b ⟨B', hB', hb'⟩
      exact hfresh _ _ ho'
    refine ⟨h.os, h.tape, h.output, fun b o' hb => ?_, fun b o' hb => ?_, h.mf, fun k B' hB' => ?_, fun k v hv hv0 => ?_, fun k b hb => ?_, fun j k b hj hk => ?_⟩
    · have := h.im b o' hb; rw [hold b (hfresh _ _ this)]; exact this
    · have := h.fr b o' hb; rw [hold b (hfresh _ _ this)]; exact this
    · by_cases hk : k < H.length
      · rw [List.getElem?_append_left hk] at hB'
        have hh' := h.bl k B' hB'
        refine hh'.mono hx (fun v hv => Env.upd_ne _ _ (by omega)) (fun b hb => hold b (hlt k b ⟨B', hB', hb⟩))
      · have hk' : k = H.length := by
          have := (List.getElem?_eq_some_iff.1 hB').1
          simp at this; omega
        subst hk'
        simp at hB'
        subst hB'
        exact hh _ _ hx.ee hx.vv (Env.upd_same ..)
    · by_cases hk : k < H.length
      · have hv' : Vle (vers H) k v := by
          obtain ⟨n, hn, hl⟩ := hv
          rw [vers_append, List.getElem?_append_left (by simpa [vers] using hk)] at hn
          exact ⟨n, hn, hl⟩
        rw [Env.upd_ne _ _ (by omega)]
        exact h.nn k v hv' hv0
      · obtain ⟨n, hn, hl⟩ := hv
        have hk' : k = H.length := by
          have := (List.getElem?_eq_some_iff.1 hn).1
          simp [vers] at this; omega
        subst hk'
        rw [vers_append, List.getElem?_append_right (by simp [vers])] at hn
        simp [vers, hB] at hn
        have : v = 1 := by omega
        subst this
        exact ⟨_, _, Env.upd_same ..⟩
    · rcases hbl k b hb with ⟨_, hb'⟩ | ⟨_, rfl⟩
      · exact h.sp k b hb'
      · exact ⟨hsm, hsf⟩
    · rcases hbl j b hj with ⟨_, hj'⟩ | ⟨rfl, hbs⟩ <;> rcases hbl k b hk with ⟨_, hk'⟩ | ⟨rfl, hbs'⟩
      · exact h.inj j k b hj' hk'
      · have := hlt j b hj'; omega
      · have := hlt k b hk'; omega
      · rfl
/-! ### Stores -/
mutual
theorem oneCell_cells {m : Mem} (E : Env) : ∀ (x : SV) (V : List Nat), isUnit x = true → Ok m V x → ∀ c ∈ cells E x, c.oneCell' = true
  | .i _ _, _, _, _ | .b _, _, _, _ | .s _, _, _, _ | .nils, _, _, _ | .imm _ _ _ _ _ _ _, _, _, _ | .ipt _ _ _ _ _ _ _ _ _, _, _, _ | .ptr _ _ _ _, _, _, _ | .fn _ _, _, _, _ | .iface _ _, _, _, _ | .bm _ _, _, _, _ | .map _, _, _, _ => by simp [cells, Value.oneCell']
  | .sl k ver _ _ _ _, _, _, _ => by simp only [cells]; cases E k ver <;> simp [Value.oneCell']
  | .raw v, _, hu, _ => by cases v <;> simp [isUnit, cellV] at hu <;> simp [cells, Value.oneCell']
  | .dead, _, hu, _ => by simp [isUnit] at hu
  | .agg _, _, hu, _ => by simp [isUnit] at hu
  | .tup _, _, hu, _ => by simp [isUnit] at hu
  | .grd _ _, _, hu, _ => by simp [isUnit] at hu
  | .ints _ n xs, _, _, h => by simp [cells, Value.oneCell']
  | .arr N _ d n enc xs, V, _, h => by
    simp only [Ok] at h
    simp only [cells, List.mem_flatMap, List.mem_range]
    rintro c ⟨j, hj, hc⟩
    exact oneCell_cellsL E (enc (xs.getD j d)) V (h.2.2 j hj) c hc
theorem oneCell_cellsL {m : Mem} (E : Env) : ∀ (l : List SV) (V : List Nat), OkL m V l → ∀ c ∈ cellsL E l, c.oneCell' = true
  | [], _, _ => by simp [cellsL]
  | x :: r, V, h => by
    simp only [OkL] at h
    intro c hc
    simp only [cellsL, List.mem_append] at hc
    rcases hc with hc | hc
    · exact oneCell_cells E x V h.1.1 h.1.2 c hc
    · exact oneCell_cellsL E r V h.2 c hc
end
def setBlk (w : World) (b : Nat) (o : Obj) : World := { w with heap := w.heap.setIfInBounds b o }
theorem setBlk_same {w : World} {b : Nat} (h : b < w.heap.size) (o : Obj) : (setBlk w b o).heap[b]? = some o := by simp [setBlk, h]
theorem setBlk_ne {w : World} {b i : Nat} (h : i ≠ b) (o : Obj) : (setBlk w b o).heap[i]? = w.heap[i]? := by
  simp only [setBlk]; rw [Array.getElem?_setIfInBounds_ne (Ne.symm h)]
theorem setBlk_twice (w : World) (b : Nat) (o o' : Obj) : setBlk (setBlk w b o) b o' = setBlk w b o' := by simp [setBlk]
theorem setCell_blk {w : World} {b o : Nat} {A : Array Value} {t : TypeId} {fr : Nat × Nat} (h : w.heap[b]? = some (.cells A t fr)) (v : Value) : w.setCell ⟨b, o, none⟩ v = setBlk w b (.cells (A.setIfInBounds o v) t fr) := by
  obtain ⟨hlt, he⟩ := Array.getElem?_eq_some_iff.1 h
  simp only [World.setCell, setBlk]
  congr 1
  apply Array.ext_getElem?
  intro i
  rw [Array.getElem?_modify]
  by_cases hi : b = i
  · subst hi
    rw [if_pos rfl, h, Array.getElem?_setIfInBounds_self_of_lt hlt]
    simp
  · rw [if_neg hi, Array.getElem?_setIfInBounds_ne hi]
def splV (A : List Value) (o : Nat) (vs : List Value) : List Value := A.take o ++ vs ++ A.drop (o + vs.length)
theorem splV_cons (A : List Value) (o : Nat) (v : Value) (vs : List Value) (h : o + (v :: vs).length ≤ A.length) : splV (A.set o v) (o + 1) vs = splV A o (v :: vs) := by
  simp only [List.length_cons] at h
  simp only [splV, List.length_cons]
  have e1 : (A.set o v).take (o + 1) = A.take o ++ [v] := by
    rw [List.take_add_one, List.getElem?_set_self (by omega), List.take_set_of_le (Nat.le_refl _)]
    rfl
  have e2 : (A.set o v).drop (o + 1 + vs.length) = A.drop (o + (vs.length + 1)) := by
    rw [List.drop_set_of_lt (by omega)]; congr 1; omega
  rw [e1, e2]; simp
theorem run_storeCells {P : Program} : ∀ (vs : List Value) (w : World) (b o i : Nat) (A : List Value) (t : TypeId), w.heap[b]? = some (.cells A.toArray t (0, 0)) → (∀ v ∈ vs, v.oneCell' = true) → o + i + vs.length ≤ A.length →
    (storeCells ⟨b, o, none⟩ vs i).run P w = .ok () (setBlk w b (.cells (splV A (o + i) vs).toArray t (0, 0)))
  | [], w, b, o, i, A, t, h, _, hl => by
    have hlt := size_of_heap h
    simp only [storeCells, Sem.run_pure, splV, List.length_nil, Nat.add_zero, List.append_nil, List.take_append_drop]
    obtain ⟨_, he⟩ := Array.getElem?_eq_some_iff.1 h
    have : setBlk w b (.cells A.toArray t (0, 0)) = w := by
      show { w with heap := w.heap.setIfInBounds b (.cells A.toArray t (0, 0)) } = w
      have hs : w.heap.setIfInBounds b (.cells A.toArray t (0, 0)) = w.heap := by
        apply Array.ext_getElem?
        intro i
        by_cases hi : b = i
        · subst hi; rw [Array.getElem?_setIfInBounds_self_of_lt hlt, h]
        · rw [Array.getElem?_setIfInBounds_ne hi]
      rw [hs]
    rw [this]
  | v :: vs, w, b, o, i, A, t, h, ho, hl => by
    have hlt := size_of_heap h
    simp only [List.length_cons] at hl
    have hc : w.cell? ⟨b, o + i, none⟩ = some (A[o + i]'(by omega)) := by
      rw [cell_of_heap h]; exact List.getElem?_eq_getElem _
    have hf : w.frozen? ⟨b, o + i, none⟩ = false := by simp [World.frozen?, h]
    simp only [storeCells, Sem.run_bind, add_plain', run_store P w ⟨b, o + i, none⟩ v .plain (ho v (List.mem_cons_self ..)), hc, hf, Bool.false_eq_true, if_false, Result.andThen_ok]
    rw [setCell_blk h, List.setIfInBounds_toArray]
    rw [run_storeCells vs _ b o (i + 1) (A.set (o + i) v) t (setBlk_same hlt _) (fun u hu => ho u (List.mem_cons_of_mem _ hu)) (by simp; omega)]
    rw [setBlk_twice, ← Nat.add_assoc, splV_cons A (o + i) v vs (by simp; omega)]
theorem vers_set {H : List SB} {k : Nat} {B B' : SB} (hk : H[k]? = some B) (hl : B'.lim = B.lim) : vers (H.set k B') = vers H := by
  apply List.ext_getElem?
  intro i
  simp only [vers, List.getElem?_map]
  by_cases hi : k = i
  · subst hi
    rw [List.getElem?_set_self (List.getElem?_eq_some_iff.1 hk).1, hk]
    simp [hl]
  · rw [List.getElem?_set_ne hi]
/-- A tracked block is written. -/
theorem Rel.set {E C m H w w'} (h : Rel E C m H w) {k b : Nat} {B B' : SB} (hk : H[k]? = some B) (hl : B'.lim = B.lim) (hb : blkOf E k b B) (hb' : ∀ c, blkOf E k c B' → c = b)
    (hos : w'.os = w.os ∧ w'.tape = w.tape ∧ w'.output = w.output ∧ w.drawn ≤ w'.drawn) (hw : ∀ i, i ≠ b → w'.heap[i]? = w.heap[i]?) (hh : Holds E m (vers H) w' k B') : Rel E C m (H.set k B') w' := by
  have hv := vers_set hk hl
  have hbk : BlkAt E H k b := ⟨B, hk, hb⟩
  have hsp := h.sp k b hbk
  have hbl : ∀ j c, BlkAt E (H.set k B') j c → BlkAt E H j c := by
    rintro j c ⟨B2, h2, h3⟩
    by_cases hj : k = j
    · subst hj
      rw [List.getElem?_set_self (List.getElem?_eq_some_iff.1 hk).1] at h2
      cases h2
      rw [hb' c h3]; exact hbk
    · rw [List.getElem?_set_ne hj] at h2
      exact ⟨B2, h2, h3⟩
  refine ⟨hos.1.trans h.os, hos.2.1.trans h.tape, ⟨hos.2.2.1.trans h.output.1, h.output.2.trans hos.2.2.2⟩, fun i o hi => ?_, fun i o hi => ?_, h.mf, fun j B2 hj => ?_, by rw [hv]; exact h.nn, fun j c hc => h.sp j c (hbl j c hc), fun i j c hi hj => h.inj i j c (hbl i c hi) (hbl j c hj)⟩
  · rw [hw i (fun e => by subst e; rw [hsp.1] at hi; cases hi)]; exact h.im i o hi
  · rw [hw i (fun e => by subst e; rw [hsp.2] at hi; cases hi)]; exact h.fr i o hi
  · rw [hv]
    by_cases hjk : k = j
    · subst hjk
      rw [List.getElem?_set_self (List.getElem?_eq_some_iff.1 hk).1] at hj
      cases hj; exact hh
    · rw [List.getElem?_set_ne hjk] at hj
      refine (h.bl j B2 hj).mono (Ext.refl ..) (fun _ _ => rfl) fun c hc => hw c fun e => ?_
      subst e
      exact hjk (h.inj k j c hbk ⟨B2, hj, hc⟩)
theorem splV_mid (A L B new : List Value) (o : Nat) (h : o + new.length ≤ L.length) : splV (A ++ L ++ B) (A.length + o) new = A ++ splV L o new ++ B := by
  simp only [splV]
  have e1 : (A ++ L ++ B).take (A.length + o) = A ++ L.take o := by
    rw [List.append_assoc, List.take_length_add_append, List.take_append_of_le_length (by omega)]
  have e2 : (A ++ L ++ B).drop (A.length + o + new.length) = L.drop (o + new.length) ++ B := by
    rw [List.append_assoc, Nat.add_assoc, List.drop_length_add_append, List.drop_append_of_le_length (by omega)]
  rw [e1, e2]; simp [List.append_assoc]
theorem length_splV {A new : List Value} {o : Nat} (h : o + new.length ≤ A.length) : (splV A o new).length = A.length := by
  simp [splV]; omega
/-- Units with something laid at a place. -/
theorem arr_set_cells {m : Mem} {V : List Nat} {E : Env} {N : Nat} {α : Type} {d : α} {n : Nat} {enc : α → List SV} {xs : List α} (h : Ok m V (.arr N α d n enc xs)) {i o : Nat} (hi : i < N) {y : α} (hy : OkL m V (enc y)) {new : List Value}
    (hb : o + new.length ≤ n) (hc : cellsL E (enc y) = splV (cellsL E (enc (xs.getD i d))) o new) :
    Ok m V (.arr N α d n enc (xs.set i y)) ∧ i * n + o + new.length ≤ (cells E (.arr N α d n enc xs)).length ∧ cells E (.arr N α d n enc (xs.set i y)) = splV (cells E (.arr N α d n enc xs)) (i * n + o) new := by
  have h' := h
  simp only [Ok] at h
  obtain ⟨h1, h2, h3⟩ := h
  have hget : ∀ j, j < N → (xs.set i y).getD j d = if j = i then y else xs.getD j d := fun j hj => by
    by_cases e : j = i
    · subst e; simp [List.getD_eq_getElem?_getD, List.getElem?_set_self (show j < xs.length by omega)]
    · simp [List.getD_eq_getElem?_getD, List.getElem?_set_ne (Ne.symm e), e]
  have hlen : ∀ j, j < N → (cellsL E (enc (xs.getD j d))).length = n := fun j hj => by rw [length_cellsL E _ V (h3 j hj), h2]
  have hsplit : List.range N = List.range' 0 i ++ (i :: List.range' (i + 1) (N - i - 1)) := by
    rw [List.range_eq_range']
    have : N = i + (1 + (N - i - 1)) := by omega
    conv => lhs; rw [this]
    rw [← List.range'_append_1, Nat.zero_add, Nat.add_comm 1, List.range'_succ]
  have hA : ∀ (c s : Nat), s + c ≤ N → ((List.range' s c).flatMap fun j => cellsL E (enc (xs.getD j d))).length = c * n := by
    intro c
    induction c with
    | zero => intro s _; simp
    | succ c ih =>
      intro s hs
      simp only [List.range'_succ, List.flatMap_cons, List.length_append, hlen s (by omega), ih (s + 1) (by omega)]
      rw [Nat.succ_mul]; omega
  have hLi := hlen i hi
  have c0 : cells E (.arr N α d n enc xs) = ((List.range' 0 i).flatMap fun j => cellsL E (enc (xs.getD j d))) ++ cellsL E (enc (xs.getD i d)) ++ ((List.range' (i + 1) (N - i - 1)).flatMap fun j => cellsL E (enc (xs.getD j d))) := by
    simp only [cells, hsplit, List.flatMap_append, List.flatMap_cons, List.append_assoc]
  have c1 : cells E (.arr N α d n enc (xs.set i y)) = ((List.range' 0 i).flatMap fun j => cellsL E (enc (xs.getD j d))) ++ cellsL E (enc y) ++ ((List.range' (i + 1) (N - i - 1)).flatMap fun j => cellsL E (enc (xs.getD j d))) := by
    simp only [cells, hsplit, List.flatMap_append, List.flatMap_cons, List.append_assoc]
    have e1 : ((List.range' 0 i).flatMap fun j => cellsL E (enc ((xs.set i y).getD j d))) = (List.range' 0 i).flatMap fun j => cellsL E (enc (xs.getD j d)) :=
      flatMap_same fun j hj => by
        have := List.mem_range'_1.1 hj
        rw [hget j (by omega), if_neg (by omega)]
    have e2 : ((List.range' (i + 1) (N - i - 1)).flatMap fun j => cellsL E (enc ((xs.set i y).getD j d))) = (List.range' (i + 1) (N - i - 1)).flatMap fun j => cellsL E (enc (xs.getD j d)) :=
      flatMap_same fun j hj => by
        have := List.mem_range'_1.1 hj
        rw [hget j (by omega), if_neg (by omega)]
    rw [e1, e2, hget i hi, if_pos rfl]
  have hAl := hA i 0 (by omega)
  refine ⟨?_, ?_, ?_⟩
  · simp only [Ok]
    refine ⟨by simp [h1], h2, fun j hj => ?_⟩
    rw [hget j hj]
    split
    · exact hy
    · exact h3 j hj
  · rw [c0]; simp only [List.length_append, hAl, hLi]; omega
  · rw [c0, c1, hc]
    have := splV_mid ((List.range' 0 i).flatMap fun j => cellsL E (enc (xs.getD j d))) (cellsL E (enc (xs.getD i d))) ((List.range' (i + 1) (N - i - 1)).flatMap fun j => cellsL E (enc (xs.getD j d))) new o (by omega)
    rw [hAl] at this
    exact this.symm
theorem updK_spec {m : Mem} {V : List Nat} {E : Env} {new : List SV} (hn : OkL m V new) : ∀ (ix : List Ix) (segs : List SV) (off : Nat) (K : List SV → Prop), updK segs off ix new K → OkL m V segs →
    ∃ segs', K segs' ∧ OkL m V segs' ∧ wdL segs' = wdL segs ∧ off + ofs ix + (cellsL E new).length ≤ (cellsL E segs).length ∧ cellsL E segs' = splV (cellsL E segs) (off + ofs ix) (cellsL E new)
  | [], segs, off, K, h, ho => by
    simp only [updK] at h
    cases hs : spliceC segs off new with
    | none => simp [hs] at h
    | some s =>
      simp only [hs] at h
      obtain ⟨o1, o2, o3, o4⟩ := splice_cells (E := E) hs ho hn
      refine ⟨s, h, o1, ?_, by simpa [ofs] using o3, by simpa [ofs, splV] using o4⟩
      have l1 := length_cellsL E s V o1
      have l2 := length_cellsL E segs V ho
      omega
  | x :: r, segs, off, K, h, ho => by
    simp only [updK] at h
    cases ht : takeC segs off with
    | none => simp [ht] at h
    | some pre =>
      cases hd : dropC segs off with
      | none => simp [ht, hd] at h
      | some q =>
        cases q with
        | nil => simp [ht, hd] at h
        | cons u post =>
          simp only [ht, hd] at h
          obtain ⟨r1, e1, w1⟩ := takeC_spec ht
          obtain ⟨p2, e2, w2⟩ := dropC_spec hd
          have o1 := OkL_append.1 (e1 ▸ ho)
          have o2 := OkL_append.1 (e2 ▸ ho)
          have o3 := o2.2
          simp only [OkL] at o3
          have key : ∃ u', K (pre ++ u' :: post) ∧ isUnit u' = true ∧ Ok m V u' ∧ wd u' = wd u ∧ x.i * x.sz + x.sub + ofs r + (cellsL E new).length ≤ (cells E u).length ∧ cells E u' = splV (cells E u) (x.i * x.sz + x.sub + ofs r) (cellsL E new) := by
            obtain ⟨xc, xi, xsz, xsub⟩ := x
            unfold updU at h
            cases u <;> try (simp at h; done)
            case ints k n xs =>
              simp only at h
              split at h
              · rename_i k' v
                by_cases hk : k = k'
                · subst hk
                  simp only [BEq.rfl, Bool.true_and] at h
                  cases hb : (Nat.beq xsz 1 && Nat.beq xsub 0) with
                  | false => simp [hb] at h
                  | true =>
                    simp only [hb, cond_true] at h
                    simp only [Bool.and_eq_true] at hb
                    have e3 := Nat.eq_of_beq_eq_true hb.1
                    have e4 := Nat.eq_of_beq_eq_true hb.2
                    subst e3; subst e4
                    have hlt : xi < n ∧ K (pre ++ .ints k n (xs.set xi v) :: post) := by
                      cases xc with
                      | true =>
                        cases h3 : Nat.blt xi n with
                        | true => simp [h3] at h; exact ⟨Nat.le_of_ble_eq_true h3, h⟩
                        | false => simp [h3] at h
                      | false => simp at h; exact ⟨h.ob, h.k⟩
                    have hxl : xs.length = n := by have := o3.1.2; simpa only [Ok] using this
                    refine ⟨_, hlt.2, rfl, by simp [Ok, hxl], rfl, ?_, ?_⟩
                    · simp [cells, cellsL, ofs]; omega
                    · simp only [cells, cellsL, ofs, List.append_nil, splV, Nat.mul_one, Nat.add_zero, List.length_singleton]
                      rw [List.map_set]
                      rw [List.set_eq_take_append_cons_drop, if_pos (by simp; omega)]
                      simp
                · have hk' : (k == k') = false := beq_eq_false_iff_ne.2 hk
                  simp [hk'] at h
              · simp at h
            case arr N α d n enc xs =>
              simp only at h
              cases hb : Nat.beq xsz n with
              | false => simp [hb] at h
              | true =>
                have e3 := Nat.eq_of_beq_eq_true hb
                subst e3
                simp only [hb, cond_true] at h
                have hlt : xi < N ∧ updK (enc (xs.getD xi d)) xsub r new (fun e => ∃ y : α, enc y = e ∧ K (pre ++ .arr N α d xsz enc (xs.set xi y) :: post)) := by
                  cases xc with
                  | true =>
                    cases h3 : Nat.blt xi N with
                    | true => simp only [h3, cond_true] at h; exact ⟨Nat.le_of_ble_eq_true h3, h⟩
                    | false => simp [h3] at h
                  | false => simp only [cond_false] at h; exact ⟨h.ob, h.k⟩
                have hu := o3.1.2
                have hu' := hu
                simp only [Ok] at hu'
                obtain ⟨e', ⟨y, rfl, hK⟩, q1, q3, q4, q5⟩ := updK_spec hn r _ _ _ hlt.2 (hu'.2.2 xi hlt.1)
                have hle : (cellsL E (enc (xs.getD xi d))).length = xsz := by rw [length_cellsL E _ V (hu'.2.2 xi hlt.1), hu'.2.1]
                obtain ⟨a1, a2, a3⟩ := arr_set_cells (E := E) hu hlt.1 q1 (by rw [hle] at q4; exact q4) q5
                exact ⟨_, hK, rfl, a1, rfl, by simp only [Nat.add_assoc] at a2 ⊢; exact a2, by rw [a3]; simp only [Nat.add_assoc]⟩
          obtain ⟨u', k1, k2, k3, k4, k6, k7⟩ := key
          have ok' : OkL m V (pre ++ u' :: post) := OkL_append.2 ⟨o1.1, by simp only [OkL]; exact ⟨⟨k2, k3⟩, o3.2⟩⟩
          have l1 := length_cellsL E pre V o1.1
          have l2 := length_cellsL E p2 V o2.1
          have c1 : cellsL E segs = cellsL E pre ++ cellsL E r1 := by rw [e1, cellsL_append]
          have c2 : cellsL E segs = cellsL E p2 ++ (cells E u ++ cellsL E post) := by rw [e2, cellsL_append]; rfl
          have hpre : cellsL E pre = cellsL E p2 := by
            have := congrArg (List.take off) c1
            rw [c2, List.take_left' (by omega), List.take_left' (by omega)] at this
            exact this.symm
          have hcell : cellsL E (pre ++ u' :: post) = splV (cellsL E segs) (off + (x.i * x.sz + x.sub + ofs r)) (cellsL E new) := by
            rw [cellsL_append, c2]
            show cellsL E pre ++ (cells E u' ++ cellsL E post) = _
            have := splV_mid (cellsL E p2) (cells E u) (cellsL E post) (cellsL E new) (x.i * x.sz + x.sub + ofs r) k6
            rw [l2, w2] at this
            rw [← List.append_assoc (cellsL E p2), this, hpre, k7, List.append_assoc]
          refine ⟨_, k1, ok', ?_, ?_, ?_⟩
          · have e4 := length_cellsL E _ V ok'
            have e5 := length_cellsL E segs V ho
            rw [hcell, length_splV (by rw [c2]; simp only [List.length_append]; omega)] at e4
            omega
          · rw [c2]; simp only [List.length_append, ofs]; omega
          · rw [hcell]; simp only [ofs, Nat.add_assoc]
end SX
end Go.Proofs.YthkedcneehdinaaGreatDoor

/- SX: one operation. -/
set_option linter.unusedVariables false
set_option linter.unusedSimpArgs false
namespace Go.Proofs.YthkedcneehdinaaGreatDoor
namespace SX
open Go

theorem Rep.up {E C m S a w E' m' h' w'} (h : Rep E C m S a w) (hx : Ext E m (vers S.h) E' m' (vers h')) (hr : Rel E' C m' h' w') : Rep E' C m' ⟨S.t, h'⟩ a w' :=
  ⟨h.sz, fun n x v hx' hv => (h.sl n x v hx' hv).mono hx, h.df, hr⟩
theorem guardOf_spec {E C m S a w} (h : Rep E C m S a w) {ops : Array Oper} {o : Oper} {p : List (Nat × Bool)} (hg : guardOf ops S.t o = some p) :
    ∃ g, GV S.t p g ∧ Region.wanted o (yielded ops a.tmps) = g := by
  unfold guardOf at hg
  cases ho : o.guard with
  | none => simp [ho] at hg; subst hg; exact ⟨true, .nil, by simp [Region.wanted, ho]⟩
  | some jw =>
    obtain ⟨j, want⟩ := jw
    simp only [ho] at hg
    cases hd : (ops[j]?).bind (·.dst) with
    | none => simp [hd] at hg
    | some d =>
      simp only [hd] at hg
      have hy : yielded ops a.tmps j = match a.tmps[d]? with | some (.bool b) => some b | _ => none := by simp only [yielded, hd]; rfl
      rcases h.slot d with hdd | ⟨x, v, h1, h2, h3, h4, h5⟩
      · rw [hdd] at hg; simp at hg
      · rw [h2] at hg
        cases x <;> try (simp at hg; done)
        case b b =>
          simp at hg; subst hg
          refine ⟨b == want, .one h2, ?_⟩
          have hv : v = .bool b := by have := h5.2; simpa [den_v] using this
          simp only [Region.wanted, ho, hy, h3, hv]
          cases b <;> cases want <;> rfl
        case grd q y =>
          cases y <;> try (simp at hg; done)
          rename_i b
          simp at hg; subst hg
          obtain ⟨g, hgv, ht, hf⟩ := h5
          refine ⟨g && (b == want), .cons h2 hgv, ?_⟩
          cases g with
          | true =>
            have hv : v = .bool b := by have := (ht rfl).2.2; simpa [den_v] using this
            simp only [Region.wanted, ho, hy, h3, hv]
            cases b <;> cases want <;> rfl
          | false =>
            have hv := hf rfl
            simp only [Region.wanted, ho, hy, h3, hv, undef, Bool.false_and]
            cases want <;> rfl
theorem guard_none {ops : Array Oper} {t : List SV} {o : Oper} (hg : guardOf ops t o = some []) : o.guard = none := by
  unfold guardOf at hg
  cases ho : o.guard with
  | none => rfl
  | some jw =>
    obtain ⟨j, want⟩ := jw
    simp only [ho] at hg
    split at hg <;> (try split at hg) <;> simp at hg
section
variable {P : Program} {T : Tb} {ops : Array Oper} {o : Oper}
/-- What a guarded operation leaves in its slot. -/
theorem Rep.putG {E C m S a w} (h : Rep E C m S a w) {p : List (Nat × Bool)} {g : Bool} (hg : GV S.t p g) {x : SV} {v : Value} (hx : g = true → x = .dead ∨ Gd m (vers S.h) x ∧ v = den E x) (hv : g = false → v = undef) :
    Rep E C m ⟨putF S.t o.dst (wrapG p o.dst x), S.h⟩ (a.put o.dst v) w := by
  refine h.put o.dst fun d hd => ?_
  unfold wrapG
  cases p with
  | nil =>
    cases hg
    rcases hx rfl with rfl | ⟨h1, rfl⟩
    · exact trivial
    · exact SlotOk_live h1
  | cons y p =>
    simp only [hd]
    cases hb : (inG d (y :: p) || !live x) with
    | true => exact trivial
    | false =>
      simp only [cond_false]
      simp at hb
      refine ⟨g, GV_setF hg d _ hb.1, fun ht => ?_, hv⟩
      rcases hx ht with rfl | ⟨h1, h2⟩
      · simp [live] at hb
      · exact ⟨h1.1, h1.2, h2⟩
/-- An operation that hands back a value and leaves the world alone. -/
theorem OpC.value {K : St → Prop} {S : St} {p : List (Nat × Bool)} (hg : guardOf ops S.t o = some p) {x : SV}
    (hv : ∀ E C m a w, Rep E C m S a w → GV S.t p true → ∃ v, (execOp a.eval o).run P w = .ok (.value v) w ∧ (x = .dead ∨ Gd m (vers S.h) x ∧ v = den E x))
    (hK : K ⟨putF S.t o.dst (wrapG p o.dst x), S.h⟩) : OpC P T ops o K S := by
  refine ⟨fun C E m a w hr => ?_⟩
  obtain ⟨g, hgv, hw⟩ := guardOf_spec hr hg
  unfold opW
  rw [hw]
  cases g with
  | true =>
    obtain ⟨v, hrun, hx⟩ := hv E C m a w hr hgv
    simp only [if_true, Oper.wp, hrun, Oper.upon]
    exact ⟨E, m, _, hK, .refl .., hr.putG hgv (fun _ => hx) (fun h => by cases h)⟩
  | false =>
    simp only [Bool.false_eq_true, if_false]
    exact ⟨E, m, _, hK, .refl .., hr.putG (x := x) hgv (fun h => by cases h) (fun _ => rfl)⟩
theorem pickG_ok {E C m S a w} (hr : Rep E C m S a w) {p : List (Nat × Bool)} (hp : GV S.t p true) {c : Operand} {cv want : Bool} (hc : a.eval c = .bool cv) (hcl : live (evG p S.t c) = true → evG p S.t c = .b cv) (hce : live (evG p S.t c) = true) (hw : cv = want) (o : Operand) :
    pickG p S.t c want o = .dead ∨ Gd m (vers S.h) (pickG p S.t c want o) ∧ a.eval o = den E (pickG p S.t c want o) := by
  have hev := (hr.evs hp).gd o
  unfold pickG
  unfold evG at hev
  cases he : evO S.t o <;> rw [he] at hev <;> try exact hev
  rename_i q x
  simp only at hev ⊢
  cases hs : sufx q p with
  | true => rw [hs] at hev; exact hev
  | false =>
    simp only [cond_false]
    cases c <;> try (left; rfl)
    rename_i tc
    cases q with
    | nil => left; rfl
    | cons db q' =>
      obtain ⟨d, b⟩ := db
      simp only
      cases hb : (Nat.beq d tc && (bif b then want else !want) && sufx q' p) with
      | false => left; rfl
      | true =>
        simp only [cond_true]
        simp at hb
        obtain ⟨⟨rfl, hb2⟩, hb3⟩ := hb
        have hbw : b = want := by cases b <;> cases want <;> simp at hb2 <;> rfl
        subst hbw; subst hw
        cases o <;> try (simp [evO] at he; done)
        · rename_i n
          simp only [evO] at he
          rcases hr.slot n with hd | ⟨y, v, h1, h2, h3, h4, h5⟩
          · rw [hd] at he; cases he
          · rw [h2] at he; subst he
            obtain ⟨g, hg, ht, hf⟩ := h5
            have hgt : g = true := by
              have hq := sufx_GV hb3 hp
              have hcb := hcl hce
              simp only [evG, evO] at hcb
              cases hg with
              | one hd => rw [hd] at hcb; simp at hcb; subst hcb; simp
              | cons hd h2 =>
                rw [hd] at hcb
                simp only [hb3, cond_true, SV.b.injEq] at hcb
                have := h2.fun hq
                subst hcb; subst this
                simp
            obtain ⟨o1, o2, o3⟩ := ht hgt
            exact .inr ⟨⟨o1, o2⟩, by rw [h4]; exact o3⟩
        · rename_i v
          simp only [evO] at he
          exact absurd he (ofV_ngrd v _ _)
        · simp only [evO] at he
          exact absurd he (gV_ngrd _ _ _)
theorem pickS_ok {E C m S a w} (hr : Rep E C m S a w) {p : List (Nat × Bool)} (hp : GV S.t p true) {c x y : Operand} {r : SV} (h : pickS p S.t c x y = .v r) :
    ∃ b, a.eval c = .bool b ∧ (if b then a.eval x else a.eval y) = den E r ∧ Gd m (vers S.h) r := by
  unfold pickS at h
  rcases (hr.evs hp).gd c with hd | ⟨hg, hc⟩
  · rw [hd] at h; simp [pickR] at h
  · cases he : evG p S.t c <;> rw [he] at h <;> try (simp [pickR] at h; done)
    rename_i cv
    have hcv : a.eval c = .bool cv := by rw [hc, he]; simp [den_v]
    have hl : live (evG p S.t c) = true := by rw [he]; rfl
    refine ⟨cv, hcv, ?_⟩
    have hx : cv = true → pickG p S.t c true x = .dead ∨ Gd m (vers S.h) (pickG p S.t c true x) ∧ a.eval x = den E (pickG p S.t c true x) := fun e => pickG_ok hr hp hcv (fun _ => he) hl e x
    have hy : cv = false → pickG p S.t c false y = .dead ∨ Gd m (vers S.h) (pickG p S.t c false y) ∧ a.eval y = den E (pickG p S.t c false y) := fun e => pickG_ok hr hp hcv (fun _ => he) hl e y
    simp only [pickR] at h
    split at h
    · cases hpx : pickG p S.t c true x <;> rw [hpx] at h hx <;> simp at h
      subst h
      refine ⟨?_, Gd_b _⟩
      cases cv with
      | true =>
        have := (hx rfl).resolve_left (by simp)
        simp [this.2, den_v]
      | false => simp [Act.eval, den_v]
    · cases hpy : pickG p S.t c false y <;> rw [hpy] at h hy <;> simp at h
      subst h
      refine ⟨?_, Gd_b _⟩
      cases cv with
      | true => simp [Act.eval, den_v]
      | false =>
        have := (hy rfl).resolve_left (by simp)
        simp [this.2, den_v]
    · simp at h
theorem zeros_cells {z : List SV} {E : Env} : ∀ n, cellsL E (zeros n z) = (List.replicate n (cellsL E z)).flatten
  | 0 => by simp [zeros, cellsL]
  | n + 1 => by simp only [zeros, cellsL_append, zeros_cells n, List.replicate_succ, List.flatten_cons]
theorem range_zeros {z : List Value} (hz : 0 < z.length) (n : Nat) : (Array.range (n * z.length)).map (fun i => z.toArray[i % z.toArray.size]!) = ((List.replicate n z).flatten).toArray := by
  apply Array.ext'
  simp only [Array.toList_map, Array.toList_range, List.size_toArray]
  apply List.ext_getElem?
  intro i
  rw [List.getElem?_map]
  by_cases hi : i < n * z.length
  · rw [List.getElem?_range hi]
    have hm : i % z.length < z.length := Nat.mod_lt _ hz
    have := flatMap_at (fun _ : Nat => z) z.length n 0 (i / z.length) (i % z.length) z[i % z.length] (fun _ _ _ => rfl) (Nat.div_lt_of_lt_mul (by rw [Nat.mul_comm]; exact hi)) (List.getElem?_eq_getElem hm)
    have e1 : (List.range' 0 n).flatMap (fun _ => z) = (List.replicate n z).flatten := by
      rw [List.flatMap_def, List.map_const', List.length_range']
    rw [e1, Nat.div_add_mod' i z.length] at this
    rw [this]
    simp [hm]
  · rw [List.getElem?_eq_none (by simp; omega), List.getElem?_eq_none (by simp; omega)]
    rfl
theorem sop_sound (hT : TabOk P T) {K : St → Prop} {S : St} (h : sop P T ops o K S) : OpC P T ops o K S := by
  obtain ⟨t, hh⟩ := S
  unfold sop at h
  simp only at h
  cases hg : guardOf ops t o with
  | none => rw [hg] at h; exact h
  | some p =>
    rw [hg] at h
    simp only at h
    split at h
    · -- pick
      rename_i p' c x y hop
      split at h
      · rename_i r hr
        rw [putK_eq] at h
        refine OpC.value hg (fun E C m a w hrep hp => ?_) h
        obtain ⟨b, h1, h2, h3⟩ := pickS_ok hrep hp hr
        refine ⟨den E r, ?_, .inr ⟨h3, rfl⟩⟩
        simp only [execOp, hop, h1, asBool, Sem.run_bind, Sem.run_pure, Result.andThen_ok]
        rw [← h2]
      · exact h
    · -- box
      rename_i ty x hop
      rw [force_eq] at h
      cases hc : okCells (evG [] t x) with
      | false => simp [hc] at h
      | true =>
        simp only [hc, cond_true, appH_eq, putK_eq] at h
        refine ⟨fun C E m a w hr => ?_⟩
        have hgn := guard_none hg
        obtain ⟨hgd, hev⟩ := (hr.evs .nil).live (okCells_live hc)
        obtain ⟨h1, h2⟩ := den_cells_list (E := E) hgd hc
        have h1' : (a.eval x).cells = (cellsL E (segsOf (evG [] t x))).toArray := by rw [hev, ← h1]
        obtain ⟨E', e1, e2, e3⟩ := hr.rel.alloc (.mem ty (segsOf (evG [] t x)) 1 0) (.cells (cellsL E (segsOf (evG [] t x))).toArray ty) rfl (fun E' V' hE hV hlen => by
          refine ⟨rfl, _, _, hlen, ?_, OkL.mono (fun _ _ h => h) _ _ _ hV h2⟩
          rw [cellsL_stable hE _ h2]
          exact heap_alloc_new w _)
        unfold opW
        rw [show Region.wanted o (yielded ops a.tmps) = true by simp [Region.wanted, hgn], if_pos rfl]
        have hrun : (execOp a.eval o).run P w = .ok (.value (.pointer (some ⟨w.heap.size, 0, none⟩))) (w.alloc (.cells (cellsL E (segsOf (evG [] t x))).toArray ty)) := by
          simp only [execOp, hop, Instr.box, newVar, newRow, Sem.run_bind, run_newObj, Result.andThen_ok, Sem.run_pure, h1']
          rfl
        simp only [Oper.wp, hrun, Oper.upon]
        refine ⟨E', m, _, h, e2, (hr.up e2 e3).put o.dst fun d hd => ?_⟩
        refine ⟨by simp only [Ok]; exact ⟨⟨2, by simp [vers, SB.lim], by omega⟩, by omega⟩, ?_⟩
        simp [den, wrapV, cells, Env.blk, e1, ofs]
    · -- alloc
      rename_i ty hop
      cases ht : T ty with
      | none => simp [ht] at h
      | some ti =>
        simp only [ht, appH_eq, putK_eq] at h
        refine ⟨fun C E m a w hr => ?_⟩
        have hgn := guard_none hg
        have hti := hT.ti ty ti ht
        obtain ⟨z, hz, hzc⟩ := hti.run_zero (P := P) w
        obtain ⟨zo, zc⟩ := hT.zeroOk (m := m) (V := vers hh) (E := E) ht
        have h1' : z.cells = (cellsL E ti.zero).toArray := by rw [zc, ← hzc]
        obtain ⟨E', e1, e2, e3⟩ := hr.rel.alloc (.mem ty ti.zero 1 0) (.cells (cellsL E ti.zero).toArray ty) rfl (fun E' V' hE hV hlen => by
          refine ⟨rfl, _, _, hlen, ?_, OkL.mono (fun _ _ h => h) _ _ _ hV zo⟩
          rw [cellsL_stable hE _ zo]
          exact heap_alloc_new w _)
        unfold opW
        rw [show Region.wanted o (yielded ops a.tmps) = true by simp [Region.wanted, hgn], if_pos rfl]
        have hrun : (execOp a.eval o).run P w = .ok (.value (.pointer (some ⟨w.heap.size, 0, none⟩))) (w.alloc (.cells (cellsL E ti.zero).toArray ty)) := by
          simp only [execOp, hop, Instr.alloc, newVar, newRow, Sem.run_bind, hz, run_newObj, Result.andThen_ok, Sem.run_pure, h1']
          rfl
        simp only [Oper.wp, hrun, Oper.upon]
        refine ⟨E', m, _, h, e2, (hr.up e2 e3).put o.dst fun d hd => ?_⟩
        refine ⟨by simp only [Ok]; exact ⟨⟨2, by simp [vers, SB.lim], by omega⟩, by omega⟩, ?_⟩
        simp [den, wrapV, cells, Env.blk, e1, ofs]
    · -- buildSlice
      rename_i ty len parts hop
      cases ht : T ty with
      | none => simp [ht] at h
      | some ti =>
        simp only [ht] at h
        cases hk : ti.k <;> rw [hk] at h <;> simp only at h <;> try exact h.elim
        rename_i e
        cases hte : T e with
        | none => simp [hte] at h
        | some te =>
          simp only [hte] at h
          cases hbn : (!(Nat.ble (len * te.size) 16777216) || Nat.beq te.size 0) with
          | true => rw [hbn] at h; exact h.elim
          | false =>
            rw [hbn] at h
            simp only [cond_false] at h
            cases hb : buildArr te.size (parts.toList.map fun q => (q.1, evG [] t q.2)) (zeros len te.zero) with
            | none => simp [hb] at h
            | some segs =>
              simp only [hb, appH_eq, putK_eq] at h
              simp only [Bool.or_eq_false_iff, Bool.not_eq_false'] at hbn
              have hle := Nat.le_of_ble_eq_true hbn.1
              have hsz0 : te.size ≠ 0 := fun e => by rw [e] at hbn; simp at hbn
              refine ⟨fun C E m a w hr => ?_⟩
              have hgn := guard_none hg
              have hti := hT.ti ty ti ht
              have hti' := hT.ti e te hte
              obtain ⟨z, hz, hzc⟩ := hti'.run_zero (P := P) w
              obtain ⟨zo, zc⟩ := hT.zeroOk (m := m) (V := vers hh) (E := E) hte
              have h1' : z.cells = (cellsL E te.zero).toArray := by rw [zc, ← hzc]
              have hevs := hr.evs .nil
              obtain ⟨q1, q2⟩ := buildArr_ok (E := E) (m := m) (V := vers hh) (parts.toList.map fun q => (q.1, evG [] t q.2)) (zeros len te.zero) segs (fun p hp hok => by
                obtain ⟨q, _, rfl⟩ := List.mem_map.1 hp
                exact (hevs.live (okCells_live hok)).1) (OkL_zeros zo len) hb
              obtain ⟨p1, p2⟩ := packF_ok (E := E) (f := ti.flat) (te := te) (n := len) q1
              have hcs := buildArr_cells _ _ segs hb
              have hvs : (parts.map fun x : Nat × Operand => match x with | (i, x) => (i, a.eval x)).toList = (parts.toList.map fun q => (q.1, evG [] t q.2)).map fun p => (p.1, den E p.2) := by
                simp only [Array.toList_map, List.map_map]
                apply List.map_congr_left
                intro q hq
                simp only [Function.comp]
                rw [(hevs.live (okCells_live (hcs (q.1, evG [] t q.2) (List.mem_map.2 ⟨q, hq, rfl⟩)))).2]
              have hzl : (cellsL E te.zero).length = te.size := by rw [length_cellsL E _ _ zo]; exact hti'.zw
              have hrz := range_zeros (z := cellsL E te.zero) (by omega) len
              rw [hzl] at hrz
              rw [← zeros_cells] at hrz
              have hne : ¬ (len * te.size > 2 ^ 24) := by omega
              obtain ⟨E', e1, e2, e3⟩ := hr.rel.alloc (.mem e (packF ti.flat te len segs) 1 0) (.cells (cellsL E segs).toArray e) rfl (fun E' V' hE hV hlen => by
                refine ⟨rfl, _, _, hlen, ?_, OkL.mono (fun _ _ h => h) _ _ _ hV p1⟩
                rw [cellsL_stable hE _ p1, p2]
                exact heap_alloc_new w _)
              unfold opW
              rw [show Region.wanted o (yielded ops a.tmps) = true by simp [Region.wanted, hgn], if_pos rfl]
              have hrun : (execOp a.eval o).run P w = .ok (.value (.slice (some ⟨w.heap.size, 0, none⟩) len len)) (w.alloc (.cells (cellsL E segs).toArray e)) := by
                simp only [execOp, hop, Instr.buildSlice, Sem.run_bind, run_underlying' (hti.slice hk), Result.andThen_ok, hti'.run_sizeOf, if_neg hne]
                by_cases hl0 : len * te.size = 0
                · have hl : len = 0 := by rcases Nat.mul_eq_zero.1 hl0 with h | h; exact h; exact absurd h hsz0
                  subst hl
                  have hc0 : cellsL E (zeros 0 te.zero) = [] := by simp [zeros, cellsL]
                  rw [hc0] at q2
                  have hr0 : Array.range 0 = #[] := rfl
                  simp only [Nat.zero_mul, if_true, Sem.run_pure, Sem.run_bind, Result.andThen_ok, hvs, hr0, Array.map_empty]
                  simp only [q2]
                  simp only [Sem.run_bind, newRow, run_newObj, Result.andThen_ok, Sem.run_pure]
                  rfl
                · simp only [if_neg hl0, Sem.run_bind, hz, Result.andThen_ok, Sem.run_pure, h1', hvs, hrz, q2, newRow, run_newObj]
                  rfl
              simp only [Oper.wp, hrun, Oper.upon]
              refine ⟨E', m, _, h, e2, (hr.up e2 e3).put o.dst fun d hd => ?_⟩
              refine ⟨by simp only [Ok]; exact ⟨⟨2, by simp [vers, SB.lim], by omega⟩, by omega⟩, ?_⟩
              simp [den, wrapV, cells, e1]
    · -- store
      rename_i ty x v hop
      cases ht : T ty with
      | none => rw [ht] at h; exact h
      | some ti =>
        rw [ht] at h
        cases hx : evG [] t x <;> rw [hx] at h <;> simp only at h <;> try exact h
        rename_i k ver off ix
        cases hb : hh.getD k .fresh <;> rw [hb] at h <;> simp only at h <;> try exact h.elim
        rename_i ty' segs ver' gr
        rw [force_eq, wdB_eq] at h
        cases hc : (okCells (evG [] t v) && Nat.beq (wdL (segsOf (evG [] t v))) ti.size) with
        | false => rw [hc] at h; exact h.elim
        | true =>
          rw [hc] at h
          simp only [cond_true] at h
          simp only [Bool.and_eq_true] at hc
          have hk := getD_some hb (by simp)
          have key : (gr ≠ 0 → ver = ver') ∧ updK segs off ix (segsOf (evG [] t v)) (fun segs' => K ⟨putF t o.dst .dead, hh.set k (.mem ty' segs' ver' gr)⟩) := by
            cases gr with
            | succ gr => exact ⟨fun _ => h.ob, by simpa only [setH_eq, putK_eq] using h.k⟩
            | zero => simp only [setH_eq, putK_eq] at h; exact ⟨(fun e => absurd rfl e), h⟩
          obtain ⟨hgr, hup⟩ := key
          refine ⟨fun C E m a w hr => ?_⟩
          have hgn := guard_none hg
          have hevs := hr.evs .nil
          obtain ⟨gx, ex⟩ := hevs.live (o := x) (by rw [hx]; rfl)
          obtain ⟨gv, ev⟩ := hevs.live (okCells_live hc.1)
          obtain ⟨h1, h2⟩ := den_cells_list (E := E) gv hc.1
          rw [hx] at gx ex
          have hvk : Vle (vers hh) k ver ∧ ver ≠ 0 := by have := gx.1; simpa only [Ok] using this
          obtain ⟨hso, hat⟩ := hr.rel.at hk hvk.1 hvk.2 (fun e => hgr e)
          obtain ⟨segs', k1, k2, k4, k5, k6⟩ := updK_spec (E := E) h2 ix segs off _ hup hso
          have hver : ver = ver' := by
            cases gr with
            | succ gr => exact hgr (by omega)
            | zero =>
              obtain ⟨h0, _⟩ := hr.rel.bl k _ hk
              obtain ⟨n, hn, hlt⟩ := hvk.1
              simp [vers, hk, SB.lim] at hn
              omega
          subst hver
          have hti := hT.ti ty ti ht
          have hsz : (a.eval v).cells.size = ti.size := by
            rw [ev, ← Array.length_toList, h1, length_cellsL E _ _ h2]; exact Nat.eq_of_beq_eq_true hc.2
          -- the block
          have hblk : ∃ b c A, E k ver = some (b, c) ∧ w.heap[b]? = some (.cells A.toArray ty' (0, 0)) ∧ off + ofs ix + (cellsL E (segsOf (evG [] t v))).length ≤ A.length ∧
              (∀ w', w'.heap[b]? = some (.cells (splV A (off + ofs ix) (cellsL E (segsOf (evG [] t v)))).toArray ty' (0, 0)) → Holds E m (vers hh) w' k (.mem ty' segs' ver gr)) := by
            have hb := hr.rel.bl k _ hk
            cases gr with
            | zero =>
              obtain ⟨h0, b, c, he, hh', _⟩ := hb
              refine ⟨b, c, _, he, hh', k5, fun w' hw' => ⟨h0, b, c, he, ?_, k2⟩⟩
              rw [k6]; exact hw'
            | succ gr =>
              obtain ⟨_, _, h3⟩ := hb
              obtain ⟨b, c, sp, he, hh', hcap⟩ := h3 hvk.2
              refine ⟨b, c, cellsL E segs ++ sp, he, hh', by simp only [List.length_append]; exact Nat.le_trans k5 (Nat.le_add_right _ _), fun w' hw' => ⟨k2, fun e => absurd e hvk.2, fun _ => ⟨b, c, sp, he, ?_, ?_⟩⟩⟩
              · rw [k6, hw']
                have := splV_mid [] (cellsL E segs) sp (cellsL E (segsOf (evG [] t v))) (off + ofs ix) k5
                simp only [List.nil_append, List.length_nil, Nat.zero_add] at this
                rw [this]
              · rw [k6, length_splV k5]; exact hcap
          obtain ⟨b, c, A, he, hA, hlen, hholds⟩ := hblk
          unfold opW
          rw [show Region.wanted o (yielded ops a.tmps) = true by simp [Region.wanted, hgn], if_pos rfl]
          have hax : a.eval x = .pointer (some ⟨b, off + ofs ix, none⟩) := by rw [ex]; simp [den, wrapV, cells, Env.blk, he]
          have hst := run_storeCells (P := P) (cellsL E (segsOf (evG [] t v))) w b (off + ofs ix) 0 A ty' hA (oneCell_cellsL E _ _ h2) (by simpa using hlen)
          have hrun : (execOp a.eval o).run P w = .ok .skip (setBlk w b (.cells (splV A (off + ofs ix) (cellsL E (segsOf (evG [] t v)))).toArray ty' (0, 0))) := by
            simp only [execOp, hop, Instr.storeAt, hax, Instr.sureAddr, Sem.run_bind, Sem.run_pure, Result.andThen_ok, storeVar, hti.run_sizeOf, hsz, ne_eq, not_true_eq_false, if_false]
            rw [ev, h1] at *
            simp only [hst, Nat.add_zero, Result.andThen_ok]
          simp only [Oper.wp, hrun, Oper.upon]
          have hlt := size_of_heap hA
          have hrel := hr.rel.set (w' := setBlk w b (.cells (splV A (off + ofs ix) (cellsL E (segsOf (evG [] t v)))).toArray ty' (0, 0))) (B' := .mem ty' segs' ver gr) hk rfl ⟨hvk.2, c, he⟩ (fun c' hc' => by obtain ⟨_, c2, he2⟩ := hc'; rw [he] at he2; cases he2; rfl) ⟨rfl, rfl, rfl, by first | exact Nat.le_refl _ | exact Nat.le_succ _⟩ (fun i hi => setBlk_ne hi _) (hholds _ (setBlk_same hlt _))
          refine ⟨E, m, _, k1, ?_, (hr.up (h' := hh.set k (.mem ty' segs' ver gr)) ?_ hrel).put o.dst fun d hd => trivial⟩
          · show Ext E m (vers hh) E m (vers (hh.set k (.mem ty' segs' ver gr)))
            rw [vers_set (B' := .mem ty' segs' ver gr) hk rfl]; exact .refl ..
          · show Ext E m (vers hh) E m (vers (hh.set k (.mem ty' segs' ver gr)))
            rw [vers_set (B' := .mem ty' segs' ver gr) hk rfl]; exact .refl ..
    · -- the pure ones
      rename_i p op' p2 hn1 hn2 hn3 hn4 hn5
      cases hp : pureR T hh (evG p t) o.op with
      | no => rw [hp] at h; exact h
      | v x =>
        rw [hp] at h
        simp only [putK_eq] at h
        exact OpC.value hg (fun E C m a w hr hgv => pureR_ok hT hr.rel (hr.evs hgv) o (by rw [hp]; simp)) h
      | ob pr x =>
        rw [hp] at h
        simp only [putK_eq] at h
        exact OpC.value hg (fun E C m a w hr hgv => pureR_ok hT hr.rel (hr.evs hgv) o (by rw [hp]; simp; exact h.ob (GV_gB hgv))) h.k
end
end SX
end Go.Proofs.YthkedcneehdinaaGreatDoor

/- SX: regions in their text's order, code, functions. -/
set_option linter.unusedVariables false
set_option linter.unusedSimpArgs false
namespace Go.Proofs.YthkedcneehdinaaGreatDoor
namespace SX
open Go

section
variable {P : Program} {T : Tb}
theorem wp_onlyN {o : Oper} {a : Act} {w : World} {K K2 K' : Act → World → Prop} {Q : Exit → Act → World → Prop} (h : o.wp P a w K (onlyN K2)) (hk : ∀ a w, K a w → K' a w) : o.wp P a w K' Q := by
  unfold Oper.wp at *
  generalize (execOp a.eval o).run P w = r at *
  cases r with
  | ok n w' =>
    cases n <;> simp only [Oper.upon] at h ⊢ <;>
      first
        | exact hk _ _ h
        | exact Calls.mono h (fun e w'' he => by
            cases e with
            | returned v => exact hk _ _ he
            | panicked c => exact he.elim
            | outgrown => obtain ⟨_, _, hf⟩ := he; exact hf.elim)
        | exact Rows.mono h (fun _ _ he => hk _ _ he)
  | halt x w' => cases x <;> simp only [Oper.upon, onlyN] at h
theorem sreg_sound (hT : TabOk P T) {ops : Array Oper} {Q : Exit → Act → World → Prop} {C : Fr} {E0 : Env} {m0 : Mem} {V0 : List Nat} : ∀ (l : List Oper) (K : St → Prop) (S : St), sreg P T ops l K S → ∀ E m a w, Rep E C m S a w → Ext E0 m0 V0 E m (vers S.h) →
    (∀ E' m' S' a' w', K S' → Ext E0 m0 V0 E' m' (vers S'.h) → Rep E' C m' S' a' w' → Q .normal a' w') → wpList P ops Q l a w
  | [], K, S, h, E, m, a, w, hr, hx, hQ => hQ E m S a w h hx hr
  | o :: rest, K, S, h, E, m, a, w, hr, hx, hQ => by
    have h1 := (sop_sound hT h).out C E m a w hr
    unfold opW at h1
    unfold wpList
    have next : ∀ a' w', (∃ E' m' S', sreg P T ops rest K S' ∧ Ext E m (vers S.h) E' m' (vers S'.h) ∧ Rep E' C m' S' a' w') → wpList P ops Q rest a' w' := by
      rintro a' w' ⟨E', m', S', k1, k2, k3⟩
      exact sreg_sound hT rest K S' k1 E' m' a' w' k3 (hx.trans k2) hQ
    by_cases hw : Region.wanted o (yielded ops a.tmps) = true
    · rw [if_pos hw] at h1 ⊢
      exact .inl (wp_onlyN h1 next)
    · rw [if_neg hw] at h1 ⊢
      exact next _ _ h1
theorem sx_sound (hT : TabOk P T) : ∀ (c : Code) (K : Exit → St → Prop) (S : St), sx P T c K S → WpC P c K S := by
  intro c
  induction c with
  | skip => intro K S h; exact ⟨fun C E m a w hr => wp_skip ⟨E, m, S, h, .refl .., hr⟩⟩
  | label l => intro K S h; exact ⟨fun C E m a w hr => wp_label ⟨E, m, S, h, .refl .., hr⟩⟩
  | exit id => intro K S h; exact ⟨fun C E m a w hr => wp_exit ⟨E, m, S, h, .refl .., hr⟩⟩
  | ret => intro K S h; exact ⟨fun C E m a w hr => wp_ret ⟨E, m, S, h, .refl .., hr⟩⟩
  | seq x y ihx ihy =>
    intro K S h
    have h1 := ihx _ S h
    refine ⟨fun C E m a w hr => wp_seq ?_⟩
    refine wp_mono (h1.out C E m a w hr) ?_
    rintro e a' w' ⟨E', m', S', k1, k2, k3⟩
    cases e with
    | normal =>
      refine wp_mono ((ihy _ S' k1).out C E' m' a' w' k3) ?_
      rintro e a'' w'' ⟨E'', m'', S'', q1, q2, q3⟩
      exact ⟨E'', m'', S'', q1, k2.trans q2, q3⟩
    | exit id => exact ⟨E', m', S', k1, k2, k3⟩
    | goto l => exact ⟨E', m', S', k1, k2, k3⟩
    | ret => exact ⟨E', m', S', k1, k2, k3⟩
    | panic ch => exact ⟨E', m', S', k1, k2, k3⟩
    | outgrown => exact ⟨E', m', S', k1, k2, k3⟩
  | cond c x y ihx ihy =>
    intro K S h
    simp only [sx] at h
    refine ⟨fun C E m a w hr => ?_⟩
    have hev := (hr.evs .nil).gd c
    cases he : evO S.t c <;> rw [he] at h <;> simp only at h <;> try exact h.elim
    rename_i b
    have hb : a.eval c = .bool b := by
      have hg : evG [] S.t c = .b b := by simp [evG, he]
      rw [hg] at hev
      have := hev.resolve_left (by simp)
      simpa [den_v] using this.2
    refine wp_cond hb ?_
    cases b with
    | true => simp only [if_true]; exact (ihx K S (h.t rfl)).out C E m a w hr
    | false => simp only [Bool.false_eq_true, if_false]; exact (ihy K S (h.f rfl)).out C E m a w hr
  | block id c ih =>
    intro K S h
    have h1 := ih _ S h
    refine ⟨fun C E m a w hr => wp_block ?_⟩
    refine wp_mono (h1.out C E m a w hr) ?_
    rintro e a' w' ⟨E', m', S', k1, k2, k3⟩
    cases e with
    | exit j =>
      simp only [Exit.inBlock]
      simp only at k1
      cases hb : Nat.beq j id with
      | true =>
        rw [hb] at k1
        rw [if_pos (Nat.eq_of_beq_eq_true hb)]
        exact ⟨E', m', S', k1, k2, k3⟩
      | false =>
        rw [hb] at k1
        rw [if_neg (Nat.ne_of_beq_eq_false hb)]
        exact ⟨E', m', S', k1, k2, k3⟩
    | normal => exact ⟨E', m', S', k1, k2, k3⟩
    | goto l => exact ⟨E', m', S', k1, k2, k3⟩
    | ret => exact ⟨E', m', S', k1, k2, k3⟩
    | panic ch => exact ⟨E', m', S', k1, k2, k3⟩
    | outgrown => exact ⟨E', m', S', k1, k2, k3⟩
  | region id ops draw =>
    intro K S h
    cases draw with
    | true => exact h
    | false =>
      refine ⟨fun C E m a w hr => wp_region_list ?_⟩
      exact sreg_sound hT ops.toList (K .normal) S h E m a w hr (.refl ..) fun E' m' S' a' w' k1 k2 k3 => ⟨E', m', S', k1, k2, k3⟩
  | loop c ih => intro K S h; exact h
  | rangeFunc f ps c d ih ih2 => intro K S h; exact h
  | scope c ih => intro K S h; exact h
  | goto l => intro K S h; exact h
  | refuse why => intro K S h; exact h

/-! ### Functions -/
def resRun (ts : Array Value) : ResultVar → Sem Value
  | .tmp t => pure (ts.getD t undef)
  | .cell p t => do loadVar t (← asAddr (ts.getD p undef))
theorem resR_ok (hT : TabOk P T) {E C m S a w} (hr : Rep E C m S a w) {r : ResultVar} {x : SV} (h : resR T S r = some x) :
    (resRun a.tmps r).run P w = .ok (den E x) w ∧ Gd m (vers S.h) x := by
  cases r with
  | tmp n =>
    simp only [resR] at h
    have hev := (hr.evs .nil).gd (.tmp n)
    cases he : S.t.getD n .dead <;> rw [he] at h <;> simp at h <;> subst h <;> simp only [evG, evO, he] at hev
    all_goals
      have := hev.resolve_left (by simp)
      exact ⟨by simp only [resRun, Sem.run_pure]; rw [← this.2]; rfl, this.1⟩
  | cell p ty =>
    simp only [resR] at h
    have hev := (hr.evs .nil).gd (.tmp p)
    cases hl : loadR T S.h ty (evO S.t (.tmp p)) with
    | no => rw [hl] at h; simp at h
    | ob q y => rw [hl] at h; simp at h
    | v y =>
      rw [hl] at h
      simp at h; subst h
      have heq : evG [] S.t (.tmp p) = evO S.t (.tmp p) := by
        simp only [evG]
        cases he : evO S.t (.tmp p) <;> first | rfl | (rw [he] at hl; unfold loadR at hl; cases hty : T ty <;> rw [hty] at hl <;> simp at hl)
      rw [heq] at hev
      rcases hev with hd | ⟨hg, hv⟩
      · rw [hd, loadR_dead] at hl; simp at hl
      · obtain ⟨h1, h2⟩ := loadR_ok hT.ti hr.rel hg (t := ty) (x := y) (by rw [hl]; simp)
        refine ⟨?_, h2⟩
        have hv' : a.tmps.getD p undef = den E (evO S.t (.tmp p)) := hv
        cases he : evO S.t (.tmp p) <;> rw [he] at hl <;> try (unfold loadR at hl; cases hty : T ty <;> rw [hty] at hl <;> simp at hl; done)
        all_goals
          simp only [resRun]
          rw [hv', he]
          rw [he] at h1
          simp only [den, wrapV, cells, List.headD_cons, Instr.loadAt, Instr.sureAddr, asAddr, Sem.run_bind, Sem.run_pure, Result.andThen_ok] at h1 ⊢
          exact h1
theorem resL_ok (hT : TabOk P T) {E C m S a w} (hr : Rep E C m S a w) : ∀ {rs : List ResultVar} {xs : List SV}, resL T S rs = some xs →
    (rs.mapM (resRun a.tmps)).run P w = .ok (denL E xs) w ∧ OkA m (vers S.h) xs
  | [], xs, h => by simp [resL] at h; subst h; simp [denL, OkA]
  | r :: rs, xs, h => by
    simp only [resL] at h
    cases hx : resR T S r with
    | none => rw [hx] at h; simp at h
    | some x =>
      rw [hx] at h
      simp only at h
      cases hy : resL T S rs with
      | none => rw [hy] at h; simp at h
      | some ys =>
        rw [hy] at h
        simp at h; subst h
        obtain ⟨h1, h2⟩ := resR_ok hT hr hx
        obtain ⟨h3, h4⟩ := resL_ok hT hr hy
        refine ⟨?_, by simp only [OkA]; exact ⟨⟨h2.2, h2.1⟩, h4⟩⟩
        simp only [List.mapM_cons, Sem.run_bind, h1, Result.andThen_ok, h3, Sem.run_pure]
        rfl
theorem denL_length {E : Env} : ∀ l : List SV, (denL E l).length = l.length
  | [] => rfl
  | x :: l => by simp [denL, denL_length l]
theorem retK_post (hT : TabOk P T) {fn : Func} {K : SV → List SB → Prop} {e : Exit} {E C m S a w} (hr : Rep E C m S a w) (h : retK T fn.results.toList K e S) {R : Ending → World → Prop}
    (hR : ∀ r, K r S.h → Gd m (vers S.h) r → R (.returned (den E r)) w) : bodyPost P fn R e a w := by
  have key : ∀ (h : (match resL T S fn.results.toList with | some [x] => K x S.h | some xs => K (.tup xs) S.h | none => False)), ∃ v, (results fn a.tmps).run P w = .ok v w ∧ R (.returned v) w := by
    intro h
    cases hx : resL T S fn.results.toList with
    | none => rw [hx] at h; exact h.elim
    | some xs =>
      rw [hx] at h
      obtain ⟨h1, h2⟩ := resL_ok (P := P) hT hr hx
      have hrun : (fn.results.mapM (resRun a.tmps)).run P w = .ok (denL E xs).toArray w := by
        rw [Array.mapM_eq_mapM_toList]
        simp only [Sem.run_map, h1, Result.andThen_ok]
      have hres : (results fn a.tmps).run P w = .ok (if h : (denL E xs).toArray.size = 1 then (denL E xs).toArray[0] else .tuple (denL E xs).toArray) w := by
        rw [show results fn a.tmps = (do let vs ← fn.results.mapM (resRun a.tmps); pure (if h : vs.size = 1 then vs[0] else .tuple vs)) from rfl]
        rw [Sem.run_bind, hrun]
        rfl
      refine ⟨_, hres, ?_⟩
      match xs, h, h2 with
      | [x], h, h2 =>
        simp only [OkA] at h2
        have := hR x h ⟨h2.1.2, h2.1.1⟩
        simpa [denL, den] using this
      | [], h, h2 =>
        have := hR _ h ⟨by simp only [Ok]; exact h2, rfl⟩
        simpa [denL, den, wrapV, cells] using this
      | x :: y :: r, h, h2 =>
        have := hR _ h ⟨by simp only [Ok]; exact h2, rfl⟩
        simpa [denL, den, wrapV, cells] using this
  cases e <;> simp only [retK] at h <;> try exact h.elim
  · exact ⟨hr.df, key h⟩
  · exact ⟨hr.df, key h⟩
/-- A function is walked. -/
theorem Ctr.enter (hT : TabOk P T) {f : FuncId} {fn : Func} {c : Code} {n : Nat} (hf : P.funcs[f]? = some fn) (hb : fn.body = some c) (hn : fn.ntmps = n) (hnm : (fn.name == "runtime.NumGoroutine") = false) {args : List SV} {H : List SB} {K : SV → List SB → Prop}
    (hl0 : Nat.ble args.length n = true) (h : sx P T c (retK T fn.results.toList K) ⟨args ++ List.replicate (n - args.length) .dead, H⟩) : Ctr P f args H K := by
  have hl : args.length ≤ n := Nat.le_of_ble_eq_true hl0
  refine ⟨fun C E m w hr ha => ?_⟩
  have hrun : (callFunc f (denL E args).toArray).run P w = .ok (.enter f (denL E args).toArray) w := by
    have h1 : fn.name ≠ "runtime.NumGoroutine" := by simpa using hnm
    simp [callFunc, hf, h1, hb]
  unfold callX
  rw [hrun]
  refine calls_of_wp hf hb ?_
  have hok : ∀ (i : Nat) (x : SV), args[i]? = some x → Gd m (vers H) x := fun i x hi => OkA_get ha hi
  have hrep : Rep E C m ⟨args ++ List.replicate (n - args.length) .dead, H⟩ { tmps := (denL E args).toArray ++ Array.replicate (fn.ntmps - (denL E args).toArray.size) undef, defers := [] } w := by
    refine ⟨?_, ?_, rfl, hr⟩
    · simp [denL_length, hn]
    · intro i x v hx hv
      by_cases hi : i < args.length
      · rw [List.getElem?_append_left hi] at hx
        rw [Array.getElem?_append_left (by simp [denL_length, hi])] at hv
        have hg := hok i x hx
        simp only [List.getElem?_toArray, denL_get, hx, Option.map_some, Option.some.injEq] at hv
        subst hv
        exact SlotOk_live hg
      · rw [List.getElem?_append_right (by omega)] at hx
        have : x = .dead := by
          have := List.mem_of_getElem? hx
          exact List.eq_of_mem_replicate this
        subst this
        exact trivial
  refine wp_mono ((sx_sound hT c _ _ h).out C E m _ w hrep) ?_
  rintro e a' w' ⟨E', m', S', k1, k2, k3⟩
  exact retK_post hT k3 k1 fun r hK hg => ⟨_, rfl, r, S'.h, E', m', rfl, hK, hg, k2, k3.rel⟩
end
end SX
end Go.Proofs.YthkedcneehdinaaGreatDoor

/- SX: regions whose order is drawn: operations that do not meddle may come in any order. -/
set_option linter.unusedVariables false
set_option linter.unusedSimpArgs false
namespace Go.Proofs.YthkedcneehdinaaGreatDoor
namespace SX
open Go

/-- What an operation does: its slot, the slots and the blocks that it reads, the blocks that it writes (they are among those that it reads). -/
structure Eff : Type 1 where
  d : Option Nat
  v : SV
  rs : List Nat
  rb : List Nat
  wb : List (Nat × SB)
def setT (t : List SV) (d : Option Nat) (v : SV) : List SV := match d with | some d => t.set d v | none => t
def setB : List SB → List (Nat × SB) → List SB
  | h, [] => h
  | h, (k, B) :: r => setB (h.set k B) r
def Eff.put (e : Eff) (S : St) : St := ⟨setT S.t e.d e.v, setB S.h e.wb⟩
def wN : List (Nat × SB) → List Nat
  | [] => []
  | p :: r => p.1 :: wN r
def hasN (k : Nat) : List Nat → Bool
  | [] => false
  | x :: r => Nat.beq x k || hasN k r
def meets : List Nat → List Nat → Bool
  | [], _ => false
  | x :: r, l => hasN x l || meets r l
def hasO (d : Option Nat) (l : List Nat) : Bool := match d with | some d => hasN d l | none => false
def sameO : Option Nat → Option Nat → Bool
  | some a, some b => Nat.beq a b
  | _, _ => false
def clash (e f : Eff) : Bool := hasO e.d f.rs || hasO f.d e.rs || sameO e.d f.d || meets (wN e.wb) f.rb || meets (wN f.wb) e.rb
def stL : List Eff → Nat → (Nat → Bool) → St → St
  | [], _, _, S => S
  | e :: r, i, L, S => stL r (i + 1) L (bif L i then e.put S else S)

theorem hasN_iff {k : Nat} : ∀ {l : List Nat}, hasN k l = true ↔ k ∈ l
  | [] => by simp [hasN]
  | x :: r => by 
    simp only [hasN, Bool.or_eq_true, hasN_iff (l := r), List.mem_cons]
    constructor
    · rintro (h | h)
      · exact .inl (Nat.eq_of_beq_eq_true h).symm
      · exact .inr h
    · rintro (rfl | h)
      · exact .inl (Nat.beq_refl _)
      · exact .inr h
theorem meets_of {l r : List Nat} {k : Nat} (h : k ∈ l) (h' : k ∈ r) : meets l r = true := by
  induction l with
  | nil => cases h
  | cons x l ih =>
    simp only [meets, Bool.or_eq_true]
    rcases List.mem_cons.1 h with rfl | h
    · exact .inl (hasN_iff.2 h')
    · exact .inr (ih h)
theorem length_setT (t : List SV) (d : Option Nat) (v : SV) : (setT t d v).length = t.length := by cases d <;> simp [setT]
theorem length_setB : ∀ (h : List SB) (l : List (Nat × SB)), (setB h l).length = h.length
  | h, [] => rfl
  | h, (k, B) :: r => by simp [setB, length_setB _ r]
theorem setB_other {k : Nat} : ∀ {h : List SB} {l : List (Nat × SB)}, k ∉ wN l → (setB h l)[k]? = h[k]?
  | h, [], _ => rfl
  | h, (j, B) :: r, hk => by
    simp only [wN, List.mem_cons, not_or] at hk
    simp only [setB]
    rw [setB_other hk.2, List.getElem?_set_ne (Ne.symm hk.1)]
theorem setB_congr {k : Nat} : ∀ {h h' : List SB} {l : List (Nat × SB)}, h.length = h'.length → (k ∉ wN l → h[k]? = h'[k]?) → (setB h l)[k]? = (setB h' l)[k]?
  | h, h', [], _, hk => hk (by simp [wN])
  | h, h', (j, B) :: r, hl, hk => by
    simp only [setB]
    refine setB_congr (by simpa using hl) fun hr => ?_
    by_cases hjk : j = k
    · subst hjk; simp [List.getElem?_set, hl]
    · rw [List.getElem?_set_ne hjk, List.getElem?_set_ne hjk]
      exact hk (by simp only [wN, List.mem_cons, not_or]; exact ⟨fun e => hjk e.symm, hr⟩)
theorem setT_other {t : List SV} {d : Option Nat} {v : SV} {n : Nat} (h : d ≠ some n) : (setT t d v)[n]? = t[n]? := by
  cases d with
  | none => rfl
  | some d => simp only [setT]; exact List.getElem?_set_ne (fun e => h (by rw [e]))
theorem setT_congr {t t' : List SV} {d : Option Nat} {v : SV} {n : Nat} (hl : t.length = t'.length) (h : d ≠ some n → t[n]? = t'[n]?) : (setT t d v)[n]? = (setT t' d v)[n]? := by
  by_cases hd : d = some n
  · subst hd; simp [setT, List.getElem?_set, hl]
  · rw [setT_other hd, setT_other hd]; exact h hd

theorem stL_len : ∀ (es : List Eff) (i : Nat) (L : Nat → Bool) (S : St), (stL es i L S).t.length = S.t.length ∧ (stL es i L S).h.length = S.h.length
  | [], _, _, _ => ⟨rfl, rfl⟩
  | e :: r, i, L, S => by
    simp only [stL]
    obtain ⟨h1, h2⟩ := stL_len r (i + 1) L (bif L i then e.put S else S)
    rw [h1, h2]
    cases L i <;> simp [Eff.put, length_setT, length_setB]
theorem slot_congr {n : Nat} {L L' : Nat → Bool} : ∀ (es : List Eff) (i : Nat) (S S' : St), S.t.length = S'.t.length → S.t[n]? = S'.t[n]? → (∀ j e, es[j]? = some e → e.d = some n → L (i + j) = L' (i + j)) → (stL es i L S).t[n]? = (stL es i L' S').t[n]?
  | [], _, _, _, _, h, _ => h
  | e :: r, i, S, S', hl, h, hj => by
    simp only [stL]
    refine slot_congr r (i + 1) _ _ ?_ ?_ fun j e' he hd => by have := hj (j + 1) e' (by simpa using he) hd; rwa [show i + (j + 1) = i + 1 + j by omega] at this
    · cases L i <;> cases L' i <;> simp [Eff.put, length_setT, hl]
    · by_cases hd : e.d = some n
      · have := hj 0 e rfl hd
        simp only [Nat.add_zero] at this
        rw [this]
        cases L' i
        · exact h
        · exact setT_congr hl fun _ => h
      · have h1 : ∀ (b : Bool) (S : St), (bif b then e.put S else S).t[n]? = S.t[n]? := fun b S => by cases b; rfl; exact setT_other hd
        rw [h1, h1]; exact h
theorem blk_congr {n : Nat} {L L' : Nat → Bool} : ∀ (es : List Eff) (i : Nat) (S S' : St), S.h.length = S'.h.length → S.h[n]? = S'.h[n]? → (∀ j e, es[j]? = some e → n ∈ wN e.wb → L (i + j) = L' (i + j)) → (stL es i L S).h[n]? = (stL es i L' S').h[n]?
  | [], _, _, _, _, h, _ => h
  | e :: r, i, S, S', hl, h, hj => by
    simp only [stL]
    refine blk_congr r (i + 1) _ _ ?_ ?_ fun j e' he hd => by have := hj (j + 1) e' (by simpa using he) hd; rwa [show i + (j + 1) = i + 1 + j by omega] at this
    · cases L i <;> cases L' i <;> simp [Eff.put, length_setB, hl]
    · by_cases hd : n ∈ wN e.wb
      · have := hj 0 e rfl hd
        simp only [Nat.add_zero] at this
        rw [this]
        cases L' i
        · exact h
        · exact setB_congr hl fun _ => h
      · have h1 : ∀ (b : Bool) (S : St), (bif b then e.put S else S).h[n]? = S.h[n]? := fun b S => by cases b; rfl; exact setB_other hd
        rw [h1, h1]; exact h
theorem stL_false : ∀ (es : List Eff) (i : Nat) (S : St), stL es i (fun _ => false) S = S
  | [], _, _ => rfl
  | e :: r, i, S => by simp only [stL, cond_false]; exact stL_false r (i + 1) S
theorem slot_val {n : Nat} {L : Nat → Bool} {e : Eff} (hd : e.d = some n) : ∀ (es : List Eff) (i j : Nat) (S S0 : St), es[j]? = some e → L (i + j) = true → (∀ j' f, j < j' → es[j']? = some f → f.d = some n → L (i + j') = false) → S0.t.length = S.t.length → (stL es i L S).t[n]? = (e.put S0).t[n]?
  | [], _, _, _, _, h, _, _, _ => by simp at h
  | f :: r, i, 0, S, S0, h, hL, hj, hl => by
    simp at h; subst h
    simp only [stL]
    rw [show L i = true from hL, cond_true]
    rw [slot_congr (L' := fun _ => false) r (i + 1) _ (f.put S) rfl rfl fun j' f' he hd' => by have := hj (j' + 1) f' (by omega) (by simpa using he) hd'; rwa [show i + (j' + 1) = i + 1 + j' by omega] at this]
    rw [stL_false]
    exact setT_congr (by rw [hl]) fun hne => absurd hd hne
  | f :: r, i, j + 1, S, S0, h, hL, hj, hl => by
    simp only [stL]
    refine slot_val hd r (i + 1) j _ S0 (by simpa using h) (by rwa [show i + (j + 1) = i + 1 + j by omega] at hL) (fun j' f' hlt he hd' => by have := hj (j' + 1) f' (by omega) (by simpa using he) hd'; rwa [show i + (j' + 1) = i + 1 + j' by omega] at this) ?_
    rw [hl]; cases L i <;> simp [Eff.put, length_setT]
theorem blk_val {n : Nat} {L : Nat → Bool} {e : Eff} (hd : n ∈ wN e.wb) : ∀ (es : List Eff) (i j : Nat) (S S0 : St), es[j]? = some e → L (i + j) = true → (∀ j' f, j < j' → es[j']? = some f → n ∈ wN f.wb → L (i + j') = false) → S0.h.length = S.h.length → (stL es i L S).h[n]? = (e.put S0).h[n]?
  | [], _, _, _, _, h, _, _, _ => by simp at h
  | f :: r, i, 0, S, S0, h, hL, hj, hl => by
    simp at h; subst h
    simp only [stL]
    rw [show L i = true from hL, cond_true]
    rw [blk_congr (L' := fun _ => false) r (i + 1) _ (f.put S) rfl rfl fun j' f' he hd' => by have := hj (j' + 1) f' (by omega) (by simpa using he) hd'; rwa [show i + (j' + 1) = i + 1 + j' by omega] at this]
    rw [stL_false]
    exact setB_congr (by rw [hl]) fun hne => absurd hd hne
  | f :: r, i, j + 1, S, S0, h, hL, hj, hl => by
    simp only [stL]
    refine blk_val hd r (i + 1) j _ S0 (by simpa using h) (by rwa [show i + (j + 1) = i + 1 + j by omega] at hL) (fun j' f' hlt he hd' => by have := hj (j' + 1) f' (by omega) (by simpa using he) hd'; rwa [show i + (j' + 1) = i + 1 + j' by omega] at this) ?_
    rw [hl]; cases L i <;> simp [Eff.put, length_setB]
theorem slot_cases {n : Nat} {L : Nat → Bool} {x : SV} : ∀ (es : List Eff) (i : Nat) (S : St), (stL es i L S).t[n]? = some x → S.t[n]? = some x ∨ ∃ j f, es[j]? = some f ∧ L (i + j) = true ∧ f.d = some n ∧ x = f.v
  | [], _, _, h => .inl h
  | e :: r, i, S, h => by
    simp only [stL] at h
    rcases slot_cases r (i + 1) _ h with h | ⟨j, f, h1, h2, h3, h4⟩
    · cases hL : L i with
      | false => rw [hL] at h; exact .inl h
      | true =>
        rw [hL] at h
        simp only [cond_true, Eff.put] at h
        by_cases hd : e.d = some n
        · right
          refine ⟨0, e, rfl, hL, hd, ?_⟩
          rw [hd] at h
          simp only [setT, List.getElem?_set_self'] at h
          cases hs : S.t[n]? with
          | none => rw [hs] at h; simp at h
          | some y => rw [hs] at h; simp at h; exact h.symm
        · rw [setT_other hd] at h; exact .inl h
    · right; exact ⟨j + 1, f, by simpa using h1, by rw [show i + (j + 1) = i + 1 + j by omega]; exact h2, h3, h4⟩
theorem stL_congrL : ∀ (es : List Eff) (i : Nat) (L L' : Nat → Bool) (S : St), (∀ j, j < es.length → L (i + j) = L' (i + j)) → stL es i L S = stL es i L' S
  | [], _, _, _, _, _ => rfl
  | e :: r, i, L, L', S, h => by
    simp only [stL]
    have h0 := h 0 (by simp)
    simp only [Nat.add_zero] at h0
    rw [h0]
    exact stL_congrL r (i + 1) L L' _ fun j hj => by have := h (j + 1) (by simpa using hj); rwa [show i + (j + 1) = i + 1 + j by omega] at this

/-! ### The orders -/
def par (o : Oper) : List Nat := (o.after.toList.filter fun e => Region.binds .any e).map (·.on)
def Closed (ops : Array Oper) (L : Nat → Bool) : Prop := ∀ j o, L j = true → ops[j]? = some o → ∀ p ∈ par o, L p = true
def AncR (ops : Array Oper) (i j : Nat) : Prop := ∀ L, Closed ops L → (∀ o, ops[j]? = some o → ∀ p ∈ par o, L p = true) → L i = true
/-- From every real state that this one stands for the operation does just this. -/
def Sem0 (P : Program) (ops : Array Oper) (o : Oper) (e : Eff) (S : St) : Prop :=
  ∀ C E m a w, Rep E C m S a w → opW P ops o a w (fun a' w' => ∃ E' m', Ext E m (vers S.h) E' m' (vers (e.put S).h) ∧ Rep E' C m' (e.put S) a' w')
structure Yld (P : Program) (ops : Array Oper) (o : Oper) (e : Eff) (S : St) : Prop where
  out : ∀ S' : St, S'.t.length = S.t.length → S'.h.length = S.h.length → (∀ n ∈ e.rs, S'.t[n]? = S.t[n]?) → (∀ k ∈ e.rb, S'.h[k]? = S.h[k]?) → (∀ d, e.d = some d → killL d S'.t = S'.t) → Sem0 P ops o e S'
/-- The slots that a value hangs on. -/
def hang : SV → List Nat
  | .grd q _ => q.map (·.1)
  | _ => []
structure Plan (P : Program) (ops : Array Oper) (es : List Eff) (S0 : St) : Prop where
  len : es.length = ops.size
  yld : ∀ i o e, ops[i]? = some o → es[i]? = some e → Yld P ops o e (stL es 0 (fun j => decide (j < i)) S0)
  lex : ∀ i o, ops[i]? = some o → ∀ p ∈ par o, p < i
  cf : ∀ (i j : Nat) (e f : Eff), i < j → es[i]? = some e → es[j]? = some f → clash e f = true → AncR ops i j
  hg : ∀ (i j : Nat) (e f : Eff), i < j → es[i]? = some e → es[j]? = some f → hasO f.d (hang e.v) = false
  hr : ∀ (i : Nat) (e : Eff), es[i]? = some e → ∀ n ∈ hang e.v, n ∈ e.rs
  cln : ∀ (i : Nat) (e : Eff) (d : Nat), es[i]? = some e → e.d = some d → killL d S0.t = S0.t
  wr : ∀ (i : Nat) (e : Eff), es[i]? = some e → ∀ k ∈ wN e.wb, k ∈ e.rb
theorem inG_hang {d : Nat} : ∀ {q : List (Nat × Bool)}, inG d q = true → d ∈ q.map (·.1)
  | [], h => by simp [inG] at h
  | (j, b) :: r, h => by
    simp only [inG, Bool.or_eq_true] at h
    rcases h with h | h
    · have := Nat.eq_of_beq_eq_true h; subst this; simp
    · exact List.mem_cons_of_mem _ (inG_hang h)
theorem mem_ready' {ops : Array Oper} {listed : Array Bool} {i : Nat} (h : i ∈ Region.ready .any ops listed) : listed.getD i true = false ∧ ∃ o, ops[i]? = some o ∧ ∀ p ∈ par o, listed.getD p false = true := by
  obtain ⟨h1, o, h2, h3⟩ := mem_ready.1 h
  refine ⟨h1, o, h2, fun p hp => ?_⟩
  obtain ⟨e, he, rfl⟩ := List.mem_map.1 hp
  obtain ⟨he1, he2⟩ := List.mem_filter.1 he
  exact h3 e (by simpa using he1) he2
theorem getD_false {l : Array Bool} {i : Nat} (h : l.getD i true = false) : i < l.size ∧ l.getD i false = false ∧ l.toList[i]? = some false := by
  by_cases hi : i < l.size
  · simp [Array.getD, hi] at h ⊢
    exact h
  · simp [Array.getD, hi] at h
section
variable {P : Program} {ops : Array Oper} {es : List Eff} {S0 : St}
theorem plan_any (hp : Plan P ops es S0) {Q : Exit → Act → World → Prop} {C : Fr} {E0 : Env} {m0 : Mem} {V0 : List Nat}
    (hQ : ∀ E m a w, Ext E0 m0 V0 E m (vers (stL es 0 (fun _ => true) S0).h) → Rep E C m (stL es 0 (fun _ => true) S0) a w → Q .normal a w) :
    ∀ (fuel : Nat) (listed : Array Bool) (E : Env) (m : Mem) (a : Act) (w : World), listed.size = ops.size → listed.toList.count false = fuel → Closed ops (fun j => listed.getD j false) →
      Ext E0 m0 V0 E m (vers (stL es 0 (fun j => listed.getD j false) S0).h) → Rep E C m (stL es 0 (fun j => listed.getD j false) S0) a w → wpAny P .any ops Q fuel listed a w := by
  have all : ∀ (listed : Array Bool) (E : Env) (m : Mem) (a : Act) (w : World), listed.size = ops.size → Region.ready .any ops listed = [] →
      Ext E0 m0 V0 E m (vers (stL es 0 (fun j => listed.getD j false) S0).h) → Rep E C m (stL es 0 (fun j => listed.getD j false) S0) a w → Q .normal a w := by
    intro listed E m a w hs hr hx hrep
    have hall : ∀ i, i < ops.size → listed.getD i false = true := by
      intro i
      induction i using Nat.strongRecOn with
      | _ i ih =>
        intro hi
        cases hl : listed.getD i false with
        | true => rfl
        | false =>
          exfalso
          have ho : ops[i]? = some ops[i] := Array.getElem?_eq_getElem hi
          have : i ∈ Region.ready .any ops listed := by
            refine mem_ready.2 ⟨?_, ops[i], ho, fun e he hb => ?_⟩
            · simp [Array.getD, hs, hi] at hl ⊢; exact hl
            · have hpm : e.on ∈ par ops[i] := List.mem_map.2 ⟨e, List.mem_filter.2 ⟨by simpa using he, hb⟩, rfl⟩
              have := hp.lex i _ ho _ hpm
              exact ih _ this (by omega)
          rw [hr] at this; cases this
    have heq := stL_congrL es 0 (fun j => listed.getD j false) (fun _ => true) S0 fun j hj => by simpa using hall j (by rw [← hp.len]; exact hj)
    rw [heq] at hx hrep
    exact hQ E m a w hx hrep
  intro fuel
  induction fuel with
  | zero =>
    intro listed E m a w hs hc hcl hx hrep
    have hr : Region.ready .any ops listed = [] := by
      cases h : Region.ready .any ops listed with
      | nil => rfl
      | cons i r =>
        exfalso
        obtain ⟨h1, _⟩ := mem_ready' (i := i) (ops := ops) (listed := listed) (by rw [h]; simp)
        have h3 := (getD_false h1).2.2
        have := List.count_eq_zero.1 hc
        exact this (List.mem_of_getElem? h3)
    exact ⟨hr, all listed E m a w hs hr hx hrep⟩
  | succ fuel ih =>
    intro listed E m a w hs hc hcl hx hrep
    refine ⟨fun hr => all listed E m a w hs hr hx hrep, fun i hi => ?_⟩
    obtain ⟨hun, o, ho, hpar⟩ := mem_ready' hi
    obtain ⟨hlt, huf, hgf⟩ := getD_false hun
    have hlen := hp.len
    have hie : i < es.length := by rw [hlen, ← hs]; exact hlt
    have he : es[i]? = some es[i] := List.getElem?_eq_getElem hie
    generalize es[i] = e at he
    -- what may not be
    have later : ∀ j f, i < j → es[j]? = some f → clash e f = true → listed.getD j false = false := by
      intro j f hij hf hcf
      cases hl : listed.getD j false with
      | false => rfl
      | true =>
        have := hp.cf i j e f hij he hf hcf (fun j => listed.getD j false) hcl (fun o' ho' p hp' => hcl j o' hl ho' p hp')
        simp only [huf] at this; cases this
    have earlier : ∀ j f, j < i → es[j]? = some f → clash f e = true → listed.getD j false = true := by
      intro j f hij hf hcf
      refine hp.cf j i f e hij hf he hcf (fun j => listed.getD j false) hcl (fun o' ho' p hp' => ?_)
      rw [ho] at ho'; cases ho'
      exact hpar p hp'
    have same : ∀ j f, es[j]? = some f → (clash e f = true ∧ clash f e = true) → decide (j < i) = listed.getD j false := by
      intro j f hf hcf
      rcases Nat.lt_trichotomy j i with h | h | h
      · rw [earlier j f h hf hcf.2]; simp [h]
      · subst h; rw [huf]; simp
      · rw [later j f h hf hcf.1]; simp; omega
    have y := (hp.yld i o e ho he).out (stL es 0 (fun j => listed.getD j false) S0) (by rw [(stL_len ..).1, (stL_len ..).1]) (by rw [(stL_len ..).2, (stL_len ..).2])
      (fun n hn => (slot_congr es 0 S0 S0 rfl rfl fun j f hf hd => by
        simp only [Nat.zero_add]
        refine same j f hf ⟨?_, ?_⟩ <;> simp [clash, hasO, hd, hasN_iff.2 hn]).symm)
      (fun k hk => (blk_congr es 0 S0 S0 rfl rfl fun j f hf hd => by
        simp only [Nat.zero_add]
        refine same j f hf ⟨?_, ?_⟩ <;> simp [clash, meets_of hd hk]).symm)
      (fun d hd => by
        unfold killL
        conv => rhs; rw [← List.map_id (stL es 0 (fun j => listed.getD j false) S0).t]
        refine List.map_congr_left fun x hxm => ?_
        obtain ⟨n, hn⟩ := List.getElem?_of_mem hxm
        rcases slot_cases es 0 S0 hn with h | ⟨j, f, hf, hl, hfd, rfl⟩
        · have h1 := hp.cln i e d he hd
          have h2 : (killL d S0.t)[n]? = S0.t[n]? := by rw [h1]
          simp only [killL, List.getElem?_map, h, Option.map_some, Option.some.injEq] at h2
          exact h2
        · simp only [Nat.zero_add] at hl
          cases hv : f.v <;> try rfl
          rename_i q z
          simp only [killG, id]
          cases hq : inG d q with
          | false => rfl
          | true =>
            exfalso
            have hm : d ∈ hang f.v := by rw [hv]; exact inG_hang hq
            have hrs := hp.hr j f hf d hm
            rcases Nat.lt_trichotomy j i with h | h | h
            · have := hp.hg j i f e h hf he
              rw [hd] at this
              simp only [hasO] at this
              rw [hasN_iff.2 hm] at this; cases this
            · subst h; rw [huf] at hl; cases hl
            · have := later j f h hf (by simp [clash, hasO, hd, hasN_iff.2 hrs])
              rw [this] at hl; cases hl)
    have h1 := y C E m a w hrep
    -- what is next
    have hput : e.put (stL es 0 (fun j => listed.getD j false) S0) = stL es 0 (fun j => (listed.setIfInBounds i true).getD j false) S0 := by
      have hL : ∀ j, (listed.setIfInBounds i true).getD j false = (decide (j = i) || listed.getD j false) := by
        intro j
        by_cases hji : j = i
        · subst hji; simp [Array.getD, hlt]
        · simp only [Array.getD_eq_getD_getElem?, hji, decide_false, Bool.false_or]; rw [Array.getElem?_setIfInBounds_ne (Ne.symm hji)]
      have hLi : (listed.setIfInBounds i true).getD i false = true := by rw [hL]; simp
      have l1 := stL_len es 0 (fun j => listed.getD j false) S0
      have l2 := stL_len es 0 (fun j => (listed.setIfInBounds i true).getD j false) S0
      have ht : (e.put (stL es 0 (fun j => listed.getD j false) S0)).t = (stL es 0 (fun j => (listed.setIfInBounds i true).getD j false) S0).t := by
        apply List.ext_getElem?
        intro n
        by_cases hd : e.d = some n
        · refine (slot_val hd es 0 i S0 _ he (by simpa using hLi) (fun j f hij hf hfd => ?_) l1.1).symm
          simp only [Nat.zero_add, hL]
          rw [later j f hij hf (by simp [clash, sameO, hd, hfd])]
          simp; omega
        · simp only [Eff.put]
          rw [setT_other hd]
          refine slot_congr es 0 S0 S0 rfl rfl fun j f hf hfd => ?_
          simp only [Nat.zero_add, hL]
          have : j ≠ i := fun e' => by subst e'; rw [he] at hf; cases hf; exact hd hfd
          simp [this]
      have hh : (e.put (stL es 0 (fun j => listed.getD j false) S0)).h = (stL es 0 (fun j => (listed.setIfInBounds i true).getD j false) S0).h := by
        apply List.ext_getElem?
        intro n
        by_cases hd : n ∈ wN e.wb
        · refine (blk_val hd es 0 i S0 _ he (by simpa using hLi) (fun j f hij hf hfd => ?_) l1.2).symm
          simp only [Nat.zero_add, hL]
          rw [later j f hij hf (by simp [clash, meets_of hd (hp.wr j f hf n hfd)])]
          simp; omega
        · simp only [Eff.put]
          rw [setB_other hd]
          refine blk_congr es 0 S0 S0 rfl rfl fun j f hf hfd => ?_
          simp only [Nat.zero_add, hL]
          have : j ≠ i := fun e' => by subst e'; rw [he] at hf; cases hf; exact hd hfd
          simp [this]
      cases hA : e.put (stL es 0 (fun j => listed.getD j false) S0)
      cases hB : stL es 0 (fun j => (listed.setIfInBounds i true).getD j false) S0
      rw [hA, hB] at ht hh
      simp only at ht hh
      rw [ht, hh]
    have next : ∀ a' w', (∃ E' m', Ext E m (vers (stL es 0 (fun j => listed.getD j false) S0).h) E' m' (vers (e.put (stL es 0 (fun j => listed.getD j false) S0)).h) ∧ Rep E' C m' (e.put (stL es 0 (fun j => listed.getD j false) S0)) a' w') →
        wpAny P .any ops Q fuel (listed.setIfInBounds i true) a' w' := by
      rintro a' w' ⟨E', m', k1, k2⟩
      rw [hput] at k1 k2
      refine ih _ E' m' a' w' (by simpa using hs) ?_ ?_ (hx.trans k1) k2
      · have hlt' : i < listed.toList.length := by simpa using hlt
        have hv : listed.toList[i] = false := by
          have := hgf; rw [List.getElem?_eq_getElem hlt'] at this; simpa using this
        rw [Array.toList_setIfInBounds, List.count_set hlt', hv, hc]
        simp
      · intro j o' hj ho' p hp'
        by_cases hji : j = i
        · subst hji
          rw [ho] at ho'; cases ho'
          have := hpar p hp'
          by_cases hpj : p = j
          · subst hpj; rw [huf] at this; cases this
          · simp only [Array.getD_eq_getD_getElem?]; rw [Array.getElem?_setIfInBounds_ne (Ne.symm hpj)]; simpa [Array.getD_eq_getD_getElem?] using this
        · simp only [Array.getD_eq_getD_getElem?] at hj
          rw [Array.getElem?_setIfInBounds_ne (Ne.symm hji)] at hj
          have := hcl j o' (by simpa [Array.getD_eq_getD_getElem?] using hj) ho' p hp'
          by_cases hpj : p = i
          · subst hpj; simp only [huf] at this; cases this
          · simp only [Array.getD_eq_getD_getElem?]; rw [Array.getElem?_setIfInBounds_ne (Ne.symm hpj)]; simpa [Array.getD_eq_getD_getElem?] using this
    unfold opW at h1
    unfold wpOp
    simp only [ho]
    by_cases hw : Region.wanted o (yielded ops a.tmps) = true
    · rw [if_pos hw] at h1 ⊢
      exact .inl (wp_onlyN h1 next)
    · rw [if_neg hw] at h1 ⊢
      exact next _ _ h1
theorem wp_plan (hm : P.follows .mixedOrders = true) (hp : Plan P ops es S0) {id : Nat} {Q : Exit → Act → World → Prop} {C E m a w} (hr : Rep E C m S0 a w)
    (hQ : ∀ E' m' a' w', Ext E m (vers S0.h) E' m' (vers (stL es 0 (fun _ => true) S0).h) → Rep E' C m' (stL es 0 (fun _ => true) S0) a' w' → Q .normal a' w') : (Code.region id ops true).wp P Q a w := by
  refine wp_region_any hm ?_
  have h0 : (fun j => (Array.replicate ops.size false).getD j false) = fun _ => false := by
    funext j
    simp only [Array.getD_eq_getD_getElem?, Array.getElem?_replicate]
    split <;> rfl
  have hrep : Rep E C m S0 a { w with drawn := w.drawn + 1 } := ⟨hr.sz, hr.sl, hr.df, ⟨hr.rel.os, hr.rel.tape, ⟨hr.rel.output.1, hr.rel.output.2.trans (Nat.le_succ _)⟩, hr.rel.im, hr.rel.fr, hr.rel.mf, hr.rel.bl, hr.rel.nn, hr.rel.sp, hr.rel.inj⟩⟩
  refine plan_any hp hQ ops.size _ E m a _ (by simp) (by simp) ?_ ?_ ?_
  · intro j o hj; rw [h0] at hj; cases hj
  · rw [h0, stL_false]; exact .refl ..
  · rw [h0, stL_false]; exact hrep
end
end SX
end Go.Proofs.YthkedcneehdinaaGreatDoor

/- SX: calls. -/
set_option linter.unusedVariables false
set_option linter.unusedSimpArgs false
namespace Go.Proofs.YthkedcneehdinaaGreatDoor
namespace SX
open Go

theorem callX_mono {P : Program} {f vs w} {Q Q' : Value → World → Prop} (h : callX P f vs w Q) (hq : ∀ v w, Q v w → Q' v w) : callX P f vs w Q' := by
  unfold callX at *
  generalize (callFunc f vs.toArray).run P w = r at *
  cases r with
  | ok n w' =>
    cases n <;> simp only [callN] at h ⊢ <;> try exact h.elim
    · exact hq _ _ h
    · exact Calls.mono h fun e w'' ⟨v, he, hv⟩ => ⟨v, he, hq _ _ hv⟩
    · exact Rows.mono h hq
  | halt x w' => exact h
def XMono (X : List Value → World → (Value → World → Prop) → Prop) : Prop := ∀ vs w Q Q', X vs w Q → (∀ v w, Q v w → Q' v w) → X vs w Q'
theorem callX_m {P : Program} {f} : XMono (callX P f) := fun _ _ _ _ h hq => callX_mono h hq
theorem Cp.mono {X : List Value → World → (Value → World → Prop) → Prop} (hX : XMono X) {args H K K'} (h : Cp X args H K) (hk : ∀ r h, K r h → K' r h) : Cp X args H K' :=
  ⟨fun C E m w hr ha => hX _ _ _ _ (h.out C E m w hr ha) fun v w' ⟨r, H', E', m', h1, h2, h3⟩ => ⟨r, H', E', m', h1, hk _ _ h2, h3⟩⟩

/-! ### Values without names of blocks -/
mutual
def nm : SV → Bool
  | .ptr _ _ _ _ | .sl _ _ _ _ _ _ | .map _ | .arr _ _ _ _ _ _ => false
  | .fn _ caps => nmL caps
  | .iface _ x => nm x
  | .bm _ x => nm x
  | .agg cs => nmL cs
  | .tup vs => nmL vs
  | .grd _ _ => false
  | .dead => false
  | _ => true
def nmL : List SV → Bool
  | [] => true
  | x :: r => nm x && nmL r
end
mutual
theorem nm_ok {m : Mem} {V V' : List Nat} : ∀ x : SV, nm x = true → Ok m V x → Ok m V' x
  | .i _ _, _, _ | .b _, _, _ | .s _, _, _ | .raw _, _, _ | .nils, _, _ => by simp [Ok]
  | .ptr _ _ _ _, h, _ | .sl _ _ _ _ _ _, h, _ | .map _, h, _ | .arr _ _ _ _ _ _, h, _ | .grd _ _, h, _ | .dead, h, _ => by simp [nm] at h
  | .ipt _ _ _ _ _ _ _ _ _, _, h | .imm _ _ _ _ _ _ _, _, h | .ints _ _ _, _, h => by simpa only [Ok] using h
  | .fn _ caps, hn, h => by simp only [nm] at hn; simp only [Ok] at h ⊢; exact nm_okA caps hn h
  | .iface _ x, hn, h => by simp only [nm] at hn; simp only [Ok] at h ⊢; exact ⟨nm_ok x hn h.1, h.2⟩
  | .bm _ x, hn, h => by simp only [nm] at hn; simp only [Ok] at h ⊢; exact ⟨nm_ok x hn h.1, h.2⟩
  | .agg cs, hn, h => by simp only [nm] at hn; simp only [Ok] at h ⊢; exact nm_okL cs hn h
  | .tup vs, hn, h => by simp only [nm] at hn; simp only [Ok] at h ⊢; exact nm_okA vs hn h
theorem nm_okL {m : Mem} {V V' : List Nat} : ∀ l : List SV, nmL l = true → OkL m V l → OkL m V' l
  | [], _, _ => by simp [OkL]
  | x :: r, hn, h => by
    simp only [nmL, Bool.and_eq_true] at hn
    simp only [OkL] at h ⊢
    exact ⟨⟨h.1.1, nm_ok x hn.1 h.1.2⟩, nm_okL r hn.2 h.2⟩
theorem nm_okA {m : Mem} {V V' : List Nat} : ∀ l : List SV, nmL l = true → OkA m V l → OkA m V' l
  | [], _, _ => by simp [OkA]
  | x :: r, hn, h => by
    simp only [nmL, Bool.and_eq_true] at hn
    simp only [OkA] at h ⊢
    exact ⟨⟨h.1.1, nm_ok x hn.1 h.1.2⟩, nm_okA r hn.2 h.2⟩
end
theorem Vle_nil {k v : Nat} (h : Vle [] k v) : False := by obtain ⟨n, hn, _⟩ := h; simp at hn
theorem denL_stable0 {m : Mem} {E E' : Env} : ∀ {l : List SV}, OkA m [] l → denL E' l = denL E l
  | [], _ => rfl
  | x :: r, h => by
    simp only [OkA] at h
    simp only [denL]
    rw [denL_stable0 h.2]
    have := den_stable (m := m) (V := []) (E := E) (E' := E') (fun k v hv => (Vle_nil hv).elim) x h.1.2
    unfold den at this
    rw [this]
open Classical in
/-- What is tracked stands aside. -/
noncomputable def Fr.park (C : Fr) (E : Env) (H : List SB) (w : World) : Fr :=
  { C with F := fun b => match C.F b with | some o => some o | none => if ∃ k, BlkAt E H k b then w.heap[b]? else none }
theorem park_rel {E C m H w} (h : Rel E C m H w) : Rel E0 (C.park E H w) m [] w := by
  refine ⟨h.os, h.tape, h.output, h.im, ?_, ⟨?_, h.mf.2⟩, ?_, ?_, ?_, ?_⟩
  · intro b o hb
    simp only [Fr.park] at hb
    cases hf : C.F b with
    | some o' => rw [hf] at hb; cases hb; exact h.fr b _ hf
    | none =>
      rw [hf] at hb
      simp only at hb
      split at hb
      · exact hb
      · cases hb
  · intro b o hb
    simp only [Fr.park] at hb
    cases hf : C.F b with
    | some o' => exact h.mf.1 b _ hf
    | none =>
      rw [hf] at hb
      simp only at hb
      split at hb
      · rename_i hk
        obtain ⟨k, hk⟩ := hk
        exact (h.sp k b hk).1
      · cases hb
  · intro k B hk; simp at hk
  · intro k v hv; exact (Vle_nil hv).elim
  · rintro k b ⟨B, hB, _⟩; simp at hB
  · rintro j k b ⟨B, hB, _⟩; simp at hB
theorem unpark_rel {E E' C m m' H H' w w'} (h : Rel E C m H w) (hm : ∀ b o, m b = some o → m' b = some o) (h' : Rel E' (C.park E H w) m' H' w') : Rel E C m' H w' := by
  have hblk : ∀ k b, BlkAt E H k b → ∃ o, w.heap[b]? = some o ∧ (C.park E H w).F b = some o := by
    intro k b hb
    obtain ⟨B, hB, hk⟩ := id hb
    obtain ⟨o, ho⟩ := (h.bl k B hB).block hB b hb
    refine ⟨o, ho, ?_⟩
    simp only [Fr.park, (h.sp k b hb).2]
    rw [if_pos ⟨k, hb⟩, ho]
  have hF : ∀ b o, C.F b = some o → (C.park E H w).F b = some o := by
    intro b o hb; simp only [Fr.park, hb]
  refine ⟨h'.os, h'.tape, h'.output, h'.im, fun b o hb => h'.fr b o (hF b o hb), ⟨fun b o hb => h'.mf.1 b o (hF b o hb), h'.mf.2⟩, ?_, h.nn, ?_, h.inj⟩
  · intro k B hB
    refine (h.bl k B hB).mono ⟨hm, fun _ _ h => h, fun _ _ _ => rfl⟩ (fun _ _ => rfl) fun b hb => ?_
    obtain ⟨o, ho, hf⟩ := hblk k b ⟨B, hB, hb⟩
    rw [ho, h'.fr b o hf]
  · intro k b hb
    obtain ⟨o, ho, hf⟩ := hblk k b hb
    exact ⟨h'.mf.1 b o hf, (h.sp k b hb).2⟩
/-- A call that wants values alone goes anywhere. -/
theorem Cp.anywhere {X : List Value → World → (Value → World → Prop) → Prop} (hX : XMono X) {args : List SV} {r : SV} (hc : Cp X args [] (fun r' h => r' = r ∧ h = [])) (hn : nmL args = true) (H : List SB) :
    Cp X args H (fun r' h => r' = r ∧ h = H) := by
  refine ⟨fun C E m w hr ha => ?_⟩
  have ha' : OkA m [] args := nm_okA args hn ha
  have h1 := hc.out (C.park E H w) E0 m w (park_rel hr) ha'
  rw [denL_stable0 (E := E) (E' := E0) ha'] at h1
  refine hX _ _ _ _ h1 ?_
  rintro v w' ⟨r', H', E', m', hv, ⟨rfl, rfl⟩, ⟨hok, hl⟩, hx, hrel⟩
  refine ⟨r', H, E, m', ?_, ⟨rfl, rfl⟩, ⟨Ok.mono (fun _ _ h => h) r' [] (vers H) (fun k v hv => (Vle_nil hv).elim) hok, hl⟩, ⟨hx.mm, fun _ _ h => h, fun _ _ _ => rfl⟩, unpark_rel hr hx.mm hrel⟩
  rw [hv]
  exact den_stable (m := m') (V := []) (fun k v hv => (Vle_nil hv).elim) r' hok
section
variable {P : Program} {T : Tb} {ops : Array Oper} {o : Oper}
/-- A function that hands back a value is walked. -/
theorem Ctr.enterV (hT : TabOk P T) {f : FuncId} {fn : Func} {c : Code} {n : Nat} (hf : P.funcs[f]? = some fn) (hb : fn.body = some c) (hn : fn.ntmps = n) (hnm : (fn.name == "runtime.NumGoroutine") = false) {args : List SV} {r : SV}
    (hl : Nat.ble args.length n = true) (hr : nm r = true) (h : sx P T c (retK T fn.results.toList (fun r' _ => r' = r)) ⟨args ++ List.replicate (n - args.length) .dead, []⟩) : CtrV P f args r := by
  have h1 := Ctr.enter hT hf hb hn hnm hl h
  refine ⟨fun C E m w hrel ha => callX_mono (h1.out C E m w hrel ha) ?_⟩
  rintro v w' ⟨r', H', E', m', hv, rfl, ⟨hok, hlv⟩, hx, hrel'⟩
  refine ⟨r', [], E', m', hv, ⟨rfl, rfl⟩, ⟨nm_ok r' hr hok, hlv⟩, ⟨hx.mm, fun _ _ h => (Vle_nil h).elim, fun _ _ h => (Vle_nil h).elim⟩, ?_⟩
  refine ⟨hrel'.os, hrel'.tape, hrel'.output, hrel'.im, hrel'.fr, hrel'.mf, ?_, ?_, ?_, ?_⟩
  · intro k B hk; simp at hk
  · intro k v hv; exact (Vle_nil hv).elim
  · rintro k b ⟨B, hB, _⟩; simp at hB
  · rintro j k b ⟨B, hB, _⟩; simp at hB

/-! ### The operation -/
theorem evs_list {E : Env} {m : Mem} {V : List Nat} {ev : Operand → SV} {f : Operand → Value} (h : Evs E m V ev f) : ∀ {l : List Operand}, (∀ x ∈ l.map ev, live x = true) → OkA m V (l.map ev) ∧ l.map f = denL E (l.map ev)
  | [], _ => by simp [OkA, denL]
  | x :: l, hl => by
    obtain ⟨h1, h2⟩ := h.live (o := x) (hl _ (by simp))
    obtain ⟨h3, h4⟩ := evs_list h (l := l) (fun y hy => hl y (by simp only [List.map_cons, List.mem_cons]; exact .inr hy))
    simp only [List.map_cons, OkA, denL]
    refine ⟨⟨⟨h1.2, h1.1⟩, h3⟩, ?_⟩
    rw [h2, h4]; rfl
theorem OkA_append {m : Mem} {V : List Nat} : ∀ {a b : List SV}, OkA m V a → OkA m V b → OkA m V (a ++ b)
  | [], b, _, h => h
  | x :: a, b, h, h' => by simp only [List.cons_append, OkA] at h ⊢; exact ⟨h.1, OkA_append h.2 h'⟩
theorem denL_append {E : Env} : ∀ {a b : List SV}, denL E (a ++ b) = denL E a ++ denL E b
  | [], b => rfl
  | x :: a, b => by simp only [List.cons_append, denL, denL_append]
theorem calB_ok {x : SV} {f : FuncId} {fst caps : List SV} (h : calB x = some (f, fst, caps)) :
    live x = true ∧ (∀ E, den E x = .func (.func f) (denL E fst).toArray (denL E caps).toArray) ∧ ∀ m V, Ok m V x → OkA m V fst ∧ OkA m V caps := by
  cases x <;> simp only [calB, reduceCtorEq, Option.some.injEq, Prod.mk.injEq] at h
  · obtain ⟨rfl, rfl, rfl⟩ := h
    exact ⟨rfl, fun E => by simp [den, wrapV, cells, denL], fun m V g => by simp only [Ok] at g; exact ⟨by simp [OkA], g⟩⟩
  · obtain ⟨rfl, rfl, rfl⟩ := h
    exact ⟨rfl, fun E => by simp [den, wrapV, cells, denL], fun m V g => by simp only [Ok] at g; exact ⟨by simp only [OkA]; exact ⟨⟨g.2, g.1⟩, trivial⟩, by simp [OkA]⟩⟩
/-- What a call's operation runs. -/
theorem wp_call {c : Call} (hop : o.op = .call c) {fo : Operand} (hcal : c.callee = .value fo) {S : St} {C E m a w} (hr : Rep E C m S a w) {p : List (Nat × Bool)} (hp : GV S.t p true) {f : FuncId} {fst caps : List SV} (hf : calB (evG p S.t fo) = some (f, fst, caps))
    (hl : (c.args.toList.map (evG p S.t)).all live = true) {H : List SB} (hH : S.h = H) {K : SV → List SB → Prop} (hc : Ctr P f (fst ++ (c.args.toList.map (evG p S.t) ++ caps)) H K) {K' : Act → World → Prop} {Q : Exit → Act → World → Prop}
    (hK : ∀ r H' E' m' w', K r H' → Gd m' (vers H') r → Ext E m (vers S.h) E' m' (vers H') → Rel E' C m' H' w' → K' (a.put o.dst (den E' r)) w') : o.wp P a w K' Q := by
  subst hH
  have hevs := hr.evs hp
  obtain ⟨hb1, hb2, hb3⟩ := calB_ok hf
  obtain ⟨g1, g2⟩ := hevs.live (o := fo) hb1
  rw [hb2 E] at g2
  obtain ⟨o1, o2⟩ := evs_list hevs (l := c.args.toList) (fun x hx => List.all_eq_true.1 hl x hx)
  obtain ⟨og, oc⟩ := hb3 _ _ g1.1
  have h1 := hc.out C E m w hr.rel (OkA_append og (OkA_append o1 oc))
  have hrun : (execOp a.eval o).run P w = (callFunc f (denL E (fst ++ (c.args.toList.map (evG p S.t) ++ caps))).toArray).run P w := by
    simp only [execOp, hop, resolve, hcal, g2, Deferred.ofValue, Sem.run_bind, Sem.run_pure, Result.andThen_ok, invoke]
    congr 2
    apply Array.ext'
    simp only [Array.toList_append, Array.toList_map, denL_append, o2, List.append_assoc]
  unfold Oper.wp
  unfold callX at h1
  rw [hrun]
  generalize (callFunc f (denL E (fst ++ (c.args.toList.map (evG p S.t) ++ caps))).toArray).run P w = res at *
  cases res with
  | ok n w' =>
    cases n <;> simp only [callN] at h1 <;> try exact h1.elim
    · obtain ⟨r, H', E', m', rfl, k1, k2, k3, k4⟩ := h1
      exact hK r H' E' m' _ k1 k2 k3 k4
    · refine Calls.mono h1 ?_
      rintro e w'' ⟨v, rfl, r, H', E', m', rfl, k1, k2, k3, k4⟩
      exact hK r H' E' m' _ k1 k2 k3 k4
    · refine Rows.mono h1 ?_
      rintro v w'' ⟨r, H', E', m', rfl, k1, k2, k3, k4⟩
      exact hK r H' E' m' _ k1 k2 k3 k4
  | halt x w' => exact h1.elim
/-- A call, of anything, in its text's order. -/
theorem OpC.call {K : St → Prop} {t : List SV} {h : List SB} {c : Call} (hop : o.op = .call c) {fo : Operand} (hcal : c.callee = .value fo) (hg : guardOf ops t o = some []) {f : FuncId} {fst caps : List SV} (hf : calB (evG [] t fo) = some (f, fst, caps))
    {args : List SV} (ha : fst ++ (c.args.toList.map (evG [] t) ++ caps) = args) (hl : (c.args.toList.map (evG [] t)).all live = true) {K' : SV → List SB → Prop} (hc : Ctr P f args h K') (hK : ∀ r h', K' r h' → putK t h' o.dst r K) : OpC P T ops o K ⟨t, h⟩ := by
  subst ha
  refine ⟨fun C E m a w hr => ?_⟩
  unfold opW
  rw [show Region.wanted o (yielded ops a.tmps) = true by simp [Region.wanted, guard_none hg], if_pos rfl]
  refine wp_call hop hcal hr .nil hf hl rfl hc ?_
  intro r H' E' m' w' k1 k2 k3 k4
  have := hK r H' k1
  rw [putK_eq] at this
  exact ⟨E', m', _, this, k3, (hr.up k3 k4).put o.dst fun d hd => SlotOk_live k2⟩
/-- A call that hands back a value, perhaps behind guards, in its text's order. -/
theorem OpC.callV {K : St → Prop} {t : List SV} {h : List SB} {c : Call} (hop : o.op = .call c) {fo : Operand} (hcal : c.callee = .value fo) {p : List (Nat × Bool)} (hg : guardOf ops t o = some p) {f : FuncId} {fst caps : List SV} (hf : calB (evG p t fo) = some (f, fst, caps))
    {args : List SV} (ha : fst ++ (c.args.toList.map (evG p t) ++ caps) = args) (hl : (c.args.toList.map (evG p t)).all live = true) (hn : nmL args = true) {r : SV} (hc : (gB t p = true → CtrV P f args r)) (hK : putK t h o.dst (wrapG p o.dst r) K) : OpC P T ops o K ⟨t, h⟩ := by
  subst ha
  rw [putK_eq] at hK
  refine ⟨fun C E m a w hr => ?_⟩
  obtain ⟨g, hgv, hw⟩ := guardOf_spec hr hg
  unfold opW
  rw [hw]
  cases g with
  | true =>
    simp only [if_true]
    refine wp_call hop hcal hr hgv hf hl rfl (Cp.anywhere callX_m (hc (GV_gB hgv)) hn h) ?_
    rintro r' H' E' m' w' ⟨rfl, rfl⟩ k2 k3 k4
    have := (hr.up k3 k4).putG (o := o) hgv (x := r') (v := den E' r') (fun _ => .inr ⟨k2, rfl⟩) (fun h => by cases h)
    exact ⟨E', m', _, hK, k3, this⟩
  | false =>
    simp only [Bool.false_eq_true, if_false]
    exact ⟨E, m, _, hK, .refl .., hr.putG (x := r) hgv (fun h => by cases h) (fun _ => rfl)⟩
end
end SX
end Go.Proofs.YthkedcneehdinaaGreatDoor

/- SX: new blocks at a place that was kept. -/
set_option linter.unusedVariables false
set_option linter.unusedSimpArgs false
namespace Go.Proofs.YthkedcneehdinaaGreatDoor
namespace SX
open Go

theorem vers_get {H : List SB} {k : Nat} : (vers H)[k]? = (H[k]?).map SB.lim := by simp [vers]
theorem Vle_iff {H : List SB} {k v : Nat} : Vle (vers H) k v ↔ ∃ B, H[k]? = some B ∧ v < B.lim := by
  constructor
  · rintro ⟨n, hn, hl⟩
    rw [vers_get] at hn
    cases h : H[k]? with
    | none => rw [h] at hn; simp at hn
    | some B => rw [h] at hn; simp at hn; subst hn; exact ⟨B, rfl, hl⟩
  · rintro ⟨B, hB, hl⟩
    exact ⟨B.lim, by rw [vers_get, hB]; rfl, hl⟩
theorem Rel.allocAt {E C m H w} (h : Rel E C m H w) {n : Nat} (hn : H[n]? = some .fresh) (B : SB) (o : Obj) (hB : B.lim = 2)
    (hh : ∀ E' V', (∀ k v, Vle (vers H) k v → E' k v = E k v) → (∀ k v, Vle (vers H) k v → Vle V' k v) → E' n 1 = some (w.heap.size, 0) → Holds E' m V' (w.alloc o) n B) :
    ∃ E', E' n 1 = some (w.heap.size, 0) ∧ Ext E m (vers H) E' m (vers (H.set n B)) ∧ Rel E' C m (H.set n B) (w.alloc o) := by
  have hlen : n < H.length := (List.getElem?_eq_some_iff.1 hn).1
  have hnv : ∀ v, ¬ Vle (vers H) n v := fun v hv => by
    obtain ⟨B', hB', hl⟩ := Vle_iff.1 hv
    rw [hn] at hB'; cases hB'; simp [SB.lim] at hl
  have hge : ∀ k, k ≠ n → (H.set n B)[k]? = H[k]? := fun k hk => List.getElem?_set_ne (Ne.symm hk)
  have hgn : (H.set n B)[n]? = some B := by simp [List.getElem?_set, hlen]
  have hx : Ext E m (vers H) (E.upd n 1 (w.heap.size, 0)) m (vers (H.set n B)) := by
    refine ⟨fun _ _ h => h, fun k v hv => ?_, fun k v hv => Env.upd_ne _ _ fun e => hnv v (e.1 ▸ hv)⟩
    have hk : k ≠ n := fun e => hnv v (e ▸ hv)
    obtain ⟨B', hB', hl⟩ := Vle_iff.1 hv
    exact Vle_iff.2 ⟨B', by rw [hge k hk]; exact hB', hl⟩
  refine ⟨E.upd n 1 (w.heap.size, 0), Env.upd_same .., hx, ?_⟩
  have hold : ∀ i, i < w.heap.size → (w.alloc o).heap[i]? = w.heap[i]? := fun i hi => by
    show (w.heap.push o)[i]? = _
    rw [Array.getElem?_push, if_neg (by omega)]
  have hfresh : ∀ b o', w.heap[b]? = some o' → b < w.heap.size := fun b o' hb => size_of_heap hb
  have hbl : ∀ k b, BlkAt (E.upd n 1 (w.heap.size, 0)) (H.set n B) k b → (k ≠ n ∧ BlkAt E H k b) ∨ (k = n ∧ b = w.heap.size) := by
    rintro k b ⟨B', hB', hb⟩
    by_cases hk : k = n
    · right
      subst hk
      rw [hgn] at hB'; cases hB'
      refine ⟨rfl, ?_⟩
      cases B with
      | mem t segs ver gr =>
        simp [SB.lim] at hB
        subst hB
        obtain ⟨_, c, he⟩ := hb
        rw [Env.upd_same] at he; cases he; rfl
      | mp kv ver =>
        simp [SB.lim] at hB
        subst hB
        obtain ⟨c, he⟩ := hb
        rw [Env.upd_same] at he; cases he; rfl
      | gone v => exact hb.elim
      | fresh => exact hb.elim
    · left
      rw [hge k hk] at hB'
      refine ⟨hk, B', hB', ?_⟩
      cases B' with
      | mem t segs ver gr =>
        obtain ⟨h0, c, he⟩ := hb
        rw [Env.upd_ne _ _ (fun e => hk e.1)] at he
        exact ⟨h0, c, he⟩
      | mp kv ver =>
        obtain ⟨c, he⟩ := hb
        rw [Env.upd_ne _ _ (fun e => hk e.1)] at he
        exact ⟨c, he⟩
      | gone v => exact hb
      | fresh => exact hb
  have hsm : m w.heap.size = none := by
    cases hm : m w.heap.size with
    | none => rfl
    | some o' => have := hfresh _ _ (h.im _ _ hm); omega
  have hsf : C.F w.heap.size = none := by
    cases hm : C.F w.heap.size with
    | none => rfl
    | some o' => have := hfresh _ _ (h.fr _ _ hm); omega
  have hlt : ∀ k b, BlkAt E H k b → b < w.heap.size := fun k b hb => by
    obtain ⟨B', hB', hb'⟩ := hb
    obtain ⟨o', ho'⟩ := (h.bl k B' hB').block hB' b ⟨B', hB', hb'⟩
    exact hfresh _ _ ho'
  refine ⟨h.os, h.tape, h.output, fun b o' hb => ?_, fun b o' hb => ?_, h.mf, fun k B' hB' => ?_, fun k v hv hv0 => ?_, fun k b hb => ?_, fun j k b hj hk => ?_⟩
  · have := h.im b o' hb; rw [hold b (hfresh _ _ this)]; exact this
  · have := h.fr b o' hb; rw [hold b (hfresh _ _ this)]; exact this
  · by_cases hk : k = n
    · subst hk
      rw [hgn] at hB'; cases hB'
      exact hh _ _ hx.ee hx.vv (Env.upd_same ..)
    · rw [hge k hk] at hB'
      have hh' := h.bl k B' hB'
      exact hh'.mono hx (fun v hv => Env.upd_ne _ _ (fun e => hk e.1)) (fun b hb => hold b (hlt k b ⟨B', hB', hb⟩))
  · by_cases hk : k = n
    · subst hk
      obtain ⟨B', hB', hl⟩ := Vle_iff.1 hv
      rw [hgn] at hB'; cases hB'
      have : v = 1 := by omega
      subst this
      exact ⟨_, _, Env.upd_same ..⟩
    · rw [Env.upd_ne _ _ (fun e => hk e.1)]
      obtain ⟨B', hB', hl⟩ := Vle_iff.1 hv
      rw [hge k hk] at hB'
      exact h.nn k v (Vle_iff.2 ⟨B', hB', hl⟩) hv0
  · rcases hbl k b hb with ⟨_, hb'⟩ | ⟨_, rfl⟩
    · exact h.sp k b hb'
    · exact ⟨hsm, hsf⟩
  · rcases hbl j b hj with ⟨_, hj'⟩ | ⟨rfl, hbs⟩ <;> rcases hbl k b hk with ⟨_, hk'⟩ | ⟨rfl, hbs'⟩
    · exact h.inj j k b hj' hk'
    · have := hlt j b hj'; omega
    · have := hlt k b hk'; omega
    · rfl

/-- An operation that makes a block. -/
structure Makes (P : Program) (o : Oper) (S : St) (B : SB) (mk : Nat → SV) : Prop where
  lim : B.lim = 2
  ok : ∀ m V k, Vle V k 1 → Gd m V (mk k)
  run : ∀ C E m a w, Rep E C m S a w → ∃ ob v, (execOp a.eval o).run P w = .ok (.value v) (w.alloc ob) ∧
    (∀ k E' V', (∀ k v, Vle (vers S.h) k v → E' k v = E k v) → (∀ k v, Vle (vers S.h) k v → Vle V' k v) → E' k 1 = some (w.heap.size, 0) → Holds E' m V' (w.alloc ob) k B) ∧
    (∀ k E', E' k 1 = some (w.heap.size, 0) → v = den E' (mk k))
section
variable {P : Program} {T : Tb} {ops : Array Oper} {o : Oper}
theorem box_makes {S : St} {ty : TypeId} {x : Operand} (hop : o.op = .box ty x) (hc : okCells (evG [] S.t x) = true) : Makes P o S (.mem ty (segsOf (evG [] S.t x)) 1 0) (fun k => .ptr k 1 0 []) := by
  refine ⟨rfl, fun m V k hk => ⟨by simp only [Ok]; exact ⟨hk, by omega⟩, rfl⟩, fun C E m a w hr => ?_⟩
  obtain ⟨hgd, hev⟩ := (hr.evs .nil).live (okCells_live hc)
  obtain ⟨h1, h2⟩ := den_cells_list (E := E) hgd hc
  have h1' : (a.eval x).cells = (cellsL E (segsOf (evG [] S.t x))).toArray := by rw [hev, ← h1]
  refine ⟨.cells (cellsL E (segsOf (evG [] S.t x))).toArray ty, .pointer (some ⟨w.heap.size, 0, none⟩), ?_, fun k E' V' hE hV hlen => ?_, fun k E' he => by simp [den, wrapV, cells, Env.blk, he, ofs]⟩
  · simp only [execOp, hop, Instr.box, newVar, newRow, Sem.run_bind, run_newObj, Result.andThen_ok, Sem.run_pure, h1']
    rfl
  · refine ⟨rfl, _, _, hlen, ?_, OkL.mono (fun _ _ h => h) _ _ _ hV h2⟩
    rw [cellsL_stable hE _ h2]
    exact heap_alloc_new w _
theorem alloc_makes (hT : TabOk P T) {S : St} {ty : TypeId} {ti : TI} (hop : o.op = .alloc ty) (ht : T ty = some ti) : Makes P o S (.mem ty ti.zero 1 0) (fun k => .ptr k 1 0 []) := by
  refine ⟨rfl, fun m V k hk => ⟨by simp only [Ok]; exact ⟨hk, by omega⟩, rfl⟩, fun C E m a w hr => ?_⟩
  have hti := hT.ti ty ti ht
  obtain ⟨z, hz, hzc⟩ := hti.run_zero (P := P) w
  obtain ⟨zo, zc⟩ := hT.zeroOk (m := m) (V := vers S.h) (E := E) ht
  have h1' : z.cells = (cellsL E ti.zero).toArray := by rw [zc, ← hzc]
  refine ⟨.cells (cellsL E ti.zero).toArray ty, .pointer (some ⟨w.heap.size, 0, none⟩), ?_, fun k E' V' hE hV hlen => ?_, fun k E' he => by simp [den, wrapV, cells, Env.blk, he, ofs]⟩
  · simp only [execOp, hop, Instr.alloc, newVar, newRow, Sem.run_bind, hz, run_newObj, Result.andThen_ok, Sem.run_pure, h1']
    rfl
  · refine ⟨rfl, _, _, hlen, ?_, OkL.mono (fun _ _ h => h) _ _ _ hV zo⟩
    rw [cellsL_stable hE _ zo]
    exact heap_alloc_new w _
theorem buildSlice_makes (hT : TabOk P T) {S : St} {ty : TypeId} {len : Nat} {parts : Array (Nat × Operand)} {ti te : TI} {e : TypeId} {segs : List SV} (hop : o.op = .buildSlice ty len parts) (ht : T ty = some ti) (hk : ti.k = .slice e) (hte : T e = some te)
    (hbn : (!(Nat.ble (len * te.size) 16777216) || Nat.beq te.size 0) = false) (hb : buildArr te.size (parts.toList.map fun q => (q.1, evG [] S.t q.2)) (zeros len te.zero) = some segs) :
    Makes P o S (.mem e (packF ti.flat te len segs) 1 0) (fun k => .sl k 1 0 len (some len) 0) := by
  refine ⟨rfl, fun m V k hk => ⟨by simp only [Ok]; exact ⟨hk, by omega⟩, rfl⟩, fun C E m a w hr => ?_⟩
  simp only [Bool.or_eq_false_iff, Bool.not_eq_false'] at hbn
  have hle := Nat.le_of_ble_eq_true hbn.1
  have hsz0 : te.size ≠ 0 := fun e => by rw [e] at hbn; simp at hbn
  have hti := hT.ti ty ti ht
  have hti' := hT.ti e te hte
  obtain ⟨z, hz, hzc⟩ := hti'.run_zero (P := P) w
  obtain ⟨zo, zc⟩ := hT.zeroOk (m := m) (V := vers S.h) (E := E) hte
  have h1' : z.cells = (cellsL E te.zero).toArray := by rw [zc, ← hzc]
  have hevs := hr.evs .nil
  obtain ⟨q1, q2⟩ := buildArr_ok (E := E) (m := m) (V := vers S.h) (parts.toList.map fun q => (q.1, evG [] S.t q.2)) (zeros len te.zero) segs (fun p hp hok => by
    obtain ⟨q, _, rfl⟩ := List.mem_map.1 hp
    exact (hevs.live (okCells_live hok)).1) (OkL_zeros zo len) hb
  obtain ⟨p1, p2⟩ := packF_ok (E := E) (f := ti.flat) (te := te) (n := len) q1
  have hcs := buildArr_cells _ _ segs hb
  have hvs : (parts.map fun x : Nat × Operand => match x with | (i, x) => (i, a.eval x)).toList = (parts.toList.map fun q => (q.1, evG [] S.t q.2)).map fun p => (p.1, den E p.2) := by
    simp only [Array.toList_map, List.map_map]
    apply List.map_congr_left
    intro q hq
    simp only [Function.comp]
    rw [(hevs.live (okCells_live (hcs (q.1, evG [] S.t q.2) (List.mem_map.2 ⟨q, hq, rfl⟩)))).2]
  have hzl : (cellsL E te.zero).length = te.size := by rw [length_cellsL E _ _ zo]; exact hti'.zw
  have hrz := range_zeros (z := cellsL E te.zero) (by omega) len
  rw [hzl] at hrz
  rw [← zeros_cells] at hrz
  have hne : ¬ (len * te.size > 2 ^ 24) := by omega
  refine ⟨.cells (cellsL E segs).toArray e, .slice (some ⟨w.heap.size, 0, none⟩) len len, ?_, fun k E' V' hE hV hlen => ?_, fun k E' he => by simp [den, wrapV, cells, he]⟩
  · simp only [execOp, hop, Instr.buildSlice, Sem.run_bind, run_underlying' (hti.slice hk), Result.andThen_ok, hti'.run_sizeOf, if_neg hne]
    by_cases hl0 : len * te.size = 0
    · have hl : len = 0 := by rcases Nat.mul_eq_zero.1 hl0 with h | h; exact h; exact absurd h hsz0
      subst hl
      have hc0 : cellsL E (zeros 0 te.zero) = [] := by simp [zeros, cellsL]
      rw [hc0] at q2
      have hr0 : Array.range 0 = #[] := rfl
      simp only [Nat.zero_mul, if_true, Sem.run_pure, Sem.run_bind, Result.andThen_ok, hvs, hr0, Array.map_empty]
      simp only [q2]
      simp only [Sem.run_bind, newRow, run_newObj, Result.andThen_ok, Sem.run_pure]
      rfl
    · simp only [if_neg hl0, Sem.run_bind, hz, Result.andThen_ok, Sem.run_pure, h1', hvs, hrz, q2, newRow, run_newObj]
      rfl
  · refine ⟨rfl, _, _, hlen, ?_, OkL.mono (fun _ _ h => h) _ _ _ hV p1⟩
    rw [cellsL_stable hE _ p1, p2]
    exact heap_alloc_new w _
theorem makeSlice_makes (hT : TabOk P T) {S : St} {ty : TypeId} {l c : Operand} {n : Nat} {k1 k2 : IntKind} {ti te : TI} {e : TypeId} (hop : o.op = .makeSlice ty l c) (ht : T ty = some ti) (hk : ti.k = .slice e) (hte : T e = some te)
    (hl : evG [] S.t l = .i k1 n) (hc : evG [] S.t c = .i k2 n) (hb : n * te.bytes ≤ 16777216) (hs : n * te.size ≤ 16777216) (h0 : te.size ≠ 0) :
    Makes P o S (.mem e (packF ti.flat te n (zeros n te.zero)) 1 0) (fun k => .sl k 1 0 n (some n) 0) := by
  refine ⟨rfl, fun m V k hk => ⟨by simp only [Ok]; exact ⟨hk, by omega⟩, rfl⟩, fun C E m a w hr => ?_⟩
  have hnn : n ≤ 16777216 := Nat.le_trans (Nat.le_mul_of_pos_right n (Nat.pos_of_ne_zero h0)) hs
  have hti := hT.ti ty ti ht
  have hti' := hT.ti e te hte
  obtain ⟨z, hz, hzc⟩ := hti'.run_zero (P := P) w
  obtain ⟨i, hi, hib⟩ := hti'.run_typeInfo (P := P) w
  obtain ⟨zo, zc⟩ := hT.zeroOk (m := m) (V := vers S.h) (E := E) hte
  have h1' : z.cells = (cellsL E te.zero).toArray := by rw [zc, ← hzc]
  have hevs := hr.evs .nil
  obtain ⟨p1, p2⟩ := packF_ok (E := E) (f := ti.flat) (te := te) (n := n) (OkL_zeros zo n)
  have hzl : (cellsL E te.zero).length = te.size := by rw [length_cellsL E _ _ zo]; exact hti'.zw
  have hrz := range_zeros (z := cellsL E te.zero) (by omega) n
  rw [hzl] at hrz
  rw [← zeros_cells] at hrz
  have el : a.eval l = .int k1 n := by rw [(hevs.live (o := l) (by rw [hl]; rfl)).2, hl]; simp [den_v]
  have ec : a.eval c = .int k2 n := by rw [(hevs.live (o := c) (by rw [hc]; rfl)).2, hc]; simp [den_v]
  have hw : IntKind.i64.wrap (n : Int) = n := IntWalk.i64_in _ ⟨by omega, by omega⟩
  have hby : ¬ ((te.bytes : Int) * n > 2 ^ 48) := by
    have h1 : (te.bytes : Int) * n = ((n * te.bytes : Nat) : Int) := by rw [Int.natCast_mul, Int.mul_comm]
    have h2 : ((n * te.bytes : Nat) : Int) ≤ 16777216 := by omega
    have h3 : (16777216 : Int) ≤ 2 ^ 48 := by decide
    rw [h1]; omega
  have hroom : ¬ (n * te.bytes > roomBytes) := fun h => absurd (Nat.lt_of_lt_of_le h hb) (by decide)
  refine ⟨.cells (cellsL E (zeros n te.zero)).toArray e, .slice (some ⟨w.heap.size, 0, none⟩) n n, ?_, fun k E' V' hE hV hlen => ?_, fun k E' he => by simp [den, wrapV, cells, he]⟩
  · have hn0 : ¬ ((n : Int) < 0) := by omega
    simp only [execOp, hop, Instr.makeSlice, Sem.run_bind, run_underlying' (hti.slice hk), Result.andThen_ok, el, ec, asInt, asIntOf, Sem.run_pure, hi, hib, hw, hby, hn0, decide_false, Bool.or_false, Bool.false_eq_true, if_false, Int.lt_irrefl, askRoom, Int.toNat_natCast, hroom, hti'.run_sizeOf]
    by_cases hl0 : n * te.size = 0
    · have hl : n = 0 := by rcases Nat.mul_eq_zero.1 hl0 with h | h; exact h; exact absurd h h0
      subst hl
      have hc0 : cellsL E (zeros 0 te.zero) = [] := by simp [zeros, cellsL]
      have hr0 : Array.range 0 = #[] := rfl
      simp only [Nat.zero_mul, if_true, Sem.run_pure, Sem.run_bind, Result.andThen_ok, hr0, Array.map_empty, newRow, run_newObj, hc0]
      rfl
    · simp only [if_neg hl0, Sem.run_bind, hz, Result.andThen_ok, Sem.run_pure, h1', hrz, newRow, run_newObj]
      rfl
  · refine ⟨rfl, _, _, hlen, ?_, OkL.mono (fun _ _ h => h) _ _ _ hV p1⟩
    rw [cellsL_stable hE _ p1, p2]
    exact heap_alloc_new w _
end
end SX
end Go.Proofs.YthkedcneehdinaaGreatDoor

/- SX: the executor for regions whose order is drawn. -/
set_option linter.unusedVariables false
set_option linter.unusedSimpArgs false
namespace Go.Proofs.YthkedcneehdinaaGreatDoor
namespace SX
open Go

def tmpsOf : List Operand → List Nat
  | [] => []
  | .tmp n :: r => n :: tmpsOf r
  | _ :: r => tmpsOf r
def setP : List SV → Nat → SV → (List SV → Prop) → Prop
  | x :: xs, n + 1, v, K => setP xs n v (fun ys => K (x :: ys))
  | _ :: xs, 0, v, K => K (v :: xs)
  | [], _, _, K => K []
def setD (t : List SV) (d : Option Nat) (v : SV) (K : List SV → Prop) : Prop := match d with | some d => setP t d v K | none => K t
def readsOf (o : Oper) (p : List (Nat × Bool)) : List Nat := tmpsOf o.op.operands.toList ++ p.map (·.1)
def loadBlk (ev : Operand → SV) : Op → List Nat
  | .load _ x => (match ev x with | .ptr k _ _ _ => [k] | _ => [])
  | .slice _ x _ _ none => (match ev x with | .sl k _ _ _ none _ => [k] | _ => [])
  | _ => []
/-- An operation of such a region that is shown by hand: what it does. -/
structure OpD (P : Program) (ops : Array Oper) (o : Oper) (n : Nat) (K : Eff → Nat → St → Prop) (S : St) : Prop where
  out : ∃ e n', e.d = o.dst ∧ Yld P ops o e S ∧ (∀ n ∈ hang e.v, n ∈ e.rs) ∧ (∀ k ∈ wN e.wb, k ∈ e.rb) ∧ K e n' (e.put S)
def putD (t : List SV) (h : List SB) (d : Option Nat) (x : SV) (rs rb : List Nat) (n : Nat) (K : Eff → Nat → St → Prop) : Prop :=
  force x fun x => setD t d x fun t' => K ⟨d, x, hang x ++ rs, rb, []⟩ n ⟨t', h⟩
def newD (t : List SV) (h : List SB) (d : Option Nat) (B : SB) (x : SV) (rs : List Nat) (n : Nat) (K : Eff → Nat → St → Prop) : Prop :=
  match h.getD n (.gone 0) with
  | .fresh => setH h n B fun h' => setD t d x fun t' => K ⟨d, x, rs, [n], [(n, B)]⟩ (n + 1) ⟨t', h'⟩
  | _ => False
def dop (P : Program) (T : Tb) (ops : Array Oper) (o : Oper) (n : Nat) (K : Eff → Nat → St → Prop) (S : St) : Prop :=
  match S with
  | ⟨t, h⟩ =>
  match guardOf ops t o with
  | none => OpD P ops o n K ⟨t, h⟩
  | some p =>
    match o.op, p with
    | .pick c a b, p => match pickS p t c a b with
      | .v x => putD t h o.dst (wrapG p o.dst x) (readsOf o p) [] n K
      | _ => OpD P ops o n K ⟨t, h⟩
    | .box ty x, [] => force (evG [] t x) fun v => bif okCells v then newD t h o.dst (.mem ty (segsOf v) 1 0) (.ptr n 1 0 []) (readsOf o []) n K else False
    | .alloc ty, [] => match T ty with
      | some ti => newD t h o.dst (.mem ty ti.zero 1 0) (.ptr n 1 0 []) (readsOf o []) n K
      | none => False
    | .buildSlice ty len parts, [] => match T ty with
      | some ti => match ti.k with
        | .slice e => match T e with
          | some te => bif !(Nat.ble (len * te.size) 16777216) || Nat.beq te.size 0 then False else match buildArr te.size (parts.toList.map fun q => (q.1, evG [] t q.2)) (zeros len te.zero) with
            | some segs => newD t h o.dst (.mem e (packF ti.flat te len segs) 1 0) (.sl n 1 0 len (some len) 0) (readsOf o []) n K
            | none => False
          | none => False
        | _ => False
      | none => False
    | .store ty x v, [] => match T ty, evG [] t x with
      | some ti, .ptr k ver off ix => match h.getD k .fresh with
        | .mem ty' segs ver' gr => force (evG [] t v) fun v => bif okCells v && wdB (segsOf v) ti.size then
            (match gr with
            | 0 => updK segs off ix (segsOf v) fun segs' => setH h k (.mem ty' segs' ver' gr) fun h' => setD t o.dst .dead fun t' => K ⟨o.dst, .dead, readsOf o [], [k], [(k, .mem ty' segs' ver' gr)]⟩ n ⟨t', h'⟩
            | _ + 1 => Ob (ver = ver') (updK segs off ix (segsOf v) fun segs' => setH h k (.mem ty' segs' ver' gr) fun h' => setD t o.dst .dead fun t' => K ⟨o.dst, .dead, readsOf o [], [k], [(k, .mem ty' segs' ver' gr)]⟩ n ⟨t', h'⟩)) else False
        | _ => False
      | _, _ => OpD P ops o n K ⟨t, h⟩
    | op, p => match pureR T h (evG p t) op with
      | .v x => putD t h o.dst (wrapG p o.dst x) (readsOf o p) (loadBlk (evG p t) op) n K
      | @R.ob pr _ x => Ob (gB t p = true → pr) (putD t h o.dst (wrapG p o.dst x) (readsOf o p) (loadBlk (evG p t) op) n K)
      | .no => OpD P ops o n K ⟨t, h⟩

def ancB (acc : List Nat) : List Nat → Nat
  | [] => 0
  | p :: r => (1 <<< p ||| acc.getD p 0) ||| ancB acc r
def ancs : List Oper → List Nat → List Nat
  | [], acc => acc
  | o :: r, acc => ancs r (acc ++ [ancB acc (par o)])
def lexOk : List Oper → Nat → Bool
  | [], _ => true
  | o :: r, i => (par o).all (fun p => Nat.blt p i) && lexOk r (i + 1)
def chkJ (a : Nat) (f : Eff) : List Eff → Nat → Bool
  | [], _ => true
  | e :: r, i => (!clash e f || Nat.testBit a i) && !hasO f.d (hang e.v) && chkJ a f r (i + 1)
def chkAll (as : List Nat) : List Eff → List Eff → Nat → Bool
  | [], _, _ => true
  | f :: r, pre, j => chkJ (as.getD j 0) f pre 0 && chkAll as r (pre ++ [f]) (j + 1)
def chk (ops : Array Oper) (es : List Eff) : Bool := lexOk ops.toList 0 && chkAll (ancs ops.toList []) es [] 0

def dreg (P : Program) (T : Tb) (ops : Array Oper) : List Oper → Nat → List Eff → (St → Prop) → St → Prop
  | [], _, acc, K, S => Ob (chk ops acc.reverse = true) (K S)
  | o :: r, n, acc, K, S => dop P T ops o n (fun e n' S' => dreg P T ops r n' (e :: acc) K S') S

def meetsG (ds : List Nat) : List (Nat × Bool) → Bool
  | [] => false
  | (j, _) :: r => hasN j ds || meetsG ds r
def clrG (ds : List Nat) (x : SV) : SV :=
  match x with
  | .grd q y => bif meetsG ds q then .dead else .grd q y
  | x => x
def forceC (ds : List Nat) (x : SV) (K : SV → Prop) : Prop :=
  match x with
  | .grd q y => bif meetsG ds q then K .dead else K (.grd q y)
  | x => K x
def clrK (ds : List Nat) : List SV → (List SV → Prop) → Prop
  | [], K => K []
  | x :: r, K => forceC ds x fun x => clrK ds r fun l => K (x :: l)
def dstsOf : List Oper → List Nat
  | [] => []
  | o :: r => match o.dst with | some d => d :: dstsOf r | none => dstsOf r
/-- A region that draws its order, with so many places kept for new blocks. -/
def dstart (P : Program) (T : Tb) (ops : Array Oper) (n : Nat) (K : St → Prop) (S : St) : Prop :=
  match S with
  | ⟨t, h⟩ => clrK (dstsOf ops.toList) t fun t' => appH h (List.replicate n .fresh) fun h' => dreg P T ops ops.toList h.length [] K ⟨t', h'⟩

/-! ### Soundness -/
theorem setP_eq : ∀ (l : List SV) (n : Nat) (v : SV) (K : List SV → Prop), setP l n v K = K (l.set n v)
  | [], n, v, K => by cases n <;> rfl
  | x :: l, 0, v, K => rfl
  | x :: l, n + 1, v, K => by simp only [setP, setP_eq l n v, List.set_cons_succ]
theorem setD_eq (t : List SV) (d : Option Nat) (v : SV) (K : List SV → Prop) : setD t d v K = K (setT t d v) := by
  cases d <;> simp only [setD, setT, setP_eq]
theorem mem_tmpsOf {n : Nat} : ∀ {l : List Operand}, .tmp n ∈ l → n ∈ tmpsOf l
  | [], h => by simp at h
  | x :: r, h => by
    rcases List.mem_cons.1 h with rfl | h
    · simp [tmpsOf]
    · have := mem_tmpsOf h
      cases x <;> simp [tmpsOf, this]
/-- Two rows of slots that are alike at these. -/
def Like (rs : List Nat) (t t' : List SV) : Prop := ∀ n ∈ rs, t'[n]? = t[n]?
theorem Like.getD {rs t t'} (h : Like rs t t') {n : Nat} (hn : n ∈ rs) : t'.getD n .dead = t.getD n .dead := by
  simp only [List.getD_eq_getElem?_getD, h n hn]
theorem guardOf_like {ops : Array Oper} {o : Oper} {t t' : List SV} {p : List (Nat × Bool)} (h : guardOf ops t o = some p) (hl : Like (p.map (·.1)) t t') : guardOf ops t' o = some p := by
  unfold guardOf at h ⊢
  cases ho : o.guard with
  | none => rw [ho] at h; exact h
  | some jw =>
    obtain ⟨j, want⟩ := jw
    rw [ho] at h
    simp only at h ⊢
    cases hd : (ops[j]?).bind (·.dst) with
    | none => rw [hd] at h; simp at h
    | some d =>
      rw [hd] at h
      simp only at h ⊢
      have key : d ∈ p.map (·.1) := by
        cases ht : t.getD d .dead <;> rw [ht] at h <;> try (simp at h; done)
        · simp at h; subst h; simp
        · rename_i q y
          cases y <;> simp at h
          subst h; simp
      rw [hl.getD key]; exact h
theorem evO_like {rs t t'} (h : Like rs t t') {x : Operand} (hx : ∀ n, x = .tmp n → n ∈ rs) : evO t' x = evO t x := by
  cases x with
  | tmp n => exact h.getD (hx n rfl)
  | _ => rfl
theorem gB_like {t t'} : ∀ {p : List (Nat × Bool)}, Like (p.map (·.1)) t t' → gB t' p = gB t p
  | [], _ => rfl
  | (d, w) :: r, h => by
    simp only [gB]
    rw [Like.getD h (by simp), gB_like (p := r) (fun n hn => h n (by simp only [List.map_cons, List.mem_cons]; exact .inr hn))]
theorem readsOf_op {o : Oper} {p : List (Nat × Bool)} {t t' : List SV} (h : Like (readsOf o p) t t') : ∀ x ∈ o.op.operands.toList, evO t' x = evO t x :=
  fun x hx => evO_like h fun n e => List.mem_append_left _ (mem_tmpsOf (e ▸ hx))
theorem readsOf_g {o : Oper} {p : List (Nat × Bool)} {t t' : List SV} (h : Like (readsOf o p) t t') : Like (p.map (·.1)) t t' := fun n hn => h n (List.mem_append_right _ hn)
theorem evG_of {p : List (Nat × Bool)} {t t' : List SV} {x : Operand} (h : evO t' x = evO t x) : evG p t' x = evG p t x := by simp only [evG, h]
theorem pickS_of {p : List (Nat × Bool)} {t t' : List SV} {c a b : Operand} (hc : evO t' c = evO t c) (ha : evO t' a = evO t a) (hb : evO t' b = evO t b) : pickS p t' c a b = pickS p t c a b := by
  simp only [pickS, evG, pickG, hc, ha, hb]
theorem pureR_of {T : Tb} {h h' : List SB} {e e' : Operand → SV} {op : Op} (he : ∀ x ∈ op.operands.toList, e' x = e x) (hh : ∀ k ∈ loadBlk e op, h'.getD k .fresh = h.getD k .fresh) : pureR T h' e' op = pureR T h e op := by
  cases op <;> simp only [pureR] <;> try rfl
  all_goals simp only [Op.operands] at he
  case load t x =>
    have h1 : e' x = e x := he x (by simp)
    rw [h1]
    unfold loadR
    cases T t with
    | none => rfl
    | some ti =>
      simp only
      cases hx : e x <;> try rfl
      simp only
      rw [hh _ (by simp [loadBlk, hx])]
  case build t ps =>
    congr 1
    apply List.map_congr_left
    intro q hq
    rw [he q.2 (by simp; exact ⟨q.1, by simpa using hq⟩)]
  case makeFunc f first caps =>
    cases f <;> try rfl
    simp only
    cases hf : first.toList with
    | cons o1 ol =>
      cases ol with
      | cons => rfl
      | nil => simp only; rw [he o1 (by simp; exact .inl (by have : o1 ∈ first.toList := by rw [hf]; simp
                                                             simpa using this))]
    | nil =>
      simp only
      have : caps.toList.map e' = caps.toList.map e := List.map_congr_left fun x hx => he x (by simp; exact .inr (by simpa using hx))
      rw [this]
  case call c =>
    have hm : ∀ x ∈ c.args.toList, e' x = e x := fun x hx => he x (by simp [Call.operands]; exact .inr (by simpa using hx))
    cases c.callee <;> try rfl
    rename_i b
    cases b <;> try rfl
    · simp only
      cases hl : c.args.toList with
      | nil => rfl
      | cons x r =>
        cases r with
        | cons => rfl
        | nil =>
          rw [hl] at hm
          have h1 := hm x (by simp)
          rcases c.argTypes.toList with _ | ⟨t, _ | ⟨t2, r⟩⟩ <;> first | rfl | (show lenR T t (e' x) = lenR T t (e x); rw [h1])
    all_goals
      have : c.args.toList.map e' = c.args.toList.map e := List.map_congr_left hm
      simp only [this]
  case slice t x lo hi mx =>
    have h1 : e' x = e x := he x (by simp)
    have hlo : ∀ y, lo = some y → e' y = e y := fun y hy => he y (by simp [hy])
    have hhi : ∀ y, hi = some y → e' y = e y := fun y hy => he y (by simp [hy])
    have hmo : ∀ q : Option Operand, (∀ y, q = some y → e' y = e y) → q.map e' = q.map e ∧ liveO e' q = liveO e q := fun q hq => by
      cases q with
      | none => exact ⟨rfl, rfl⟩
      | some y => simp [liveO, hq y rfl]
    cases mx with
    | some mx => simp only [h1, (hmo lo hlo).1, (hmo hi hhi).1, (hmo lo hlo).2, (hmo hi hhi).2, he mx (by simp)]
    | none =>
      have hv : ∀ l g, sliceV T h' t (e x) l g = sliceV T h t (e x) l g := fun l g => by
        unfold sliceV
        split
        · rename_i k ver off len dc hx
          unfold sliceH
          rw [hh k (by simp [loadBlk, hx])]
        · rfl
      simp only [h1, (hmo lo hlo).1, (hmo hi hhi).1, (hmo lo hlo).2, (hmo hi hhi).2, hv]
  case unOp u t x =>
    have h1 : e' x = e x := he x (by simp)
    cases u <;> first | rfl | (simp only [h1]; done) | (rw [h1])
  case binOp op t x y z => rw [he x (by simp), he y (by simp)]
  case indexAddr t x ix => rw [he x (by simp), he ix (by simp)]
  case index t x ix => rw [he x (by simp), he ix (by simp)]
  all_goals rw [he _ (by simp)]
end SX
end Go.Proofs.YthkedcneehdinaaGreatDoor

/- SX: regions whose order is drawn: soundness of the executor. -/
set_option linter.unusedVariables false
set_option linter.unusedSimpArgs false
namespace Go.Proofs.YthkedcneehdinaaGreatDoor
namespace SX
open Go

section
variable {P : Program} {T : Tb} {ops : Array Oper} {o : Oper}
theorem putF_clean {t : List SV} {d : Option Nat} {v : SV} (h : ∀ d', d = some d' → killL d' t = t) : putF t d v = setT t d v := by
  cases d with
  | none => rfl
  | some d =>
    have := h d rfl
    unfold killL at this
    simp only [putF, setF, setT, this]
theorem yld_value {S : St} {p : List (Nat × Bool)} (hg : guardOf ops S.t o = some p) {x : SV} {rs rb : List Nat} (hrs : ∀ n ∈ p.map (·.1), n ∈ rs)
    (hv : ∀ S' : St, Like rs S.t S'.t → (∀ k ∈ rb, S'.h[k]? = S.h[k]?) → ∀ C E m a w, Rep E C m S' a w → GV S'.t p true → ∃ v, (execOp a.eval o).run P w = .ok (.value v) w ∧ (x = .dead ∨ Gd m (vers S'.h) x ∧ v = den E x)) :
    Yld P ops o ⟨o.dst, wrapG p o.dst x, rs, rb, []⟩ S := by
  refine ⟨fun S' _ _ h1 h2 h3 C E m a w hr => ?_⟩
  have hl : Like rs S.t S'.t := h1
  have h := (OpC.value (P := P) (T := fun _ => none) (ops := ops) (o := o) (K := fun S'' => S'' = ⟨putF S'.t o.dst (wrapG p o.dst x), S'.h⟩) (guardOf_like hg fun n hn => hl n (hrs n hn)) (fun E C => hv S' hl h2 C E) rfl).out C E m a w hr
  unfold opW at h ⊢
  have next : ∀ a' w', (∃ E' m' S'', S'' = (⟨putF S'.t o.dst (wrapG p o.dst x), S'.h⟩ : St) ∧ Ext E m (vers S'.h) E' m' (vers S''.h) ∧ Rep E' C m' S'' a' w') →
      ∃ E' m', Ext E m (vers S'.h) E' m' (vers ((⟨o.dst, wrapG p o.dst x, rs, rb, []⟩ : Eff).put S').h) ∧ Rep E' C m' ((⟨o.dst, wrapG p o.dst x, rs, rb, []⟩ : Eff).put S') a' w' := by
    rintro a' w' ⟨E', m', S'', rfl, k1, k2⟩
    rw [putF_clean h3] at k2
    exact ⟨E', m', k1, k2⟩
  split
  · rename_i hw
    rw [if_pos hw] at h
    exact wp_onlyN h next
  · rename_i hw
    rw [if_neg hw] at h
    exact next _ _ h
theorem yld_makes {S : St} (hg : guardOf ops S.t o = some []) {B : SB} {mk : Nat → SV} {n : Nat} {rs : List Nat} (hn : S.h[n]? = some .fresh) (hv : ∀ S' : St, Like rs S.t S'.t → Makes P o S' B mk) : Yld P ops o ⟨o.dst, mk n, rs, [n], [(n, B)]⟩ S := by
  refine ⟨fun S' _ _ h1 h2 h3 C E m a w hr => ?_⟩
  have hm := hv S' h1
  have hn' : S'.h[n]? = some .fresh := by rw [h2 n (by simp)]; exact hn
  obtain ⟨ob, v, hrun, hh, hval⟩ := hm.run C E m a w hr
  have hgn := guard_none hg
  obtain ⟨E', e1, e2, e3⟩ := hr.rel.allocAt hn' B ob hm.lim (fun E' V' => hh n E' V')
  unfold opW
  rw [show Region.wanted o (yielded ops a.tmps) = true by simp [Region.wanted, hgn], if_pos rfl]
  simp only [Oper.wp, hrun, Oper.upon]
  refine ⟨E', m, e2, ?_⟩
  have hlen : n < S'.h.length := (List.getElem?_eq_some_iff.1 hn').1
  have hg1 : Gd m (vers (S'.h.set n B)) (mk n) := hm.ok _ _ _ (Vle_iff.2 ⟨B, by simp [List.getElem?_set, hlen], by rw [hm.lim]; omega⟩)
  have := (hr.up e2 e3).put o.dst (x := mk n) (v := v) fun d hd => by rw [hval n E' e1]; exact SlotOk_live hg1
  rw [putF_clean h3] at this
  exact this
theorem updU_ex {u : SV} {x : Ix} {r : List Ix} {new : List SV} {rec : List SV → (List SV → Prop) → Prop} {K : SV → Prop} (hrec : ∀ e K, rec e K → ∃ s, K s ∧ ∀ K', K' s → rec e K') (h : updU u x r new rec K) : ∃ s, K s ∧ ∀ K', K' s → updU u x r new rec K' := by
  cases u <;> simp only [updU] at h ⊢ <;> try exact h.elim
  · rename_i k n xs
    split at h <;> try exact h.elim
    rename_i k' v
    cases hc : (k == k' && Nat.beq x.sz 1 && Nat.beq x.sub 0) <;> rw [hc] at h <;> simp only [cond_true, cond_false] at h ⊢ <;> try exact h.elim
    cases hx : x.c <;> rw [hx] at h <;> simp only [cond_true, cond_false] at h ⊢
    · exact ⟨_, h.k, fun K' hK => ⟨h.ob, hK⟩⟩
    · cases hb : Nat.blt x.i n <;> rw [hb] at h <;> simp only [cond_true, cond_false] at h ⊢
      · exact ⟨_, h, fun K' hK => hK⟩
  · rename_i N α d n enc xs
    cases hc : Nat.beq x.sz n <;> rw [hc] at h <;> simp only [cond_true, cond_false] at h ⊢ <;> try exact h.elim
    cases hx : x.c <;> rw [hx] at h <;> simp only [cond_true, cond_false] at h ⊢
    · obtain ⟨e, ⟨y, hy, hK⟩, hr⟩ := hrec _ _ h.k
      exact ⟨_, hK, fun K' hK' => ⟨h.ob, hr _ ⟨y, hy, hK'⟩⟩⟩
    · cases hb : Nat.blt x.i N <;> rw [hb] at h <;> simp only [cond_true, cond_false] at h ⊢ <;> try exact h.elim
      obtain ⟨e, ⟨y, hy, hK⟩, hr⟩ := hrec _ _ h
      exact ⟨_, hK, fun K' hK' => hr _ ⟨y, hy, hK'⟩⟩
theorem updK_ex {new : List SV} : ∀ (ix : List Ix) (segs : List SV) (off : Nat) (K : List SV → Prop), updK segs off ix new K → ∃ s, K s ∧ ∀ K', K' s → updK segs off ix new K'
  | [], segs, off, K, h => by
    simp only [updK] at h ⊢
    cases hs : spliceC segs off new with
    | none => rw [hs] at h; exact h.elim
    | some s => rw [hs] at h; exact ⟨s, h, fun K' hK => hK⟩
  | x :: r, segs, off, K, h => by
    simp only [updK] at h ⊢
    cases ht : takeC segs off with
    | none => rw [ht] at h; exact h.elim
    | some pre =>
      cases hd : dropC segs off with
      | none => rw [ht, hd] at h; exact h.elim
      | some l =>
        cases l with
        | nil => rw [ht, hd] at h; exact h.elim
        | cons u post =>
          rw [ht, hd] at h
          simp only at h ⊢
          obtain ⟨s, h1, h2⟩ := updU_ex (fun e K hk => updK_ex r e x.sub K hk) h
          exact ⟨_, h1, fun K' hK => h2 _ hK⟩
theorem yld_store (hT : TabOk P T) {S : St} (hg : guardOf ops S.t o = some []) {ty : TypeId} {x v : Operand} (hop : o.op = .store ty x v) {ti : TI} (ht : T ty = some ti) {k ver off : Nat} {ix : List Ix} (hx : evG [] S.t x = .ptr k ver off ix)
    {ty' : TypeId} {segs segs' : List SV} {ver' : Nat} {gr : Nat} (hb : S.h.getD k .fresh = .mem ty' segs ver' gr) (hc : (okCells (evG [] S.t v) && Nat.beq (wdL (segsOf (evG [] S.t v))) ti.size) = true) (hgr : gr ≠ 0 → ver = ver')
    (hu : ∀ K', K' segs' → updK segs off ix (segsOf (evG [] S.t v)) K') : Yld P ops o ⟨o.dst, .dead, readsOf o [], [k], [(k, .mem ty' segs' ver' gr)]⟩ S := by
  refine ⟨fun S' _ _ h1 h2 h3 C E m a w hr => ?_⟩
  have hl : Like (readsOf o []) S.t S'.t := h1
  have hops := readsOf_op hl
  rw [hop] at hops
  have ex : evG [] S'.t x = .ptr k ver off ix := by rw [evG_of (hops x (by simp [Op.operands])), hx]
  have ev : evG [] S'.t v = evG [] S.t v := evG_of (hops v (by simp [Op.operands]))
  have eb : S'.h.getD k .fresh = .mem ty' segs ver' gr := by simp only [List.getD_eq_getElem?_getD, h2 k (by simp)]; simpa only [List.getD_eq_getElem?_getD] using hb
  have hsop : sop P T ops o (fun S'' => S'' = ⟨putF S'.t o.dst .dead, S'.h.set k (.mem ty' segs' ver' gr)⟩) S' := by
    obtain ⟨t', h'⟩ := S'
    unfold sop
    simp only [guardOf_like hg (readsOf_g hl), hop, ht, ex, eb, force_eq, ev, wdB_eq, hc, cond_true, setH_eq, putK_eq]
    cases gr with
    | zero => exact hu _ rfl
    | succ gr => exact ⟨hgr (by omega), hu _ rfl⟩
  have h := (sop_sound hT hsop).out C E m a w hr
  unfold opW at h ⊢
  have next : ∀ a' w', (∃ E' m' S'', S'' = (⟨putF S'.t o.dst .dead, S'.h.set k (.mem ty' segs' ver' gr)⟩ : St) ∧ Ext E m (vers S'.h) E' m' (vers S''.h) ∧ Rep E' C m' S'' a' w') →
      ∃ E' m', Ext E m (vers S'.h) E' m' (vers ((⟨o.dst, .dead, readsOf o [], [k], [(k, .mem ty' segs' ver' gr)]⟩ : Eff).put S').h) ∧ Rep E' C m' ((⟨o.dst, .dead, readsOf o [], [k], [(k, .mem ty' segs' ver' gr)]⟩ : Eff).put S') a' w' := by
    rintro a' w' ⟨E', m', S'', rfl, k1, k2⟩
    rw [putF_clean h3] at k2
    exact ⟨E', m', k1, k2⟩
  split
  · rename_i hw
    rw [if_pos hw] at h
    exact wp_onlyN h next
  · rename_i hw
    rw [if_neg hw] at h
    exact next _ _ h
theorem newD_ok {S : St} {B : SB} {x : SV} {rs : List Nat} {n : Nat} {K : Eff → Nat → St → Prop} (h : newD S.t S.h o.dst B x rs n K) : S.h[n]? = some .fresh ∧ K ⟨o.dst, x, rs, [n], [(n, B)]⟩ (n + 1) ((⟨o.dst, x, rs, [n], [(n, B)]⟩ : Eff).put S) := by
  unfold newD at h
  cases hf : S.h.getD n (.gone 0) <;> rw [hf] at h <;> try exact h.elim
  simp only [setH_eq, setD_eq] at h
  refine ⟨?_, h⟩
  simp only [List.getD_eq_getElem?_getD] at hf
  cases hs : S.h[n]? with
  | none => rw [hs] at hf; simp at hf
  | some y => rw [hs] at hf; simp at hf; rw [hf]
theorem dop_sound (hT : TabOk P T) {n : Nat} {K : Eff → Nat → St → Prop} {S : St} (h : dop P T ops o n K S) : OpD P ops o n K S := by
  obtain ⟨t, hh⟩ := S
  unfold dop at h
  simp only at h
  cases hg : guardOf ops t o with
  | none => rw [hg] at h; exact h
  | some p =>
    rw [hg] at h
    simp only at h
    have val : ∀ {x : SV} {rb : List Nat}, putD t hh o.dst (wrapG p o.dst x) (readsOf o p) rb n K →
        (∀ S' : St, Like (readsOf o p) t S'.t → (∀ k ∈ rb, S'.h[k]? = hh[k]?) → ∀ C E m a w, Rep E C m S' a w → GV S'.t p true → ∃ v, (execOp a.eval o).run P w = .ok (.value v) w ∧ (x = .dead ∨ Gd m (vers S'.h) x ∧ v = den E x)) →
        OpD P ops o n K ⟨t, hh⟩ := by
      intro x rb hk hv
      unfold putD at hk
      simp only [force_eq, setD_eq] at hk
      refine ⟨⟨⟨o.dst, wrapG p o.dst x, hang (wrapG p o.dst x) ++ readsOf o p, rb, []⟩, n, rfl, yld_value hg (fun n hn => List.mem_append_right _ (List.mem_append_right _ hn)) (fun S' hl => hv S' fun n hn => hl n (List.mem_append_right _ hn)), fun n hn => List.mem_append_left _ hn, fun k hk => by simp [wN] at hk, hk⟩⟩
    split at h
    · -- pick
      rename_i p' c x y hop
      split at h
      · rename_i r hr
        refine val h (fun S' hl _ C E m a w hrep hp => ?_)
        have hops := readsOf_op hl
        rw [hop] at hops
        have hr' := (pickS_of (hops c (by simp [Op.operands])) (hops x (by simp [Op.operands])) (hops y (by simp [Op.operands]))).trans hr
        obtain ⟨b, h1, h2, h3⟩ := pickS_ok hrep hp hr'
        refine ⟨den E r, ?_, .inr ⟨h3, rfl⟩⟩
        simp only [execOp, hop, h1, asBool, Sem.run_bind, Sem.run_pure, Result.andThen_ok]
        rw [← h2]
      · exact h
    · -- box
      rename_i ty x hop
      rw [force_eq] at h
      cases hc : okCells (evG [] t x) with
      | false => simp [hc] at h
      | true =>
        simp only [hc, cond_true] at h
        obtain ⟨h1, h2⟩ := newD_ok (S := ⟨t, hh⟩) h
        refine ⟨⟨_, _, rfl, yld_makes (mk := fun k => .ptr k 1 0 []) hg h1 (fun S' hl => ?_), fun n hn => by simp [hang] at hn, fun k hk => by simpa [wN] using hk, h2⟩⟩
        have hops := readsOf_op hl
        rw [hop] at hops
        have e : evG [] S'.t x = evG [] t x := evG_of (hops x (by simp [Op.operands]))
        rw [← e]
        exact box_makes hop (by rw [e]; exact hc)
    · -- alloc
      rename_i ty hop
      cases ht : T ty with
      | none => simp [ht] at h
      | some ti =>
        simp only [ht] at h
        obtain ⟨h1, h2⟩ := newD_ok (S := ⟨t, hh⟩) h
        exact ⟨⟨_, _, rfl, yld_makes (mk := fun k => .ptr k 1 0 []) hg h1 (fun S' hl => alloc_makes hT hop ht), fun n hn => by simp [hang] at hn, fun k hk => by simpa [wN] using hk, h2⟩⟩
    · -- buildSlice
      rename_i ty len parts hop
      cases ht : T ty with
      | none => simp [ht] at h
      | some ti =>
        simp only [ht] at h
        cases hk : ti.k <;> rw [hk] at h <;> simp only at h <;> try exact h.elim
        rename_i e
        cases hte : T e with
        | none => simp [hte] at h
        | some te =>
          simp only [hte] at h
          cases hbn : (!(Nat.ble (len * te.size) 16777216) || Nat.beq te.size 0) with
          | true => rw [hbn] at h; exact h.elim
          | false =>
            rw [hbn] at h
            simp only [cond_false] at h
            cases hb : buildArr te.size (parts.toList.map fun q => (q.1, evG [] t q.2)) (zeros len te.zero) with
            | none => simp [hb] at h
            | some segs =>
              simp only [hb] at h
              obtain ⟨h1, h2⟩ := newD_ok (S := ⟨t, hh⟩) h
              refine ⟨⟨_, _, rfl, yld_makes (mk := fun k => .sl k 1 0 len (some len) 0) hg h1 (fun S' hl => ?_), fun n hn => by simp [hang] at hn, fun k hk => by simpa [wN] using hk, h2⟩⟩
              have hops := readsOf_op hl
              rw [hop] at hops
              refine buildSlice_makes hT hop ht hk hte hbn ?_
              rw [← hb]
              congr 1
              apply List.map_congr_left
              intro q hq
              rw [evG_of (hops q.2 (by simp [Op.operands]; exact ⟨q.1, by simpa using hq⟩))]
    · -- store
      rename_i ty x v hop
      cases ht : T ty with
      | none => rw [ht] at h; exact h
      | some ti =>
        rw [ht] at h
        cases hx : evG [] t x <;> rw [hx] at h <;> simp only at h <;> try exact h
        rename_i k ver off ix
        cases hb : hh.getD k .fresh <;> rw [hb] at h <;> simp only at h <;> try exact h.elim
        rename_i ty' segs ver' gr
        rw [force_eq, wdB_eq] at h
        cases hc : (okCells (evG [] t v) && Nat.beq (wdL (segsOf (evG [] t v))) ti.size) with
        | false => rw [hc] at h; exact h.elim
        | true =>
          rw [hc] at h
          simp only [cond_true] at h
          have key : (gr ≠ 0 → ver = ver') ∧ updK segs off ix (segsOf (evG [] t v)) (fun segs' => K ⟨o.dst, .dead, readsOf o [], [k], [(k, .mem ty' segs' ver' gr)]⟩ n ⟨setT t o.dst .dead, hh.set k (.mem ty' segs' ver' gr)⟩) := by
            cases gr with
            | succ gr => exact ⟨fun _ => h.ob, by simpa only [setH_eq, setD_eq] using h.k⟩
            | zero => simp only [setH_eq, setD_eq] at h; exact ⟨(fun e => absurd rfl e), h⟩
          obtain ⟨segs', k1, k2⟩ := updK_ex ix segs off _ key.2
          exact ⟨⟨_, _, rfl, yld_store hT (S := ⟨t, hh⟩) hg hop ht hx hb hc key.1 k2, fun n hn => by simp [hang] at hn, fun k hk => by simpa [wN] using hk, k1⟩⟩
    · -- the pure ones
      rename_i p op' p2 hn1 hn2 hn3 hn4 hn5
      have hpu : ∀ S' : St, Like (readsOf o p) t S'.t → (∀ k ∈ loadBlk (evG p t) o.op, S'.h[k]? = hh[k]?) → pureR T S'.h (evG p S'.t) o.op = pureR T hh (evG p t) o.op := by
        intro S' hl hb
        refine pureR_of (fun x hx => evG_of (readsOf_op hl x hx)) fun k hk => ?_
        simp only [List.getD_eq_getElem?_getD]
        rw [hb k hk]
      cases hp : pureR T hh (evG p t) o.op with
      | no => rw [hp] at h; exact h
      | v x => rw [hp] at h; exact val h (fun S' hl hb C E m a w hr hgv => pureR_ok hT hr.rel (hr.evs hgv) o (by rw [hpu S' hl hb, hp]; simp))
      | ob pr x => rw [hp] at h; exact val h.k (fun S' hl hb C E m a w hr hgv => pureR_ok hT hr.rel (hr.evs hgv) o (by rw [hpu S' hl hb, hp]; simp; exact h.ob (by rw [← gB_like (readsOf_g hl)]; exact GV_gB hgv)))
end
end SX
end Go.Proofs.YthkedcneehdinaaGreatDoor

/- SX: regions whose order is drawn: the rule. -/
set_option linter.unusedVariables false
set_option linter.unusedSimpArgs false
namespace Go.Proofs.YthkedcneehdinaaGreatDoor
namespace SX
open Go

theorem ancB_spec {acc : List Nat} {i : Nat} : ∀ {ps : List Nat}, (ancB acc ps).testBit i = true → ∃ p ∈ ps, i = p ∨ (acc.getD p 0).testBit i = true
  | [], h => by simp [ancB] at h
  | p :: r, h => by
    simp only [ancB, Nat.testBit_or, Bool.or_eq_true] at h
    rcases h with (h | h) | h
    · refine ⟨p, by simp, .inl ?_⟩
      rw [Nat.one_shiftLeft, Nat.testBit_two_pow] at h
      have h' : p = i := by simpa using h
      exact h'.symm
    · exact ⟨p, by simp, .inr h⟩
    · obtain ⟨q, hq, h⟩ := ancB_spec h
      exact ⟨q, List.mem_cons_of_mem _ hq, h⟩
theorem ancs_spec {ops : Array Oper} : ∀ (l : List Oper) (acc : List Nat), (∀ x o, l[x]? = some o → ops[acc.length + x]? = some o) → (∀ j i, (acc.getD j 0).testBit i = true → AncR ops i j) → ∀ j i, ((ancs l acc).getD j 0).testBit i = true → AncR ops i j
  | [], acc, _, hg => hg
  | o :: r, acc, hl, hg => by
    simp only [ancs]
    refine ancs_spec r (acc ++ [ancB acc (par o)]) (fun x o' hx => by have := hl (x + 1) o' (by simpa using hx); simpa [Nat.add_assoc, Nat.add_comm 1 x] using this) (fun j i hb => ?_)
    by_cases hj : j < acc.length
    · simp only [List.getD_eq_getElem?_getD, List.getElem?_append_left hj] at hb
      exact hg j i (by simpa only [List.getD_eq_getElem?_getD] using hb)
    · by_cases hj' : j = acc.length
      · subst hj'
        simp only [List.getD_eq_getElem?_getD, List.getElem?_concat_length, Option.getD_some] at hb
        obtain ⟨p, hp, h⟩ := ancB_spec hb
        have ho := hl 0 o rfl
        intro L hc hpar
        have hLp := hpar o (by simpa using ho) p hp
        rcases h with rfl | h
        · exact hLp
        · exact hg p i h L hc (fun o' ho' q hq => hc p o' hLp ho' q hq)
      · have : (acc ++ [ancB acc (par o)])[j]? = none := List.getElem?_eq_none (by simp; omega)
        simp [List.getD_eq_getElem?_getD, this] at hb
theorem lexOk_spec : ∀ {l : List Oper} {i : Nat}, lexOk l i = true → ∀ x o, l[x]? = some o → ∀ p ∈ par o, p < i + x
  | [], i, _, x, o, hx => by simp at hx
  | o :: r, i, h, x, o', hx => by
    simp only [lexOk, Bool.and_eq_true] at h
    intro p hp
    cases x with
    | zero =>
      simp at hx; subst hx
      have := List.all_eq_true.1 h.1 p hp
      simp [Nat.blt] at this
      omega
    | succ x =>
      have := lexOk_spec h.2 x o' (by simpa using hx) p hp
      omega
theorem chkJ_spec {a : Nat} {f : Eff} : ∀ {l : List Eff} {i : Nat}, chkJ a f l i = true → ∀ x e, l[x]? = some e → (clash e f = true → a.testBit (i + x) = true) ∧ hasO f.d (hang e.v) = false
  | [], i, _, x, e, hx => by simp at hx
  | g :: r, i, h, x, e, hx => by
    simp only [chkJ, Bool.and_eq_true, Bool.or_eq_true, Bool.not_eq_true'] at h
    cases x with
    | zero =>
      simp at hx; subst hx
      refine ⟨fun hc => ?_, h.1.2⟩
      rcases h.1.1 with h1 | h1
      · rw [hc] at h1; cases h1
      · exact h1
    | succ x =>
      have := chkJ_spec h.2 x e (by simpa using hx)
      rwa [show i + 1 + x = i + (x + 1) by omega] at this
theorem chkAll_spec {as : List Nat} : ∀ {rest pre : List Eff}, chkAll as rest pre pre.length = true → ∀ a b e f, a < b → pre.length ≤ b → (pre ++ rest)[a]? = some e → (pre ++ rest)[b]? = some f → (clash e f = true → (as.getD b 0).testBit a = true) ∧ hasO f.d (hang e.v) = false
  | [], pre, _, a, b, e, f, hab, hb, he, hf => by
    rw [List.append_nil] at hf
    have := (List.getElem?_eq_some_iff.1 hf).1
    omega
  | g :: r, pre, h, a, b, e, f, hab, hb, he, hf => by
    simp only [chkAll, Bool.and_eq_true] at h
    by_cases hbp : b = pre.length
    · subst hbp
      rw [List.getElem?_append_right (Nat.le_refl _)] at hf
      simp at hf; subst hf
      rw [List.getElem?_append_left hab] at he
      have := chkJ_spec h.1 a e he
      simpa using this
    · have h2 : chkAll as r (pre ++ [g]) (pre ++ [g]).length = true := by simpa using h.2
      exact chkAll_spec h2 a b e f hab (by simp; omega) (by simpa using he) (by simpa using hf)

theorem stL_append : ∀ (es fs : List Eff) (i : Nat) (L : Nat → Bool) (S : St), stL (es ++ fs) i L S = stL fs (i + es.length) L (stL es i L S)
  | [], fs, i, L, S => by simp [stL]
  | e :: r, fs, i, L, S => by
    simp only [List.cons_append, stL, List.length_cons]
    rw [stL_append r fs (i + 1) L _, show i + 1 + r.length = i + (r.length + 1) by omega]
structure Pre (P : Program) (ops : Array Oper) (S0 : St) (es : List Eff) (S : St) : Prop where
  st : S = stL es 0 (fun _ => true) S0
  each : ∀ i o e, ops[i]? = some o → es[i]? = some e → e.d = o.dst ∧ Yld P ops o e (stL es 0 (fun j => decide (j < i)) S0) ∧ (∀ n ∈ hang e.v, n ∈ e.rs) ∧ (∀ k ∈ wN e.wb, k ∈ e.rb)
theorem dreg_sound {P : Program} {T : Tb} (hT : TabOk P T) {ops : Array Oper} {S0 : St} (hcl : ∀ (i : Nat) (o : Oper) (d : Nat), ops[i]? = some o → o.dst = some d → killL d S0.t = S0.t) :
    ∀ (l : List Oper) (n : Nat) (acc : List Eff) (K : St → Prop) (S : St), (∀ x : Nat, l[x]? = ops[acc.length + x]?) → acc.length + l.length = ops.size → Pre P ops S0 acc.reverse S → dreg P T ops l n acc K S → ∃ es, Plan P ops es S0 ∧ K (stL es 0 (fun _ => true) S0)
  | [], n, acc, K, S, hl, hsz, hp, h => by
    have hlen : acc.length = ops.size := by simpa using hsz
    refine ⟨acc.reverse, ?_, by rw [← hp.st]; exact h.k⟩
    have hck := h.ob
    simp only [chk, Bool.and_eq_true] at hck
    have hca := chkAll_spec (pre := []) hck.2
    have has := ancs_spec (ops := ops) ops.toList [] (fun x o hx => by simpa using hx) (fun j i hb => by simp at hb)
    have get : ∀ i e, acc.reverse[i]? = some e → ∃ o, ops[i]? = some o := fun i e he => by
      have := (List.getElem?_eq_some_iff.1 he).1
      exact ⟨ops[i]'(by simpa [hlen] using this), Array.getElem?_eq_getElem _⟩
    refine ⟨by simp [hlen], fun i o e ho he => (hp.each i o e ho he).2.1, fun i o ho p hp' => ?_, fun i j e f hij he hf hcf => ?_, fun i j e f hij he hf => (hca i j e f hij (by simp) (by simpa using he) (by simpa using hf)).2, fun i e he => ?_, fun i e d he hd => ?_, fun i e he => ?_⟩
    · have := lexOk_spec hck.1 i o (by simpa using ho) p hp'
      omega
    · exact has j i ((hca i j e f hij (by simp) (by simpa using he) (by simpa using hf)).1 hcf)
    · obtain ⟨o, ho⟩ := get i e he
      exact (hp.each i o e ho he).2.2.1
    · obtain ⟨o, ho⟩ := get i e he
      exact hcl i o d ho (by rw [← (hp.each i o e ho he).1]; exact hd)
    · obtain ⟨o, ho⟩ := get i e he
      exact (hp.each i o e ho he).2.2.2
  | o :: r, n, acc, K, S, hl, hsz, hp, h => by
    simp only [dreg] at h
    obtain ⟨e, n', h1, h2, h3, h4, h5⟩ := (dop_sound hT h).out
    have ho : ops[acc.length]? = some o := by have := hl 0; simpa using this.symm
    refine dreg_sound hT hcl r n' (e :: acc) K _ (fun x => by have := hl (x + 1); simpa [Nat.add_assoc, Nat.add_comm 1 x] using this) (by simp at hsz ⊢; omega) ?_ h5
    have hst := hp.st
    refine ⟨?_, fun i o' e' ho' he' => ?_⟩
    · rw [List.reverse_cons, stL_append, ← hst]; rfl
    · rw [List.reverse_cons] at he'
      rw [List.reverse_cons, stL_append]
      by_cases hi : i < acc.length
      · rw [List.getElem?_append_left (by simpa using hi)] at he'
        have := hp.each i o' e' ho' he'
        refine ⟨this.1, ?_, this.2.2⟩
        have hf : decide (0 + acc.reverse.length < i) = false := by simp; omega
        simp only [stL, hf, cond_false]
        exact this.2.1
      · have hi' : i = acc.length := by
          have := (List.getElem?_eq_some_iff.1 he').1
          simp at this; omega
        subst hi'
        rw [List.getElem?_append_right (by simp)] at he'
        simp at he'; subst he'
        rw [ho] at ho'; cases ho'
        refine ⟨h1, ?_, h3, h4⟩
        have hf : decide (0 + acc.reverse.length < acc.length) = false := by simp
        simp only [stL, hf, cond_false]
        rw [stL_congrL acc.reverse 0 (fun j => decide (j < acc.length)) (fun _ => true) S0 (fun j hj => by simp at hj ⊢; omega), ← hst]
        exact h2
/-! ### The beginning -/
theorem meetsG_iff {ds : List Nat} : ∀ {q : List (Nat × Bool)}, meetsG ds q = true ↔ ∃ j, inG j q = true ∧ hasN j ds = true
  | [] => by simp [meetsG, inG]
  | (j, b) :: r => by
    simp only [meetsG, inG, Bool.or_eq_true, meetsG_iff (q := r)]
    constructor
    · rintro (h | ⟨i, h1, h2⟩)
      · exact ⟨j, .inl (Nat.beq_refl j), h⟩
      · exact ⟨i, .inr h1, h2⟩
    · rintro ⟨i, h1 | h1, h2⟩
      · have := Nat.eq_of_beq_eq_true h1
        subst this; exact .inl h2
      · exact .inr ⟨i, h1, h2⟩
theorem clrG_eq (ds : List Nat) (x : SV) (K : SV → Prop) : forceC ds x K = K (clrG ds x) := by
  cases x <;> simp only [forceC, clrG]
  rename_i q y
  cases meetsG ds q <;> rfl
theorem clrK_eq (ds : List Nat) : ∀ (l : List SV) (K : List SV → Prop), clrK ds l K = K (l.map (clrG ds))
  | [], K => rfl
  | x :: l, K => by simp only [clrK, clrG_eq, clrK_eq ds l, List.map_cons]
theorem GV_clr {t : List SV} {q : List (Nat × Bool)} {g : Bool} (h : GV t q g) (ds : List Nat) (hd : meetsG ds q = false) : GV (t.map (clrG ds)) q g := by
  refine GV_slots h fun n y hn hy hf => ?_
  have hm : (t.map (clrG ds)).getD n .dead = clrG ds (t.getD n .dead) := by
    simp only [List.getD_eq_getElem?_getD, List.getElem?_map]
    cases t[n]? <;> rfl
  rw [hm, hy]
  rcases hf with ⟨v, rfl⟩ | ⟨q', v, rfl⟩
  · rfl
  · simp only [clrG]
    cases hi : meetsG ds q' with
    | false => rfl
    | true =>
      obtain ⟨j, h1, h2⟩ := meetsG_iff.1 hi
      have h3 := GV_in h n q' v hn hy j h1
      rw [meetsG_iff.2 ⟨j, h3, h2⟩] at hd; cases hd
theorem SlotOk.clr {E m V t v x} (h : SlotOk E m V t v x) (ds : List Nat) : SlotOk E m V (t.map (clrG ds)) v (clrG ds x) := by
  cases x <;> try exact h
  rename_i q z
  simp only [clrG]
  cases hi : meetsG ds q with
  | true => exact trivial
  | false =>
    obtain ⟨g, hg, h1, h2⟩ := h
    exact ⟨g, GV_clr hg ds hi, h1, h2⟩
theorem Rep.clr {E C m S a w} (h : Rep E C m S a w) (ds : List Nat) : Rep E C m ⟨S.t.map (clrG ds), S.h⟩ a w := by
  refine ⟨by simp [h.sz], fun n x v hx hv => ?_, h.df, h.rel⟩
  simp only [List.getElem?_map] at hx
  cases hs : S.t[n]? with
  | none => rw [hs] at hx; simp at hx
  | some y =>
    rw [hs] at hx; simp at hx; subst hx
    exact (h.sl n y v hs hv).clr ds
theorem kill_clr {ds : List Nat} {d : Nat} (hd : hasN d ds = true) (t : List SV) : killL d (t.map (clrG ds)) = t.map (clrG ds) := by
  unfold killL
  rw [List.map_map]
  apply List.map_congr_left
  intro x hxm
  clear hxm
  simp only [Function.comp]
  cases x <;> try rfl
  rename_i q y
  simp only [clrG]
  cases hi : meetsG ds q with
  | true => rfl
  | false =>
    simp only [cond_false, killG]
    cases hq : inG d q with
    | false => rfl
    | true => rw [meetsG_iff.2 ⟨d, hq, hd⟩] at hi; cases hi
theorem dstsOf_spec : ∀ {l : List Oper} {x : Nat} {o : Oper} {d : Nat}, l[x]? = some o → o.dst = some d → hasN d (dstsOf l) = true
  | [], x, o, d, h, _ => by simp at h
  | p :: r, 0, o, d, h, hd => by
    simp at h; subst h
    simp [dstsOf, hd, hasN]
  | p :: r, x + 1, o, d, h, hd => by
    have := dstsOf_spec (l := r) (x := x) (by simpa using h) hd
    simp only [dstsOf]
    cases p.dst with
    | none => exact this
    | some e => simp [hasN, this]
theorem Vle_pad {H : List SB} {n k v : Nat} : Vle (vers (H ++ List.replicate n .fresh)) k v ↔ Vle (vers H) k v := by
  constructor
  · intro h
    obtain ⟨B, hB, hl⟩ := Vle_iff.1 h
    by_cases hk : k < H.length
    · rw [List.getElem?_append_left hk] at hB
      exact Vle_iff.2 ⟨B, hB, hl⟩
    · rw [List.getElem?_append_right (by omega), List.getElem?_replicate] at hB
      split at hB
      · cases hB; simp [SB.lim] at hl
      · cases hB
  · intro h
    rw [vers_append]; exact Vle_append h
theorem BlkAt_pad {E : Env} {H : List SB} {n k b : Nat} (h : BlkAt E (H ++ List.replicate n .fresh) k b) : BlkAt E H k b := by
  obtain ⟨B, hB, hk⟩ := h
  by_cases hl : k < H.length
  · rw [List.getElem?_append_left hl] at hB
    exact ⟨B, hB, hk⟩
  · rw [List.getElem?_append_right (by omega), List.getElem?_replicate] at hB
    split at hB
    · cases hB; exact hk.elim
    · cases hB
theorem Ext.pad (E : Env) (m : Mem) (H : List SB) (n : Nat) : Ext E m (vers H) E m (vers (H ++ List.replicate n .fresh)) := ⟨fun _ _ h => h, fun _ _ h => Vle_pad.2 h, fun _ _ _ => rfl⟩
theorem Rel.pad {E C m H w} (h : Rel E C m H w) (n : Nat) : Rel E C m (H ++ List.replicate n .fresh) w := by
  refine ⟨h.os, h.tape, h.output, h.im, h.fr, h.mf, fun k B hB => ?_, fun k v hv => h.nn k v (Vle_pad.1 hv), fun k b hb => h.sp k b (BlkAt_pad hb), fun j k b hj hk => h.inj j k b (BlkAt_pad hj) (BlkAt_pad hk)⟩
  by_cases hl : k < H.length
  · rw [List.getElem?_append_left hl] at hB
    exact (h.bl k B hB).mono (Ext.pad E m H n) (fun _ _ => rfl) (fun _ _ => rfl)
  · rw [List.getElem?_append_right (by omega), List.getElem?_replicate] at hB
    split at hB
    · cases hB; exact trivial
    · cases hB
/-- A region that draws its order. -/
theorem WpC.dr {P : Program} {T : Tb} (hT : TabOk P T) (hm : P.follows .mixedOrders = true) (n : Nat) {id : Nat} {ops : Array Oper} {K : Exit → St → Prop} {S : St} (h : dstart P T ops n (K .normal) S) : WpC P (.region id ops true) K S := by
  obtain ⟨t, hh⟩ := S
  unfold dstart at h
  simp only [clrK_eq, appH_eq] at h
  refine ⟨fun C E m a w hr => ?_⟩
  obtain ⟨es, hp, hK⟩ := dreg_sound hT (S0 := ⟨t.map (clrG (dstsOf ops.toList)), hh ++ List.replicate n .fresh⟩) (fun i o d ho hd => kill_clr (dstsOf_spec (l := ops.toList) (x := i) (by simpa using ho) hd) t) ops.toList _ [] _ _ (fun x => by simp) (by simp) ⟨rfl, fun i o e ho he => by simp at he⟩ h
  have hr0 := hr.clr (dstsOf ops.toList)
  have hr1 : Rep E C m ⟨t.map (clrG (dstsOf ops.toList)), hh ++ List.replicate n .fresh⟩ a w := hr0.up (Ext.pad E m hh n) (hr0.rel.pad n)
  exact wp_plan hm hp hr1 fun E' m' a' w' k1 k2 => ⟨E', m', _, hK, (Ext.pad E m hh n).trans k1, k2⟩
end SX
end Go.Proofs.YthkedcneehdinaaGreatDoor

/- SX: forgetting blocks; loops. -/
set_option linter.unusedVariables false
set_option linter.unusedSimpArgs false
namespace Go.Proofs.YthkedcneehdinaaGreatDoor
namespace SX
open Go

/-! ### Forgetting the last blocks -/
mutual
def nb (N : Nat) : SV → Bool
  | .ptr k _ _ _ => Nat.blt k N
  | .sl k _ _ _ _ _ => Nat.blt k N
  | .map k => Nat.blt k N
  | .arr _ _ _ _ _ _ => false
  | .fn _ caps => nbL N caps
  | .iface _ x => nb N x
  | .bm _ x => nb N x
  | .agg cs => nbL N cs
  | .tup vs => nbL N vs
  | .grd _ _ => false
  | _ => true
def nbL (N : Nat) : List SV → Bool
  | [] => true
  | x :: r => nb N x && nbL N r
end
/-- All names in the value are below N. -/
def Bnd (N : Nat) (x : SV) : Prop :=
  match x with
  | .arr _ _ _ _ enc _ => ∀ y, nbL N (enc y) = true
  | x => nb N x = true
def BndL (N : Nat) : List SV → Prop
  | [] => True
  | x :: r => Bnd N x ∧ BndL N r
def BndB (N : Nat) : SB → Prop
  | .mem _ segs _ _ => BndL N segs
  | .mp kv _ => ∀ p ∈ kv, nb N p.1 = true ∧ nb N p.2 = true
  | _ => True
def BndH (N : Nat) : List SB → Prop
  | [] => True
  | B :: r => BndB N B ∧ BndH N r
section
variable {m : Mem} {V V' : List Nat} {N : Nat} (hV : ∀ k v, k < N → Vle V k v → Vle V' k v)
include hV
mutual
theorem nb_ok : ∀ x : SV, nb N x = true → Ok m V x → Ok m V' x
  | .i _ _, _, _ | .b _, _, _ | .s _, _, _ | .raw _, _, _ | .nils, _, _ | .dead, _, _ => by simp [Ok]
  | .ptr k v _ _, hn, h => by simp only [nb] at hn; simp only [Ok] at h ⊢; exact ⟨hV k v (by simp [Nat.blt] at hn; omega) h.1, h.2⟩
  | .sl k v _ _ _ _, hn, h => by simp only [nb] at hn; simp only [Ok] at h ⊢; exact ⟨hV k v (by simp [Nat.blt] at hn; omega) h.1, h.2⟩
  | .map k, hn, h => by simp only [nb] at hn; simp only [Ok] at h ⊢; exact hV k 1 (by simp [Nat.blt] at hn; omega) h
  | .arr _ _ _ _ _ _, hn, _ | .grd _ _, hn, _ => by simp [nb] at hn
  | .ipt _ _ _ _ _ _ _ _ _, _, h | .imm _ _ _ _ _ _ _, _, h | .ints _ _ _, _, h => by simpa only [Ok] using h
  | .fn _ caps, hn, h => by simp only [nb] at hn; simp only [Ok] at h ⊢; exact nb_okA caps hn h
  | .iface _ x, hn, h => by simp only [nb] at hn; simp only [Ok] at h ⊢; exact ⟨nb_ok x hn h.1, h.2⟩
  | .bm _ x, hn, h => by simp only [nb] at hn; simp only [Ok] at h ⊢; exact ⟨nb_ok x hn h.1, h.2⟩
  | .agg cs, hn, h => by simp only [nb] at hn; simp only [Ok] at h ⊢; exact nb_okL cs hn h
  | .tup vs, hn, h => by simp only [nb] at hn; simp only [Ok] at h ⊢; exact nb_okA vs hn h
theorem nb_okL : ∀ l : List SV, nbL N l = true → OkL m V l → OkL m V' l
  | [], _, _ => by simp [OkL]
  | x :: r, hn, h => by
    simp only [nbL, Bool.and_eq_true] at hn
    simp only [OkL] at h ⊢
    exact ⟨⟨h.1.1, nb_ok x hn.1 h.1.2⟩, nb_okL r hn.2 h.2⟩
theorem nb_okA : ∀ l : List SV, nbL N l = true → OkA m V l → OkA m V' l
  | [], _, _ => by simp [OkA]
  | x :: r, hn, h => by
    simp only [nbL, Bool.and_eq_true] at hn
    simp only [OkA] at h ⊢
    exact ⟨⟨h.1.1, nb_ok x hn.1 h.1.2⟩, nb_okA r hn.2 h.2⟩
end
theorem Bnd_ok {x : SV} (hn : Bnd N x) (h : Ok m V x) : Ok m V' x := by
  cases x <;> try exact nb_ok hV _ hn h
  rename_i K α d n enc xs
  simp only [Bnd] at hn
  simp only [Ok] at h ⊢
  exact ⟨h.1, h.2.1, fun j hj => nb_okL hV _ (hn _) (h.2.2 j hj)⟩
theorem BndL_ok : ∀ {l : List SV}, BndL N l → OkL m V l → OkL m V' l
  | [], _, _ => by simp [OkL]
  | x :: r, hn, h => by
    simp only [OkL] at h ⊢
    exact ⟨⟨h.1.1, Bnd_ok hV hn.1 h.1.2⟩, BndL_ok hn.2 h.2⟩
theorem BndB_holds {E : Env} {w : World} {k : Nat} {B : SB} (hn : BndB N B) (h : Holds E m V w k B) : Holds E m V' w k B := by
  cases B with
  | mem t segs ver gr =>
    cases gr with
    | zero => obtain ⟨h0, b, c, h1, h2, h3⟩ := h; exact ⟨h0, b, c, h1, h2, BndL_ok hV hn h3⟩
    | succ gr => obtain ⟨h3, h4, h5⟩ := h; exact ⟨BndL_ok hV hn h3, h4, h5⟩
  | mp kv ver =>
    obtain ⟨h0, b, c, es, clock, h1, h2, h3, h4⟩ := h
    exact ⟨h0, b, c, es, clock, h1, h2, h3, fun p hp => ⟨⟨nb_ok hV _ (hn p hp).1 (h4 p hp).1.1, (h4 p hp).1.2⟩, nb_ok hV _ (hn p hp).2 (h4 p hp).2.1, (h4 p hp).2.2⟩⟩
  | gone v => trivial
  | fresh => trivial
end
theorem BndH_get {N : Nat} : ∀ {H : List SB}, BndH N H → ∀ (k : Nat) (B : SB), H[k]? = some B → BndB N B
  | [], _, k, B, h => by simp at h
  | C :: r, hn, 0, B, h => by simp at h; subst h; exact hn.1
  | C :: r, hn, k + 1, B, h => BndH_get hn.2 k B (by simpa using h)
theorem Vle_drop {H X : List SB} {k v : Nat} (hk : k < H.length) (h : Vle (vers (H ++ X)) k v) : Vle (vers H) k v := by
  obtain ⟨B, hB, hl⟩ := Vle_iff.1 h
  rw [List.getElem?_append_left hk] at hB
  exact Vle_iff.2 ⟨B, hB, hl⟩
theorem BlkAt_drop {E : Env} {H X : List SB} {k b : Nat} (h : BlkAt E H k b) : BlkAt E (H ++ X) k b := by
  obtain ⟨B, hB, hk⟩ := h
  exact ⟨B, by rw [List.getElem?_append_left (List.getElem?_eq_some_iff.1 hB).1]; exact hB, hk⟩
theorem Rel.drop {E C m H X w} (h : Rel E C m (H ++ X) w) (hb : BndH H.length H) : Rel E C m H w := by
  refine ⟨h.os, h.tape, h.output, h.im, h.fr, h.mf, fun k B hB => ?_, fun k v hv => h.nn k v (by rw [vers_append]; exact Vle_append hv), fun k b hk => h.sp k b (BlkAt_drop hk), fun j k b hj hk => h.inj j k b (BlkAt_drop hj) (BlkAt_drop hk)⟩
  have hk := (List.getElem?_eq_some_iff.1 hB).1
  have h1 := h.bl k B (by rw [List.getElem?_append_left hk]; exact hB)
  exact BndB_holds (fun k v hk => Vle_drop hk) (BndH_get hb k B hB) h1
/-- What a function hands back, the blocks that are no longer wanted left out. -/
theorem Cp.trim {X : List Value → World → (Value → World → Prop) → Prop} (hX : XMono X) {args H K K'} (h : Cp X args H K)
    (hk : ∀ r H1, K r H1 → ∃ H2 Y, H1 = H2 ++ Y ∧ H.length ≤ H2.length ∧ BndH H2.length H2 ∧ Bnd H2.length r ∧ K' r H2) : Cp X args H K' := by
  refine ⟨fun C E m w hr ha => hX _ _ _ _ (h.out C E m w hr ha) ?_⟩
  rintro v w' ⟨r, H1, E', m', h1, h2, h3, h4, h5⟩
  obtain ⟨H2, Y, rfl, k1, k2, k3, k4⟩ := hk r H1 h2
  refine ⟨r, H2, E', m', h1, k4, ⟨Bnd_ok (fun k v hk => Vle_drop hk) k3 h3.1, h3.2⟩, ⟨h4.mm, fun k v hv => ?_, h4.ee⟩, h5.drop k2⟩
  have hk : k < H.length := by have := Vle_lt hv; simpa [vers] using this
  exact Vle_drop (by omega) (h4.vv k v hv)

/-! ### Loops -/
def tb (m n : Nat) : Bool := Nat.beq (Nat.land (Nat.shiftRight m n) 1) 1
def tbG (mk : Nat) : List (Nat × Bool) → Bool
  | [] => false
  | (j, _) :: r => tb mk j || tbG mk r
def forceM (mk n : Nat) (x : SV) (K : SV → Prop) : Prop :=
  bif tb mk n then K .dead else match x with
  | .grd q y => bif tbG mk q then K .dead else K (.grd q y)
  | x => K x
def maskM (mk n : Nat) (x : SV) : SV :=
  bif tb mk n then .dead else match x with
  | .grd q y => bif tbG mk q then .dead else .grd q y
  | x => x
def maskT (mk : Nat) : List SV → Nat → List SV
  | [], _ => []
  | x :: r, n => maskM mk n x :: maskT mk r (n + 1)
def maskK (mk : Nat) : List SV → Nat → (List SV → Prop) → Prop
  | [], _, K => K []
  | x :: r, n, K => forceM mk n x fun x => maskK mk r (n + 1) fun l => K (x :: l)
def setAll : List SV → List (Nat × SV) → List SV
  | t, [] => t
  | t, (n, x) :: r => setAll (t.set n x) r
def setAllK : List SV → List (Nat × SV) → (List SV → Prop) → Prop
  | t, [], K => K t
  | t, (n, x) :: r, K => force x fun x => setP t n x fun t => setAllK t r K
theorem forceM_eq (mk n : Nat) (x : SV) (K : SV → Prop) : forceM mk n x K = K (maskM mk n x) := by
  unfold forceM maskM
  cases tb mk n
  · simp only [cond_false]
    cases x <;> simp only
    rename_i q y
    cases tbG mk q <;> rfl
  · rfl
theorem maskK_eq (mk : Nat) : ∀ (l : List SV) (n : Nat) (K : List SV → Prop), maskK mk l n K = K (maskT mk l n)
  | [], n, K => rfl
  | x :: l, n, K => by simp only [maskK, forceM_eq, maskK_eq mk l, maskT]
theorem setAllK_eq : ∀ (l : List (Nat × SV)) (t : List SV) (K : List SV → Prop), setAllK t l K = K (setAll t l)
  | [], t, K => rfl
  | (n, x) :: r, t, K => by simp only [setAllK, force_eq, setP_eq, setAllK_eq r, setAll]
theorem maskT_get {mk : Nat} : ∀ {l : List SV} {n i : Nat}, (maskT mk l n)[i]? = (l[i]?).map (maskM mk (n + i))
  | [], n, i => by simp [maskT]
  | x :: l, n, 0 => by simp [maskT]
  | x :: l, n, i + 1 => by simp only [maskT, List.getElem?_cons_succ, maskT_get (l := l)]; rw [show n + 1 + i = n + (i + 1) by omega]
theorem length_maskT {mk : Nat} : ∀ {l : List SV} {n : Nat}, (maskT mk l n).length = l.length
  | [], n => rfl
  | x :: l, n => by simp [maskT, length_maskT (l := l)]
theorem length_setAll : ∀ {l : List (Nat × SV)} {t : List SV}, (setAll t l).length = t.length
  | [], t => rfl
  | (n, x) :: r, t => by simp [setAll, length_setAll (l := r)]
/-- The listed slots hold what is listed; all that is listed is set by the body, plain, and has names of blocks below N. -/
def Listed (mk N : Nat) (t : List SV) : List (Nat × SV) → Prop
  | [] => True
  | (n, x) :: r => (t.getD n .dead = x ∧ (tb mk n && live x) = true ∧ Bnd N x) ∧ Listed mk N t r
theorem setAll_cases {n : Nat} {x : SV} : ∀ {l : List (Nat × SV)} {t : List SV}, (setAll t l)[n]? = some x → t[n]? = some x ∨ (n, x) ∈ l
  | [], t, h => .inl h
  | (i, y) :: r, t, h => by
    simp only [setAll] at h
    rcases setAll_cases h with h | h
    · by_cases hi : i = n
      · subst hi
        rw [List.getElem?_set_self'] at h
        cases ht : t[i]? with
        | none => rw [ht] at h; simp at h
        | some z => rw [ht] at h; simp at h; subst h; exact .inr (by simp)
      · rw [List.getElem?_set_ne hi] at h; exact .inl h
    · exact .inr (List.mem_cons_of_mem _ h)
theorem setAll_other {n : Nat} : ∀ {l : List (Nat × SV)} {t : List SV}, (∀ x, (n, x) ∉ l) → (setAll t l)[n]? = t[n]?
  | [], t, _ => rfl
  | (i, y) :: r, t, h => by
    simp only [setAll]
    rw [setAll_other fun x hx => h x (List.mem_cons_of_mem _ hx)]
    exact List.getElem?_set_ne (fun e => h y (by subst e; simp))
theorem Listed_get {mk N : Nat} {t : List SV} : ∀ {l : List (Nat × SV)}, Listed mk N t l → ∀ n x, (n, x) ∈ l → t.getD n .dead = x ∧ tb mk n = true ∧ live x = true ∧ Bnd N x
  | [], _, n, x, h => by simp at h
  | (i, y) :: r, hl, n, x, h => by
    rcases List.mem_cons.1 h with h | h
    · cases h
      have := hl.1
      simp only [Bool.and_eq_true] at this
      exact ⟨this.1, this.2.1.1, this.2.1.2, this.2.2⟩
    · exact Listed_get hl.2 n x h
theorem tbG_iff {mk : Nat} : ∀ {q : List (Nat × Bool)}, tbG mk q = true ↔ ∃ j, inG j q = true ∧ tb mk j = true
  | [] => by simp [tbG, inG]
  | (j, b) :: r => by
    simp only [tbG, inG, Bool.or_eq_true, tbG_iff (q := r)]
    constructor
    · rintro (h | ⟨i, h1, h2⟩)
      · exact ⟨j, .inl (Nat.beq_refl j), h⟩
      · exact ⟨i, .inr h1, h2⟩
    · rintro ⟨i, h1 | h1, h2⟩
      · have := Nat.eq_of_beq_eq_true h1
        subst this; exact .inl h2
      · exact .inr ⟨i, h1, h2⟩
end SX
end Go.Proofs.YthkedcneehdinaaGreatDoor
