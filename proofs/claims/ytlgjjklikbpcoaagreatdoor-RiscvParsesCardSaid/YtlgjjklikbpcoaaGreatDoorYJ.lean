/- A part of SX: symbolic and concrete runs of the program, with contracts of functions; lemmas without further conditions. -/
import Derived.Lib.LaidTab
import Derived.Sort.Grow
import Derived.Deep.Draws
import Derived.Below
import Derived.Test.YtlgjjklikbpcoaaGreatDoorYI
set_option linter.unusedVariables false
set_option linter.unusedSimpArgs false
set_option linter.unusedSectionVars false
/- SX: a contract of the kit's that lets the world grow, as one of SX. -/
set_option linter.unusedVariables false
set_option linter.unusedSimpArgs false
namespace Go.Proofs.YtlgjjklikbpcoaaGreatDoor
namespace SX
open Go Go.Proofs Go.Sort
theorem Rel.tabs {E C m H w} (h : Rel E C m H w) : TabsIn w := h.mf.2.mono h.im
theorem Rel.grown {E C m w} (h : Rel E C m [] w) (k : Nat) (os : Array Obj) : Rel E C m [] (Sort.grow (w.drewN k) os) := by
  refine ⟨h.os, h.tape, ⟨h.output.1, h.output.2.trans (Nat.le_add_right _ _)⟩, fun b o hb => ?_, fun b o hb => ?_, h.mf, fun k B hB => by simp at hB, fun k v hv => (Vle_nil hv).elim, ?_, ?_⟩
  · have h1 := h.im b o hb
    show (w.heap ++ os)[b]? = some o
    rw [Array.getElem?_append_left (size_of_heap h1)]; exact h1
  · have h1 := h.fr b o hb
    show (w.heap ++ os)[b]? = some o
    rw [Array.getElem?_append_left (size_of_heap h1)]; exact h1
  · rintro k b ⟨B, hB, _⟩; simp at hB
  · rintro j k b ⟨B, hB, _⟩; simp at hB
theorem Rel.below {E C m H w w'} (hd : drKeep = false) (h : Rel E C m H w) (hb : Go.RowKit.Below w.heap.size w w') : Rel E C m H w' := by
  have hk : ∀ b o, w.heap[b]? = some o → w'.heap[b]? = some o := fun b o hbo => by rw [hb.block b (size_of_heap hbo)]; exact hbo
  refine ⟨hb.os.trans h.os, hb.tape.trans h.tape, ⟨hb.output.trans h.output.1, fun e => by rw [hd] at e; cases e⟩, fun b o hbo => hk b o (h.im b o hbo), fun b o hbo => hk b o (h.fr b o hbo), h.mf, fun k B hB => ?_, h.nn, h.sp, h.inj⟩
  refine (h.bl k B hB).mono (.refl ..) (fun _ _ => rfl) fun b hbk => ?_
  obtain ⟨o, ho⟩ := (h.bl k B hB).block hB b ⟨B, hB, hbk⟩
  rw [hk b o ho, ho]
theorem Ctr.of_below {P : Program} (hd : drKeep = false) {f : FuncId} {fn : Func} {c : Code} (hf : P.funcs[f]? = some fn) (hb : fn.body = some c) (hnm : (fn.name == "runtime.NumGoroutine") = false) {args : List SV} {H : List SB} {r : SV} (hok : ∀ m, Ok m (vers H) r) (hl : live r = true)
    (h : ∀ C E m w, Rel E C m H w → OkA m (vers H) args → Calls P f (denL E args).toArray w (fun e w' => e = .returned (den E r) ∧ Go.RowKit.Below w.heap.size w w')) : Ctr P f args H (fun r' h => r' = r ∧ h = H) := by
  refine ⟨fun C E m w hr ha => ?_⟩
  have hrun : (callFunc f (denL E args).toArray).run P w = .ok (.enter f (denL E args).toArray) w := by
    have h1 : fn.name ≠ "runtime.NumGoroutine" := by simpa using hnm
    simp [callFunc, hf, h1, hb]
  unfold callX
  rw [hrun]
  refine (h C E m w hr ha).mono ?_
  rintro e w' ⟨rfl, hw⟩
  exact ⟨_, rfl, r, H, E, m, rfl, ⟨rfl, rfl⟩, ⟨hok m, hl⟩, .refl .., hr.below hd hw⟩
theorem CtrV.of_grow {P : Program} {f : FuncId} {fn : Func} {c : Code} (hf : P.funcs[f]? = some fn) (hb : fn.body = some c) (hnm : (fn.name == "runtime.NumGoroutine") = false) {args : List SV} {r : SV} (hok : ∀ m, Ok m [] r) (hl : live r = true)
    (h : ∀ w, TabsIn w → ∀ E m, OkA m [] args → Calls P f (denL E args).toArray w (fun e w' => e = .returned (den E r) ∧ ∃ k os, w' = grow (w.drewN k) os)) : CtrV P f args r := by
  refine ⟨fun C E m w hr ha => ?_⟩
  have hrun : (callFunc f (denL E args).toArray).run P w = .ok (.enter f (denL E args).toArray) w := by
    have h1 : fn.name ≠ "runtime.NumGoroutine" := by simpa using hnm
    simp [callFunc, hf, h1, hb]
  unfold callX
  rw [hrun]
  refine (h w hr.tabs E m ha).mono ?_
  rintro e w' ⟨rfl, k, os, rfl⟩
  exact ⟨_, rfl, r, [], E, m, rfl, ⟨rfl, rfl⟩, ⟨hok m, hl⟩, .refl .., hr.grown k os⟩
end SX
end Go.Proofs.YtlgjjklikbpcoaaGreatDoor
