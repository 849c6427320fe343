/- A part of SX: symbolic and concrete runs of the program, with contracts of functions; lemmas without further conditions. -/
import Derived.Test.YtlgjjklikbpcoaaGreatDoorYF
set_option linter.unusedVariables false
set_option linter.unusedSimpArgs false
set_option linter.unusedSectionVars false
/- SX: tables of types. -/
set_option linter.unusedVariables false
namespace Go.Proofs.YtlgjjklikbpcoaaGreatDoor
namespace SX
open Go

inductive Tr : Type 1 where
  | leaf
  | node (k : Nat) (v : TI) (l r : Tr)
def Tr.get : Tr → Tb
  | .leaf, _ => none
  | .node k v l r, t => bif Nat.beq t k then some v else bif Nat.blt t k then l.get t else r.get t
structure EntOk (P : Program) (T : Tb) (t : Nat) (ti : TI) : Prop where
  info : (P.info? t).map (fun i => (i.size, i.bytes, i.zero.map fun z => z.cells.toList)) = some (ti.size, ti.bytes, some (cellsL E0 ti.zero))
  zok : OkL (fun _ => none) [] ti.zero
  zw : wdL ti.zero = ti.size
  kok : (match P.underlying t with | some d => kokB P ti.k d | none => false) = true
  zv : (P.info? t).map (·.zero) = some (some (den E0 (zeroV ti)))
  eq : match ti.leafs with
    | none => True
    | some ls => shape P 40 t = some ls ∧ P.eqGuardType P.depth t = false ∧ ti.k.agg = true
  arr : match ti.k with
    | .array n e => (match T e with
      | some te => ti.size = n * te.size ∧ cellsL E0 (zeros n te.zero) = cellsL E0 ti.zero
      | none => True)
    | _ => True
def okzB : List SV → Bool
  | [] => true
  | .i _ _ :: r => okzB r
  | .b _ :: r => okzB r
  | .s _ :: r => okzB r
  | .nils :: r => okzB r
  | .raw v :: r => cellV v && okzB r
  | _ :: _ => false
theorem okL_z : ∀ l : List SV, okzB l = true → OkL (fun _ => none) [] l
  | [], _ => trivial
  | .i _ _ :: r, h => ⟨⟨rfl, trivial⟩, okL_z r h⟩
  | .b _ :: r, h => ⟨⟨rfl, trivial⟩, okL_z r h⟩
  | .s _ :: r, h => ⟨⟨rfl, trivial⟩, okL_z r h⟩
  | .nils :: r, h => ⟨⟨rfl, trivial⟩, okL_z r h⟩
  | .raw v :: r, h => by
    simp only [okzB, Bool.and_eq_true] at h
    exact ⟨⟨h.1, trivial⟩, okL_z r h.2⟩
theorem entX {P : Program} {T : Tb} {t : Nat} {ti : TI} (info : (P.info? t).map (fun i => (i.size, i.bytes, i.zero.map fun z => z.cells.toList)) = some (ti.size, ti.bytes, some (cellsL E0 ti.zero)) := by kernel_rfl) (z : okzB ti.zero = true := by kernel_rfl) (zw : wdL ti.zero = ti.size := by kernel_rfl)
    (kok : (match P.underlying t with | some d => kokB P ti.k d | none => false) = true := by kernel_rfl) (zv : (P.info? t).map (·.zero) = some (some (den E0 (zeroV ti))) := by kernel_rfl)
    (eq : match ti.leafs with | none => True | some ls => shape P 40 t = some ls ∧ P.eqGuardType P.depth t = false ∧ ti.k.agg = true := by first | exact trivial | exact ⟨by kernel_rfl, by kernel_rfl, rfl⟩)
    (arr : match ti.k with | .array n e => (match T e with | some te => ti.size = n * te.size ∧ cellsL E0 (zeros n te.zero) = cellsL E0 ti.zero | none => True) | _ => True := by first | trivial | exact ⟨by kernel_rfl, by kernel_rfl⟩) : EntOk P T t ti :=
  ⟨info, okL_z _ z, zw, kok, zv, eq, arr⟩
def Tr.All (p : Nat → TI → Prop) : Tr → Prop
  | .leaf => True
  | .node k v l r => p k v ∧ l.All p ∧ r.All p
theorem Tr.get_all {p : Nat → TI → Prop} : ∀ {tr : Tr}, tr.All p → ∀ {t ti}, tr.get t = some ti → p t ti
  | .leaf, _, t, ti, h => by simp [Tr.get] at h
  | .node k v l r, ha, t, ti, h => by
    simp only [Tr.get] at h
    cases h1 : Nat.beq t k with
    | true =>
      rw [h1] at h
      have := Nat.eq_of_beq_eq_true h1
      subst this
      simp only [cond_true, Option.some.injEq] at h
      subst h; exact ha.1
    | false =>
      rw [h1] at h
      simp only [cond_false] at h
      cases h2 : Nat.blt t k <;> rw [h2] at h <;> simp only [cond_true, cond_false] at h
      · exact Tr.get_all ha.2.2 h
      · exact Tr.get_all ha.2.1 h
theorem TabOk.of_tree {P : Program} {tr : Tr} (h : tr.All (EntOk P tr.get)) : TabOk P tr.get := by
  refine ⟨fun t ti ht => ?_, fun t ti ls ht hl => ?_, fun t ti ht => (Tr.get_all h ht).zv, fun t ti n e te ht hk he => ?_⟩
  · have := Tr.get_all h ht
    exact ⟨this.info, this.zok, this.zw, this.kok⟩
  · have := (Tr.get_all h ht).eq
    rw [hl] at this; exact this
  · have := (Tr.get_all h ht).arr
    rw [hk] at this; simp only [he] at this; exact this
end SX
end Go.Proofs.YtlgjjklikbpcoaaGreatDoor
