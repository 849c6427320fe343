/- A part of SX: symbolic and concrete runs of the program, with contracts of functions; lemmas without further conditions. -/
import Derived.Test.YtlgjjklikbpcoaaGreatDoorRows
import Derived.Shelf.Vars
import Derived.Test.YtlgjjklikbpcoaaGreatDoorYV
set_option linter.unusedVariables false
set_option linter.unusedSimpArgs false
set_option linter.unusedSectionVars false
/- SX: from what a row lists to the tables in the world. -/
set_option maxRecDepth 100000
namespace Go.Proofs.YtlgjjklikbpcoaaGreatDoor
namespace SX
open Go Go.Proofs
theorem tabsIn_row {laid : List (String × DataW Unit)} {W : World} (h : laidMetH Tryz.prog laid W) (hf : (laid.filter fun x => x.2.handleName?.isSome) = []) (hsh : W.ShapedOpen Tryz.prog)
    {n6 n7 n5 n4 n3 n1 : String} (h6 : (n6, Rows.laid_math_bits_deBruijn32tab) ∈ laid) (h7 : (n7, Rows.laid_math_bits_deBruijn64tab) ∈ laid) (h5 : (n5, Rows.laid_internal_strconv_uint64pow10) ∈ laid) (h4 : (n4, Rows.laid_strconv_ErrRange) ∈ laid) (h3 : (n3, Rows.laid_strconv_ErrSyntax) ∈ laid) (h1 : (n1, Rows.laid_strings_asciiSpace) ∈ laid) (g6 : Tryz.prog.globalNamed n6 = some 6) (g7 : Tryz.prog.globalNamed n7 = some 7) (g5 : Tryz.prog.globalNamed n5 = some 5) (g4 : Tryz.prog.globalNamed n4 = some 4) (g3 : Tryz.prog.globalNamed n3 = some 3) (g1 : Tryz.prog.globalNamed n1 = some 1) : TabsIn W := by
  refine tabsIn_of hf h fun g v hg => ?_
  unfold tabs at hg
  cases c0 : Nat.beq g 6 with
  | true =>
    rw [c0] at hg
    cases hg
    obtain rfl := Nat.eq_of_beq_eq_true c0
    exact .inl ⟨_, 337, _, 5, h6, g6, by kernel_rfl, Tryz.underlying337, Tryz.underlying5, by kernel_rfl, by kernel_rfl⟩
  | false =>
  rw [c0] at hg
  simp only [cond_false] at hg
  cases c1 : Nat.beq g 7 with
  | true =>
    rw [c1] at hg
    cases hg
    obtain rfl := Nat.eq_of_beq_eq_true c1
    exact .inl ⟨_, 338, _, 5, h7, g7, by kernel_rfl, Tryz.underlying338, Tryz.underlying5, by kernel_rfl, by kernel_rfl⟩
  | false =>
  rw [c1] at hg
  simp only [cond_false] at hg
  cases c2 : Nat.beq g 5 with
  | true =>
    rw [c2] at hg
    cases hg
    obtain rfl := Nat.eq_of_beq_eq_true c2
    exact .inl ⟨_, 323, _, 175, h5, g5, by kernel_rfl, Tryz.underlying323, Tryz.underlying175, by kernel_rfl, by kernel_rfl⟩
  | false =>
  rw [c2] at hg
  simp only [cond_false] at hg
  cases c3 : Nat.beq g 4 with
  | true =>
    rw [c3] at hg
    cases hg
    obtain rfl := Nat.eq_of_beq_eq_true c3
    exact .inl ⟨_, 144, _, _, _, h4, g4, by kernel_rfl, Tryz.underlying144⟩
  | false =>
  rw [c3] at hg
  simp only [cond_false] at hg
  cases c4 : Nat.beq g 3 with
  | true =>
    rw [c4] at hg
    cases hg
    obtain rfl := Nat.eq_of_beq_eq_true c4
    exact .inl ⟨_, 144, _, _, _, h3, g3, by kernel_rfl, Tryz.underlying144⟩
  | false =>
  rw [c4] at hg
  simp only [cond_false] at hg
  cases c5 : Nat.beq g 1 with
  | true =>
    rw [c5] at hg
    cases hg
    obtain rfl := Nat.eq_of_beq_eq_true c5
    exact .inl ⟨_, 235, _, 5, h1, g1, by kernel_rfl, Tryz.underlying235, Tryz.underlying5, by kernel_rfl, by kernel_rfl⟩
  | false =>
  rw [c5] at hg
  simp only [cond_false] at hg
  cases c6 : Nat.beq g 0 with
  | true =>
    rw [c6] at hg
    cases hg
    obtain rfl := Nat.eq_of_beq_eq_true c6
    exact .inr (anyI_at (cell_of_shapedOpen_int (zero := #[.int .i64 0]) (t := 3) hsh (of_decide_eq_true (by kernel_rfl)) (by kernel_rfl) rfl (by kernel_rfl) (by kernel_rfl) Tryz.underlying3))
  | false =>
  rw [c6] at hg
  simp only [cond_false] at hg
  cases hg
end SX
end Go.Proofs.YtlgjjklikbpcoaaGreatDoor
