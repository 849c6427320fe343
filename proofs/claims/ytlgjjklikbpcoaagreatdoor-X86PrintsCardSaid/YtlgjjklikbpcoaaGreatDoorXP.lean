/- A part of SX: symbolic and concrete runs of the program, with contracts of functions; lemmas without further conditions. -/
import Derived.Lib.ItoaNum
import Derived.Test.YtlgjjklikbpcoaaGreatDoorXO
set_option linter.unusedVariables false
set_option linter.unusedSimpArgs false
set_option linter.unusedSectionVars false
/- Digits, plain. -/
set_option linter.unusedVariables false
namespace Go.Proofs.YtlgjjklikbpcoaaGreatDoor
namespace SX
open Go Go.Proofs
/-- The loop of Digits: so much is left, so much is written. -/
def DI (n k : Nat) (s : List UInt8) : Prop := (s = [] ∧ k = n) ∨ (s ≠ [] ∧ Lib.decDigits n = (if k = 0 then [] else Lib.decDigits k) ++ s)
theorem DI.step {n k : Nat} {s : List UInt8} (h : DI n k s) (hc : s = [] ∨ k ≠ 0) : DI n (k / 10) (UInt8.ofNat (48 + k % 10) :: s) := by
  have key : Lib.decDigits k = (if k / 10 = 0 then [] else Lib.decDigits (k / 10)) ++ [UInt8.ofNat (48 + k % 10)] := by
    rw [Lib.decDigits]
    by_cases hk : k < 10
    · rw [dif_pos hk, if_pos (by omega), Nat.mod_eq_of_lt hk]; rfl
    · rw [dif_neg hk, if_neg (by omega)]
  refine .inr ⟨by simp, ?_⟩
  rcases h with ⟨rfl, rfl⟩ | ⟨h1, h2⟩
  · exact key
  · have hk : k ≠ 0 := hc.resolve_left h1
    rw [h2, if_neg hk, key, List.append_assoc]; rfl
theorem DI.done {n k : Nat} {s : List UInt8} (h : DI n k s) (h1 : s ≠ []) (h2 : k = 0) : Lib.decDigits n = s := by
  rcases h with ⟨rfl, _⟩ | ⟨_, h3⟩
  · exact absurd rfl h1
  · rw [h3, if_pos h2]; rfl
end SX
end Go.Proofs.YtlgjjklikbpcoaaGreatDoor
