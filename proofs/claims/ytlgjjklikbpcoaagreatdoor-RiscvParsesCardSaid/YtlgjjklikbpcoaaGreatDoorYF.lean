/- A part of SX: symbolic and concrete runs of the program, with contracts of functions; lemmas without further conditions. -/
import Derived.IntWalk
import Derived.Lib.Index
import Derived.Test.YtlgjjklikbpcoaaGreatDoorYE
set_option linter.unusedVariables false
set_option linter.unusedSimpArgs false
set_option linter.unusedSectionVars false
/- Words of a text, plain. -/
set_option linter.unusedVariables false
namespace Go.Proofs.YtlgjjklikbpcoaaGreatDoor
namespace SX
open Go Go.Proofs
def letB (n : Int) : Bool := (decide (97 ≤ n) && decide (n ≤ 122)) || (decide (65 ≤ n) && decide (n ≤ 90))
def digB (n : Int) : Bool := decide (48 ≤ n) && decide (n ≤ 57)
def numB (n : Int) : Bool := letB n || digB n
def namB (n : Int) : Bool := ((letB n || digB n) || decide (n = 95)) || decide (n = 46)
def cd (s : List UInt8) (k : Nat) : Int := ((s.getD k 0).toNat : Int)
def rowF (p : Int → Bool) : List UInt8 → Nat
  | [] => 0
  | c :: r => if p (c.toNat : Int) then rowF p r + 1 else 0
theorem rowF_le (p : Int → Bool) : ∀ s : List UInt8, rowF p s ≤ s.length
  | [] => Nat.le_refl _
  | c :: r => by
    have := rowF_le p r
    simp only [rowF, List.length_cons]
    split <;> omega
theorem rowF_at (p : Int → Bool) : ∀ (k : Nat) (s : List UInt8), k ≤ s.length → (∀ j, j < k → p (cd s j) = true) → (k = s.length ∨ p (cd s k) = false) → rowF p s = k
  | 0, [], _, _, _ => rfl
  | 0, c :: r, _, _, h => by
    rcases h with h | h
    · simp at h
    · have h : p (c.toNat : Int) = false := h
      simp only [rowF, h]; rfl
  | k + 1, [], h, _, _ => by simp at h
  | k + 1, c :: r, h1, h2, h3 => by
    have h0 : p (c.toNat : Int) = true := h2 0 (by omega)
    simp only [rowF, h0, if_true]
    congr 1
    refine rowF_at p k r (by simpa using h1) (fun j hj => h2 (j + 1) (by omega)) ?_
    rcases h3 with h3 | h3
    · left; simpa using h3
    · right; exact h3
theorem rowF_all (p : Int → Bool) : ∀ (s : List UInt8), ∀ c ∈ s.take (rowF p s), p (c.toNat : Int) = true
  | [], c, h => by simp at h
  | x :: r, c, h => by
    simp only [rowF] at h
    split at h
    · rename_i hx
      rw [List.take_succ_cons] at h
      rcases List.mem_cons.1 h with rfl | h
      · exact hx
      · exact rowF_all p r c h
    · simp at h
theorem rowF_pos {p : Int → Bool} {s : List UInt8} (h : s ≠ []) (h0 : p (cd s 0) = true) : 0 < rowF p s := by
  match s, h with
  | c :: r, _ =>
    have h0 : p (c.toNat : Int) = true := h0
    simp only [rowF, h0, if_true]; omega
def pre (s p : List UInt8) : Bool := decide ((p.length : Int) ≤ s.length) && decide ((s.take p.length).drop 0 = p)
structure Tk where
  k : Int
  s : List UInt8
  n : Int
  a : Int
  deriving DecidableEq
def tk0 : Tk := ⟨0, [], 0, 0⟩
def tkenc (t : Tk) : List SV := [.i .i64 t.k, .s t.s, .i .i64 t.n, .i .i64 t.a]
def digV (c : Nat) : Nat := if 48 ≤ c ∧ c ≤ 57 then c - 48 else if 97 ≤ c ∧ c ≤ 122 then c - 87 else if 65 ≤ c ∧ c ≤ 90 then c - 55 else 99
def valB (b : Nat) : List UInt8 → Nat → Option Nat
  | [], n => some n
  | c :: r, n => if digV c.toNat < b then valB b r (n * b + digV c.toNat) else none
def hexB (w : List UInt8) : Bool := pre w [48, 120]
def numDs (w : List UInt8) : List UInt8 := if hexB w then w.drop 2 else w
def numBase (w : List UInt8) : Nat := if hexB w then 16 else 10
def numMost (w : List UInt8) : Nat := if hexB w then 16 else 19
def numF (w : List UInt8) : Option Nat :=
  if numMost w < (numDs w).length then none else if numDs w = [] then none else
    match valB (numBase w) (numDs w) 0 with
    | none => none
    | some n => if n ≤ 9223372036854775808 then some n else none
def marksL : List UInt8 := [123, 125, 40, 41, 91, 93, 59, 124, 44, 58, 61, 43, 45, 35, 36, 126, 42, 47, 92, 38, 63, 94]
inductive Sp where
  | skip (n : Nat)
  | tok (t : Tk)
  | err (e : Int)
def stepF (s : List UInt8) (at' : Nat) : Sp :=
  if decide (cd s 0 = 32) || decide (cd s 0 = 9) || decide (cd s 0 = 10) then .skip 1
  else if pre s [40, 42] then (if Lib.index (s.drop 2) [42, 41] < 0 then .err 24 else .skip ((Lib.index (s.drop 2) [42, 41]).toNat + 4))
  else if digB (cd s 0) then (match numF (s.take (rowF numB s)) with
    | none => .err 23
    | some n => .tok ⟨2, s.take (rowF numB s), IntKind.i64.wrap n, at'⟩)
  else if letB (cd s 0) || decide (cd s 0 = 95) then .tok ⟨1, s.take (rowF namB s), 0, at'⟩
  else if pre s [47, 92] || pre s [92, 47] then .tok ⟨3, s.take 2, 0, at'⟩
  else if s.getD 0 0 ∈ marksL then .tok ⟨3, s.take 1, 0, at'⟩
  else .err 20
def tokC (s : List UInt8) : Nat → Nat → List Tk → List Tk × Int × Int
  | 0, _, out => (out, 0, 0)
  | f + 1, at', out => if s.length ≤ at' then (out, 0, 0) else
    match stepF (s.drop at') at' with
    | .skip n => tokC s f (at' + n) out
    | .tok t => tokC s f (at' + t.s.length) (out ++ [t])
    | .err e => ([], e, at')
def tokF (s : List UInt8) : List Tk × Int × Int := if 8192 < s.length then ([], 2, 0) else tokC s (s.length + 1) 0 []
theorem tokC_end {s : List UInt8} {f at' : Nat} {out : List Tk} (h : s.length ≤ at') : tokC s f at' out = (out, 0, 0) := by
  cases f with
  | zero => rfl
  | succ f => simp only [tokC, if_pos h]
theorem tokC_step {s : List UInt8} {f at' : Nat} {out : List Tk} (h : at' < s.length) (hf : s.length < at' + f) :
    ∃ f', f = f' + 1 ∧ tokC s f at' out = (match stepF (s.drop at') at' with
    | .skip n => tokC s f' (at' + n) out
    | .tok t => tokC s f' (at' + t.s.length) (out ++ [t])
    | .err e => ([], e, at')) := by
  cases f with
  | zero => omega
  | succ f => exact ⟨f, rfl, by simp only [tokC, if_neg (Nat.not_le.2 h)]⟩
end SX
end Go.Proofs.YtlgjjklikbpcoaaGreatDoor
