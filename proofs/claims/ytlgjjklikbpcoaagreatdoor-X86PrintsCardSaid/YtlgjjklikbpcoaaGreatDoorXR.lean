/- A part of SX: symbolic and concrete runs of the program, with contracts of functions; lemmas without further conditions. -/
import Derived.Test.YtlgjjklikbpcoaaGreatDoorChecked
import Derived.Shelf.Lays
import Derived.Shelf.Strings.OnBuilder
import Derived.Test.YtlgjjklikbpcoaaGreatDoorXQ
set_option linter.unusedVariables false
set_option linter.unusedSimpArgs false
set_option linter.unusedSectionVars false
/- Conditions as text, plain: trees, their texts, and the rows of both. -/
set_option linter.unusedVariables false
namespace Go.Proofs.YtlgjjklikbpcoaaGreatDoor
namespace SX
open Go Go.Proofs
def in64 (x : Int) : Prop := -9223372036854775808 ≤ x ∧ x ≤ 9223372036854775807
/-- A node and its parts. -/
inductive CT where
  | leaf (c : Cn)
  | un (c : Cn) (l : CT)
  | bin (c : Cn) (l r : CT)
def CT.c : CT → Cn
  | .leaf c => c
  | .un c _ => c
  | .bin c _ _ => c
def CT.sz : CT → Nat
  | .leaf _ => 1
  | .un _ l => l.sz + 1
  | .bin _ l r => l.sz + r.sz + 1
/-- Its nodes are as they may be. -/
def CT.good : CT → Prop
  | .leaf c => (c.k = 1 ∨ c.k = 2) ∧ 0 ≤ partsF c ∧ in64 c.v
  | .un c l => c.k = 3 ∧ l.good
  | .bin c l r => (c.k = 4 ∨ c.k = 5) ∧ l.good ∧ r.good
theorem itoa_len {n : Int} (h : in64 n) : (Lib.itoa n).length ≤ 21 := Lib.itoa_length_le n h.1 h.2
/-- A piece: a text, and the kind of its node. -/
structure Pc where
  s : List UInt8
  k : Int
end SX
end Go.Proofs.YtlgjjklikbpcoaaGreatDoor

/- The laying of a contract of the shelf at this program. -/
set_option maxRecDepth 100000
namespace Go.Proofs
open Go.Shelf
def Tryz.TJoin_ren : Go.Shelf.Ren := ⟨fun | 156 => 99 | 165 => 175 | 166 => 97 | 169 => 102 | 240 => 173 | 241 => 254 | 276 => 253 | 277 => 287 | n => n, fun | 31 => 99 | 9 => 9 | 3 => 3 | 4 => 4 | 0 => 0 | 20 => 20 | 72 => 142 | 76 => 145 | 70 => 139 | 37 => 140 | 75 => 144 | 127 => 215 | 164 => 268 | 5 => 5 | 80 => 152 | n => n, fun | n => n⟩
theorem Tryz.TJoin : Go.Proofs.Lays.n156 Tryz.prog Tryz.TJoin_ren := {
  mixed := by kernel_rfl
  f156 := Tryz.func99.trans (congrArg some (by kernel_rfl))
  f165 := Tryz.func175.trans (congrArg some (by kernel_rfl))
  f166 := Tryz.func97.trans (congrArg some (by kernel_rfl))
  f169 := Tryz.func102.trans (congrArg some (by kernel_rfl))
  f240 := Tryz.func173.trans (congrArg some (by kernel_rfl))
  f241 := Tryz.func254.trans (congrArg some (by kernel_rfl))
  f276 := Tryz.func253.trans (congrArg some (by kernel_rfl))
  f277 := Tryz.func287.trans (congrArg some (by kernel_rfl))
  t0 := Tryz.underlying0
  a0 := Tryz.isAgg0
  z0 := Tryz.sizeOf0
  v0 := Tryz.zeroValue0
  t3 := Tryz.underlying3
  a3 := Tryz.isAgg3
  z3 := Tryz.sizeOf3
  v3 := Tryz.zeroValue3
  t4 := Tryz.underlying4
  a4 := Tryz.isAgg4
  z4 := Tryz.sizeOf4
  v4 := Tryz.zeroValue4
  t9 := Tryz.underlying9
  a9 := Tryz.isAgg9
  z9 := Tryz.sizeOf9
  v9 := Tryz.zeroValue9
  t20 := Tryz.underlying20
  a20 := Tryz.isAgg20
  z20 := Tryz.sizeOf20
  v20 := Tryz.zeroValue20
  t31 := Tryz.underlying99
  a31 := Tryz.isAgg99
  z31 := Tryz.sizeOf99
  v31 := Tryz.zeroValue99
  t37 := Tryz.underlying140
  a37 := Tryz.isAgg140
  z37 := Tryz.sizeOf140
  v37 := Tryz.zeroValue140
  t70 := Tryz.underlying139
  a70 := Tryz.isAgg139
  z70 := Tryz.sizeOf139
  v70 := Tryz.zeroValue139
  t72 := Tryz.underlying142
  a72 := Tryz.isAgg142
  z72 := Tryz.sizeOf142
  v72 := Tryz.zeroValue142
  t75 := Tryz.underlying144
  a75 := Tryz.isAgg144
  z75 := Tryz.sizeOf144
  v75 := Tryz.zeroValue144
  t76 := Tryz.underlying145
  a76 := Tryz.isAgg145
  z76 := Tryz.sizeOf145
  v76 := Tryz.zeroValue145
  t127 := Tryz.underlying215
  a127 := Tryz.isAgg215
  z127 := Tryz.sizeOf215
  v127 := Tryz.zeroValue215
  t164 := Tryz.underlying268
  a164 := Tryz.isAgg268
  z164 := Tryz.sizeOf268
  v164 := Tryz.zeroValue268 }
end Go.Proofs

/- Texts of instructions: lines of operands. -/
set_option linter.unusedVariables false
set_option maxRecDepth 100000
namespace Go.Proofs.YtlgjjklikbpcoaaGreatDoor
open Go.Shelf in
theorem Tryz.joinX : Builder.Extra Tryz.prog Tryz.TJoin_ren := ⟨⟨by kernel_rfl, by kernel_rfl⟩, Tryz.underlying5, Tryz.isAgg5, Tryz.sizeOf5, Tryz.zeroValue5, by kernel_rfl, by kernel_rfl, by kernel_rfl, by decide⟩
namespace SX
open Go Go.Proofs
theorem drNo : drKeep = false := rfl
/-- A register's name, of eight. -/
def nmF (ns : List (List UInt8)) (n : Int) : List UInt8 := if 0 ≤ n ∧ n < 8 then ns.getD n.toNat [] else []
def strB (xs : List (List UInt8)) : SB := .mem 9 (xs.map .s) 1 0
theorem cells_s (E : Env) : ∀ xs : List (List UInt8), cellsL E (xs.map .s) = xs.map fun x => Value.string ⟨⟨x⟩⟩
  | [] => rfl
  | x :: r => by simp [cellsL, cells, cells_s E r]
theorem bndL_s {M : Nat} : ∀ xs : List (List UInt8), BndL M (xs.map .s)
  | [] => trivial
  | x :: r => ⟨rfl, bndL_s r⟩
theorem join_ok (xs : List (List UInt8)) (n : Nat) (hn : xs.length = n) (hn2 : n ≤ 1000) (sep : List UInt8) (hl : (Lib.join xs sep).length ≤ 140737488355328) :
    Ctr Tryz.prog 99 [.sl 0 1 0 n (some n) 0, .s sep] [strB xs] (fun r h => r = .s (Lib.join xs sep) ∧ h = [strB xs]) :=
  Ctr.of_below drNo (fn := Tryz.f99) Tryz.func99 rfl rfl (fun m => trivial) rfl fun C E m w hr ha => by
    obtain ⟨_, b, c, e1, e2, _⟩ := hr.bl 0 _ rfl
    have hbs : b < w.heap.size := size_of_heap e2
    have hargs : (denL E [.sl 0 1 0 n (some n) 0, .s sep]).toArray = #[.slice (some ⟨b, 0, none⟩) (xs.map fun x => (⟨⟨x⟩⟩ : ByteArray)).length n, .string ⟨⟨sep⟩⟩] := by
      simp [denL, wrapV, cells, e1, hn]
    have hmm : (xs.map fun x => (⟨⟨x⟩⟩ : ByteArray)).map (·.data.toList) = xs := by simp [Function.comp_def]
    rw [hargs]
    have := Any.strings_Join Tryz.TJoin Tryz.joinX b 0 n (xs.map fun x => (⟨⟨x⟩⟩ : ByteArray)) ⟨⟨sep⟩⟩ w (fun j x hx => by
      rw [cell_of_heap e2, Nat.zero_add, cells_s]
      simp only [List.getElem?_map, Option.map_eq_some_iff] at hx ⊢
      obtain ⟨y, hy, rfl⟩ := hx
      exact ⟨y, hy, rfl⟩) hbs (by simp; omega) (by simp; omega) (by rw [hmm]; exact hl)
    rw [hmm] at this
    exact this
/-- A line: a name, its operands. -/
def lineF (name : List UInt8) (xs : List (List UInt8)) : List UInt8 := (name ++ [32]) ++ Lib.join xs [44]
theorem line_ok (name : List UInt8) (xs : List (List UInt8)) (n : Nat) (hn : xs.length = n) (h0 : 0 < n) (hn2 : n ≤ 1000) (hl : (Lib.join xs [44]).length ≤ 100000) (hnm : name.length ≤ 100000) :
    Ctr Tryz.prog 213 [.s name, .sl 0 1 0 n (some n) 0] [strB xs] (fun r h => r = .s (lineF name xs) ∧ h = [strB xs]) := by
  refine Ctr.enterG tabOkF (fn := Tryz.f213) rfl rfl rfl rfl rfl rfl ⟨bndL_s xs, trivial⟩ ?_
  refine ⟨fun h => ?_, fun _ => ?_⟩
  · have h : decide ((n : Int) = 0) = true := h
    have := of_decide_eq_true h
    omega
  refine ⟨fun _ => ?_, ?_⟩
  · show name.length + 1 ≤ 9223372036854775807
    omega
  refine OpC.callG rfl rfl rfl rfl rfl rfl (fun _ => join_ok xs n hn hn2 [44] (by omega)) ?_
  refine ⟨fun _ => ?_, ⟨rfl, _, rfl⟩⟩
  show (name ++ [32]).length + (Lib.join xs [44]).length ≤ 9223372036854775807
  simp; omega
/-- The end that tells a size. -/
def endF (z : Int) (e0 e1 e2 e3 : List UInt8) : List UInt8 := if z = 1 then e0 else if z = 2 then e1 else if z = 4 then e2 else if z = 8 then e3 else []
theorem end_ok (z : Int) (e0 e1 e2 e3 : List UInt8) : Ctr Tryz.prog 212 [.i .i64 z, .sl 0 1 0 4 (some 4) 0] [strB [e0, e1, e2, e3]] (fun r h => r = .s (endF z e0 e1 e2 e3) ∧ h = [strB [e0, e1, e2, e3]]) := by
  refine Ctr.enterG tabOkF (fn := Tryz.f212) rfl rfl rfl rfl rfl rfl ⟨bndL_s _, trivial⟩ ?_
  refine WpC.loop tabOkF (β := Nat) (fun k => k ≤ 4 ∧ (0 < k → z ≠ 1) ∧ (1 < k → z ≠ 2) ∧ (2 < k → z ≠ 4) ∧ (3 < k → z ≠ 8)) (fun k => [(9, .i .i64 k)]) (fun _ => [strB [e0, e1, e2, e3]]) (fun k => 4 - k) 0 1048176 ⟨by decide, fun h => absurd h (by decide), fun h => absurd h (by decide), fun h => absurd h (by decide), fun h => absurd h (by decide)⟩ ?_ ?_
  · exact ⟨rfl, ⟨⟨rfl, rfl, rfl⟩, trivial⟩, ⟨[], rfl⟩, ⟨bndL_s _, trivial⟩, rfl⟩
  · rintro k ⟨hk, h1, h2, h3, h4⟩
    rcases (by omega : k = 0 ∨ k = 1 ∨ k = 2 ∨ k = 3 ∨ k = 4) with rfl | rfl | rfl | rfl | rfl
    · refine ⟨fun _ => ?_, fun h => absurd h (by decide)⟩
      refine ⟨fun _ => by decide, ⟨fun _ => by decide, ?_⟩⟩
      refine ⟨fun h => ?_, fun h => ?_⟩
      · have e : z = 1 := of_decide_eq_true h
        refine ⟨s_cg ?_, _, rfl⟩
        unfold endF
        rw [if_pos e]
      · have e : ¬ z = 1 := of_decide_eq_false h
        exact ⟨1, ⟨by decide, fun _ => e, fun h => absurd h (by decide), fun h => absurd h (by decide), fun h => absurd h (by decide)⟩, by decide, rfl, ⟨⟨rfl, rfl, rfl⟩, trivial⟩, ⟨[], rfl⟩, ⟨bndL_s _, trivial⟩, rfl⟩
    · refine ⟨fun _ => ?_, fun h => absurd h (by decide)⟩
      refine ⟨fun _ => by decide, ⟨fun _ => by decide, ?_⟩⟩
      refine ⟨fun h => ?_, fun h => ?_⟩
      · have e : z = 2 := of_decide_eq_true h
        refine ⟨s_cg ?_, _, rfl⟩
        unfold endF
        rw [if_neg (h1 (by decide))]
        rw [if_pos e]
      · have e : ¬ z = 2 := of_decide_eq_false h
        exact ⟨2, ⟨by decide, fun _ => h1 (by decide), fun _ => e, fun h => absurd h (by decide), fun h => absurd h (by decide)⟩, by decide, rfl, ⟨⟨rfl, rfl, rfl⟩, trivial⟩, ⟨[], rfl⟩, ⟨bndL_s _, trivial⟩, rfl⟩
    · refine ⟨fun _ => ?_, fun h => absurd h (by decide)⟩
      refine ⟨fun _ => by decide, ⟨fun _ => by decide, ?_⟩⟩
      refine ⟨fun h => ?_, fun h => ?_⟩
      · have e : z = 4 := of_decide_eq_true h
        refine ⟨s_cg ?_, _, rfl⟩
        unfold endF
        rw [if_neg (h1 (by decide))]
        rw [if_neg (h2 (by decide))]
        rw [if_pos e]
      · have e : ¬ z = 4 := of_decide_eq_false h
        exact ⟨3, ⟨by decide, fun _ => h1 (by decide), fun _ => h2 (by decide), fun _ => e, fun h => absurd h (by decide)⟩, by decide, rfl, ⟨⟨rfl, rfl, rfl⟩, trivial⟩, ⟨[], rfl⟩, ⟨bndL_s _, trivial⟩, rfl⟩
    · refine ⟨fun _ => ?_, fun h => absurd h (by decide)⟩
      refine ⟨fun _ => by decide, ⟨fun _ => by decide, ?_⟩⟩
      refine ⟨fun h => ?_, fun h => ?_⟩
      · have e : z = 8 := of_decide_eq_true h
        refine ⟨s_cg ?_, _, rfl⟩
        unfold endF
        rw [if_neg (h1 (by decide))]
        rw [if_neg (h2 (by decide))]
        rw [if_neg (h3 (by decide))]
        rw [if_pos e]
      · have e : ¬ z = 8 := of_decide_eq_false h
        exact ⟨4, ⟨by decide, fun _ => h1 (by decide), fun _ => h2 (by decide), fun _ => h3 (by decide), fun _ => e⟩, by decide, rfl, ⟨⟨rfl, rfl, rfl⟩, trivial⟩, ⟨[], rfl⟩, ⟨bndL_s _, trivial⟩, rfl⟩
    · refine ⟨fun h => absurd h (by decide), fun _ => ⟨s_cg ?_, _, rfl⟩⟩
      unfold endF
      rw [if_neg (h1 (by decide)), if_neg (h2 (by decide)), if_neg (h3 (by decide)), if_neg (h4 (by decide))]
/-- A register, or a number. -/
def orF (ns : List (List UInt8)) (h : List UInt8) (r n : Int) : List UInt8 := if 0 ≤ r then nmF ns r else h ++ Lib.itoa n
theorem lor_ok (s0 s1 s2 s3 s4 s5 s6 s7 h : List UInt8) (rd pr : Nat) (r n : Int) (hn : in64 n) (hh : h.length ≤ 10) : Ctr Tryz.prog 214 [.ptr 1 1 0 [], .i .i64 r, .i .i64 n] [rowS s0 s1 s2 s3 s4 s5 s6 s7, langB h rd pr]
    (fun x h' => x = .s (orF [s0, s1, s2, s3, s4, s5, s6, s7] h r n) ∧ h' = [rowS s0 s1 s2 s3 s4 s5 s6 s7, langB h rd pr]) := by
  have hi := itoa_len hn
  refine Ctr.enterG tabOkF (fn := Tryz.f214) rfl rfl rfl rfl rfl rfl bndLang ?_
  refine ⟨fun h1 => ?_, fun h1 => ?_⟩
  · have h1 : (0 : Int) ≤ r := of_decide_eq_true h1
    refine OpC.callG rfl rfl rfl rfl rfl rfl (fun _ => lname_ok s0 s1 s2 s3 s4 s5 s6 s7 h rd pr r) ?_
    refine ⟨s_cg ?_, _, rfl⟩
    unfold orF nmF
    rw [if_pos h1]
  · have h1 : ¬ (0 : Int) ≤ r := of_decide_eq_false h1
    refine WpC.dr tabOkF mixed 0 ?_
    refine OpD.callV rfl rfl rfl rfl rfl rfl rfl (fun _ => itoa_ok n hn.1 hn.2) ?_
    refine ⟨fun _ => ?_, ?_⟩
    · show h.length + (Lib.itoa n).length ≤ 9223372036854775807
      omega
    refine ⟨by kernel_rfl, ?_⟩
    refine ⟨s_cg ?_, _, rfl⟩
    unfold orF
    rw [if_neg h1]
end SX
end Go.Proofs.YtlgjjklikbpcoaaGreatDoor

/- Which instructions are well formed: the reference's answer, by op. Printed by uic.py. -/
set_option linter.unusedVariables false
set_option maxRecDepth 100000
namespace Go.Proofs.YtlgjjklikbpcoaaGreatDoor
namespace SX
open Go Go.Proofs
theorem formed_0 (op dst a b imm loc off ix sz fn pr su to : Int) (acq wk rel ze : Bool) (h1 : ¬ op = 1) (h2 : ¬ op = 2) (h3 : ¬ op = 3) (h4 : ¬ op = 4) (h5 : ¬ op = 5) (h6 : ¬ op = 6) (h7 : ¬ op = 7) (h8 : ¬ op = 8) (h9 : ¬ op = 9) : CtrV Tryz.prog 217 [.agg (ienc ⟨op, dst, a, b, imm, loc, off, ix, sz, fn, acq, wk, rel, pr, su, to, ze⟩)] (.b false) := by
  refine Ctr.enterV tabOkF (fn := Tryz.f217) rfl rfl rfl rfl rfl rfl ?_
  refine ⟨fun h => absurd (of_decide_eq_true h) h1, fun _ => ?_⟩
  refine ⟨fun h => absurd (of_decide_eq_true h) h2, fun _ => ?_⟩
  refine ⟨fun h => absurd (of_decide_eq_true h) h3, fun _ => ?_⟩
  refine ⟨fun h => absurd (of_decide_eq_true h) h4, fun _ => ?_⟩
  refine ⟨fun h => absurd (of_decide_eq_true h) h5, fun _ => ?_⟩
  refine ⟨fun h => absurd (of_decide_eq_true h) h6, fun _ => ?_⟩
  refine ⟨fun h => absurd (of_decide_eq_true h) h7, fun _ => ?_⟩
  refine ⟨fun h => absurd (of_decide_eq_true h) h8, fun _ => ?_⟩
  refine ⟨fun h => absurd (of_decide_eq_true h) h9, fun _ => ?_⟩
  refine OpC.callV rfl rfl rfl rfl rfl rfl rfl (fun _ => reads_ok ⟨op, dst, a, b, imm, loc, off, ix, sz, fn, acq, wk, rel, pr, su, to, ze⟩) ?_
  refine OpC.callV rfl rfl rfl rfl rfl rfl rfl (fun _ => writes_ok ⟨op, dst, a, b, imm, loc, off, ix, sz, fn, acq, wk, rel, pr, su, to, ze⟩) ?_
  refine ⟨fun h => ?_, fun _ => ?_⟩
  · have h : ((decide (op = 4) || decide (op = 6)) || (decide (op = 5) || decide (op = 6))) = true := h
    rw [decide_eq_false h4, decide_eq_false h5, decide_eq_false h6] at h
    cases h
  exact rfl
theorem bare_1 (dst a b imm loc off ix sz fn pr su to : Int) (acq wk rel ze : Bool) : CtrV Tryz.prog 147 [.agg (ienc ⟨1, dst, a, b, imm, loc, off, ix, sz, fn, acq, wk, rel, pr, su, to, ze⟩)] (.tup [.agg (ienc ⟨0, (-1), a, b, 0, loc, off, ix, sz, fn, acq, wk, rel, pr, su, to, ze⟩), .b (rgB dst)]) := by
  refine Ctr.enterV tabOkF (fn := Tryz.f147) rfl rfl rfl rfl rfl rfl ?_
  refine ⟨fun _ => ?_, fun h => no_tf h⟩
  refine OpC.callV rfl rfl rfl rfl rfl rfl rfl (fun _ => rrg_ok dst) ?_
  refine ⟨fun h => no_ft h, fun _ => ?_⟩
  exact rfl
theorem bare_2 (dst a b imm loc off ix sz fn pr su to : Int) (acq wk rel ze : Bool) : CtrV Tryz.prog 147 [.agg (ienc ⟨2, dst, a, b, imm, loc, off, ix, sz, fn, acq, wk, rel, pr, su, to, ze⟩)] (.tup [.agg (ienc ⟨0, (-1), (-1), b, imm, loc, off, ix, sz, fn, acq, wk, rel, pr, su, to, ze⟩), .b (rgB dst && rgB a)]) := by
  refine Ctr.enterV tabOkF (fn := Tryz.f147) rfl rfl rfl rfl rfl rfl ?_
  refine ⟨fun h => no_ft h, fun _ => ?_⟩
  refine ⟨fun _ => ?_, fun h => no_tf h⟩
  refine OpC.callV rfl rfl rfl rfl rfl rfl rfl (fun _ => rrg_ok dst) ?_
  refine OpC.callV rfl rfl rfl rfl rfl rfl rfl (fun _ => rrg_ok a) ?_
  refine ⟨fun h => no_ft h, fun _ => ?_⟩
  exact rfl
theorem bare_3 (dst a b imm loc off ix sz fn pr su to : Int) (acq wk rel ze : Bool) : CtrV Tryz.prog 147 [.agg (ienc ⟨3, dst, a, b, imm, loc, off, ix, sz, fn, acq, wk, rel, pr, su, to, ze⟩)] (.tup [.agg (ienc ⟨0, (-1), (-1), (-1), 0, loc, off, ix, sz, 0, acq, wk, rel, pr, su, to, ze⟩), .b ((((rgB dst && rgB a) && decide (1 ≤ fn)) && decide (fn ≤ 5)) && (decide (b = -1) || (rgB b && decide (imm = 0))))]) := by
  refine Ctr.enterV tabOkF (fn := Tryz.f147) rfl rfl rfl rfl rfl rfl ?_
  refine ⟨fun h => no_ft h, fun _ => ?_⟩
  refine ⟨fun h => no_ft h, fun _ => ?_⟩
  refine ⟨fun _ => ?_, fun h => no_tf h⟩
  refine OpC.callV rfl rfl rfl rfl rfl rfl rfl (fun _ => rrg_ok dst) ?_
  refine OpC.callV rfl rfl rfl rfl rfl rfl rfl (fun _ => rrg_ok a) ?_
  refine OpC.callV rfl rfl rfl rfl rfl rfl rfl (fun _ => rrg_ok b) ?_
  refine ⟨fun h => no_ft h, fun _ => ?_⟩
  exact rfl
theorem bare_4 (dst a b imm loc off ix sz fn pr su to : Int) (acq wk rel ze : Bool) : CtrV Tryz.prog 147 [.agg (ienc ⟨4, dst, a, b, imm, loc, off, ix, sz, fn, acq, wk, rel, pr, su, to, ze⟩)] (.tup [.agg (ienc ⟨0, (-1), a, b, imm, 0, 0, (-1), 0, fn, false, false, rel, pr, su, to, ze⟩), .b ((rgB dst && accB ⟨4, dst, a, b, imm, loc, off, ix, sz, fn, acq, wk, rel, pr, su, to, ze⟩) && !(acq && wk))]) := by
  refine Ctr.enterV tabOkF (fn := Tryz.f147) rfl rfl rfl rfl rfl rfl ?_
  refine ⟨fun h => no_ft h, fun _ => ?_⟩
  refine ⟨fun h => no_ft h, fun _ => ?_⟩
  refine ⟨fun h => no_ft h, fun _ => ?_⟩
  refine ⟨fun _ => ?_, fun h => no_tf h⟩
  refine OpC.callV rfl rfl rfl rfl rfl rfl rfl (fun _ => rrg_ok dst) ?_
  refine OpC.callV rfl rfl rfl rfl rfl rfl rfl (fun _ => rplace_ok ⟨4, dst, a, b, imm, loc, off, ix, sz, fn, acq, wk, rel, pr, su, to, ze⟩) ?_
  refine ⟨fun _ => ?_, fun h => no_tf h⟩
  exact rfl
theorem bare_5 (dst a b imm loc off ix sz fn pr su to : Int) (acq wk rel ze : Bool) : CtrV Tryz.prog 147 [.agg (ienc ⟨5, dst, a, b, imm, loc, off, ix, sz, fn, acq, wk, rel, pr, su, to, ze⟩)] (.tup [.agg (ienc ⟨0, dst, (-1), b, 0, 0, 0, (-1), 0, fn, acq, wk, false, pr, su, to, ze⟩), .b (accB ⟨5, dst, a, b, imm, loc, off, ix, sz, fn, acq, wk, rel, pr, su, to, ze⟩ && (decide (a = -1) || (rgB a && decide (imm = 0))))]) := by
  refine Ctr.enterV tabOkF (fn := Tryz.f147) rfl rfl rfl rfl rfl rfl ?_
  refine ⟨fun h => no_ft h, fun _ => ?_⟩
  refine ⟨fun h => no_ft h, fun _ => ?_⟩
  refine ⟨fun h => no_ft h, fun _ => ?_⟩
  refine ⟨fun h => no_ft h, fun _ => ?_⟩
  refine ⟨fun _ => ?_, fun h => no_tf h⟩
  refine OpC.callV rfl rfl rfl rfl rfl rfl rfl (fun _ => rplace_ok ⟨5, dst, a, b, imm, loc, off, ix, sz, fn, acq, wk, rel, pr, su, to, ze⟩) ?_
  refine OpC.callV rfl rfl rfl rfl rfl rfl rfl (fun _ => rrg_ok a) ?_
  refine ⟨fun _ => ?_, fun h => no_tf h⟩
  exact rfl
theorem bare_6 (dst a b imm loc off ix sz fn pr su to : Int) (acq wk rel ze : Bool) : CtrV Tryz.prog 147 [.agg (ienc ⟨6, dst, a, b, imm, loc, off, ix, sz, fn, acq, wk, rel, pr, su, to, ze⟩)] (.tup [.agg (ienc ⟨0, (-1), (-1), b, imm, 0, 0, (-1), 0, 0, false, wk, false, pr, su, to, ze⟩), .b (((rgB dst && rgB a) && accB ⟨6, dst, a, b, imm, loc, off, ix, sz, fn, acq, wk, rel, pr, su, to, ze⟩) && (decide (fn = 6) || decide (fn = 1)))]) := by
  refine Ctr.enterV tabOkF (fn := Tryz.f147) rfl rfl rfl rfl rfl rfl ?_
  refine ⟨fun h => no_ft h, fun _ => ?_⟩
  refine ⟨fun h => no_ft h, fun _ => ?_⟩
  refine ⟨fun h => no_ft h, fun _ => ?_⟩
  refine ⟨fun h => no_ft h, fun _ => ?_⟩
  refine ⟨fun h => no_ft h, fun _ => ?_⟩
  refine ⟨fun _ => ?_, fun h => no_tf h⟩
  refine OpC.callV rfl rfl rfl rfl rfl rfl rfl (fun _ => rrg_ok dst) ?_
  refine OpC.callV rfl rfl rfl rfl rfl rfl rfl (fun _ => rrg_ok a) ?_
  refine OpC.callV rfl rfl rfl rfl rfl rfl rfl (fun _ => rplace_ok ⟨6, dst, a, b, imm, loc, off, ix, sz, fn, acq, wk, rel, pr, su, to, ze⟩) ?_
  refine ⟨fun _ => ?_, fun h => no_tf h⟩
  exact rfl
theorem bare_7 (dst a b imm loc off ix sz fn pr su to : Int) (acq wk rel ze : Bool) : CtrV Tryz.prog 147 [.agg (ienc ⟨7, dst, a, b, imm, loc, off, ix, sz, fn, acq, wk, rel, pr, su, to, ze⟩)] (.tup [.agg (ienc ⟨0, dst, a, b, imm, loc, off, ix, sz, fn, acq, wk, rel, 0, 0, to, ze⟩), .b (((decide (1 ≤ pr) && decide (pr ≤ 3)) && decide (1 ≤ su)) && decide (su ≤ 3))]) := by
  refine Ctr.enterV tabOkF (fn := Tryz.f147) rfl rfl rfl rfl rfl rfl ?_
  refine ⟨fun h => no_ft h, fun _ => ?_⟩
  refine ⟨fun h => no_ft h, fun _ => ?_⟩
  refine ⟨fun h => no_ft h, fun _ => ?_⟩
  refine ⟨fun h => no_ft h, fun _ => ?_⟩
  refine ⟨fun h => no_ft h, fun _ => ?_⟩
  refine ⟨fun h => no_ft h, fun _ => ?_⟩
  refine ⟨fun _ => ?_, fun h => no_tf h⟩
  refine ⟨fun h => no_ft h, fun _ => ?_⟩
  exact rfl
theorem bare_8 (dst a b imm loc off ix sz fn pr su to : Int) (acq wk rel ze : Bool) : CtrV Tryz.prog 147 [.agg (ienc ⟨8, dst, a, b, imm, loc, off, ix, sz, fn, acq, wk, rel, pr, su, to, ze⟩)] (.tup [.agg (ienc ⟨0, dst, a, b, imm, loc, off, ix, sz, fn, acq, wk, rel, pr, su, to, ze⟩), .b (true)]) := by
  refine Ctr.enterV tabOkF (fn := Tryz.f147) rfl rfl rfl rfl rfl rfl ?_
  refine ⟨fun h => no_ft h, fun _ => ?_⟩
  refine ⟨fun h => no_ft h, fun _ => ?_⟩
  refine ⟨fun h => no_ft h, fun _ => ?_⟩
  refine ⟨fun h => no_ft h, fun _ => ?_⟩
  refine ⟨fun h => no_ft h, fun _ => ?_⟩
  refine ⟨fun h => no_ft h, fun _ => ?_⟩
  refine ⟨fun h => no_ft h, fun _ => ?_⟩
  refine ⟨fun _ => ?_, fun h => no_tf h⟩
  refine ⟨fun h => no_ft h, fun _ => ?_⟩
  exact rfl
theorem bare_9 (dst a b imm loc off ix sz fn pr su to : Int) (acq wk rel ze : Bool) : CtrV Tryz.prog 147 [.agg (ienc ⟨9, dst, a, b, imm, loc, off, ix, sz, fn, acq, wk, rel, pr, su, to, ze⟩)] (.tup [.agg (ienc ⟨0, dst, (-1), b, imm, loc, off, ix, sz, fn, acq, wk, rel, pr, su, 0, false⟩), .b (rgB a)]) := by
  refine Ctr.enterV tabOkF (fn := Tryz.f147) rfl rfl rfl rfl rfl rfl ?_
  refine ⟨fun h => no_ft h, fun _ => ?_⟩
  refine ⟨fun h => no_ft h, fun _ => ?_⟩
  refine ⟨fun h => no_ft h, fun _ => ?_⟩
  refine ⟨fun h => no_ft h, fun _ => ?_⟩
  refine ⟨fun h => no_ft h, fun _ => ?_⟩
  refine ⟨fun h => no_ft h, fun _ => ?_⟩
  refine ⟨fun h => no_ft h, fun _ => ?_⟩
  refine ⟨fun h => no_ft h, fun _ => ?_⟩
  refine ⟨fun _ => ?_, fun h => no_tf h⟩
  refine OpC.callV rfl rfl rfl rfl rfl rfl rfl (fun _ => rrg_ok a) ?_
  refine ⟨fun h => no_ft h, fun _ => ?_⟩
  exact rfl
theorem bare_0 (op dst a b imm loc off ix sz fn pr su to : Int) (acq wk rel ze : Bool) (h1 : ¬ op = 1) (h2 : ¬ op = 2) (h3 : ¬ op = 3) (h4 : ¬ op = 4) (h5 : ¬ op = 5) (h6 : ¬ op = 6) (h7 : ¬ op = 7) (h8 : ¬ op = 8) (h9 : ¬ op = 9) : CtrV Tryz.prog 147 [.agg (ienc ⟨op, dst, a, b, imm, loc, off, ix, sz, fn, acq, wk, rel, pr, su, to, ze⟩)] (.tup [.agg (ienc ⟨0, dst, a, b, imm, loc, off, ix, sz, fn, acq, wk, rel, pr, su, to, ze⟩), .b false]) := by
  refine Ctr.enterV tabOkF (fn := Tryz.f147) rfl rfl rfl rfl rfl rfl ?_
  refine ⟨fun h => absurd (of_decide_eq_true h) h1, fun _ => ?_⟩
  refine ⟨fun h => absurd (of_decide_eq_true h) h2, fun _ => ?_⟩
  refine ⟨fun h => absurd (of_decide_eq_true h) h3, fun _ => ?_⟩
  refine ⟨fun h => absurd (of_decide_eq_true h) h4, fun _ => ?_⟩
  refine ⟨fun h => absurd (of_decide_eq_true h) h5, fun _ => ?_⟩
  refine ⟨fun h => absurd (of_decide_eq_true h) h6, fun _ => ?_⟩
  refine ⟨fun h => absurd (of_decide_eq_true h) h7, fun _ => ?_⟩
  refine ⟨fun h => absurd (of_decide_eq_true h) h8, fun _ => ?_⟩
  refine ⟨fun h => absurd (of_decide_eq_true h) h9, fun _ => ?_⟩
  refine ⟨fun h => ?_, fun _ => ?_⟩
  · have h : ((decide (op = 4) || decide (op = 5)) || decide (op = 6)) = true := h
    rw [decide_eq_false h4, decide_eq_false h5, decide_eq_false h6] at h
    cases h
  exact rfl
end SX
end Go.Proofs.YtlgjjklikbpcoaaGreatDoor

/- Which instructions are well formed: one plain law for the program's and the reference's answer. Printed by uid.py. -/
set_option linter.unusedVariables false
set_option maxRecDepth 100000
namespace Go.Proofs.YtlgjjklikbpcoaaGreatDoor
namespace SX
open Go Go.Proofs
def form1 (i : In) : Bool := (rgB i.dst && eqI ⟨1, i.dst, (-1), (-1), i.imm, 0, 0, (-1), 0, 0, false, false, false, 0, 0, 0, false⟩ i)
def form2 (i : In) : Bool := ((rgB i.dst && rgB i.a) && eqI ⟨2, i.dst, i.a, (-1), 0, 0, 0, (-1), 0, 0, false, false, false, 0, 0, 0, false⟩ i)
def form3 (i : In) : Bool := (if i.b = -1 then ((((rgB i.dst && rgB i.a) && decide (1 ≤ i.fn)) && decide (i.fn ≤ 5)) && eqI ⟨3, i.dst, i.a, i.b, i.imm, 0, 0, (-1), 0, i.fn, false, false, false, 0, 0, 0, false⟩ i) else (((((rgB i.dst && rgB i.a) && decide (1 ≤ i.fn)) && decide (i.fn ≤ 5)) && rgB i.b) && eqI ⟨3, i.dst, i.a, i.b, 0, 0, 0, (-1), 0, i.fn, false, false, false, 0, 0, 0, false⟩ i))
def form4 (i : In) : Bool := (((rgB i.dst && accB i) && !(i.acq && i.wk)) && eqI ⟨4, i.dst, (-1), (-1), 0, i.loc, i.off, i.ix, i.sz, 0, i.acq, i.wk, false, 0, 0, 0, false⟩ i)
def form5 (i : In) : Bool := (if i.a = -1 then (accB i && eqI ⟨5, (-1), i.a, (-1), i.imm, i.loc, i.off, i.ix, i.sz, 0, false, false, i.rel, 0, 0, 0, false⟩ i) else ((accB i && rgB i.a) && eqI ⟨5, (-1), i.a, (-1), 0, i.loc, i.off, i.ix, i.sz, 0, false, false, i.rel, 0, 0, 0, false⟩ i))
def form6 (i : In) : Bool := ((((rgB i.dst && rgB i.a) && accB i) && (decide (i.fn = 6) || decide (i.fn = 1))) && eqI ⟨6, i.dst, i.a, (-1), 0, i.loc, i.off, i.ix, i.sz, i.fn, i.acq, false, i.rel, 0, 0, 0, false⟩ i)
def form7 (i : In) : Bool := ((fnB i.pr && fnB i.su) && eqI ⟨7, (-1), (-1), (-1), 0, 0, 0, (-1), 0, 0, false, false, false, i.pr, i.su, 0, false⟩ i)
def form8 (i : In) : Bool := (true && eqI ⟨8, (-1), (-1), (-1), 0, 0, 0, (-1), 0, 0, false, false, false, 0, 0, 0, false⟩ i)
def form9 (i : In) : Bool := (rgB i.a && eqI ⟨9, (-1), i.a, (-1), 0, 0, 0, (-1), 0, 0, false, false, false, 0, 0, i.to, i.ze⟩ i)
def formP (i : In) : Bool :=
  if i.op = 1 then form1 i else
  if i.op = 2 then form2 i else
  if i.op = 3 then form3 i else
  if i.op = 4 then form4 i else
  if i.op = 5 then form5 i else
  if i.op = 6 then form6 i else
  if i.op = 7 then form7 i else
  if i.op = 8 then form8 i else
  if i.op = 9 then form9 i else
  false
theorem formed_ok (i : In) : CtrV Tryz.prog 217 [.agg (ienc i)] (.b (formP i)) := by
  obtain ⟨op, dst, a, b, imm, loc, off, ix, sz, fn, acq, wk, rel, pr, su, to, ze⟩ := i
  by_cases h1 : op = 1
  · subst h1
    exact formed_1 dst a b imm loc off ix sz fn pr su to acq wk rel ze
  by_cases h2 : op = 2
  · subst h2
    exact formed_2 dst a b imm loc off ix sz fn pr su to acq wk rel ze
  by_cases h3 : op = 3
  · subst h3
    by_cases hb : b = -1
    · have := formed_3i dst a b imm loc off ix sz fn pr su to acq wk rel ze hb
      show CtrV _ _ _ (.b (form3 ⟨3, dst, a, b, imm, loc, off, ix, sz, fn, acq, wk, rel, pr, su, to, ze⟩))
      unfold form3
      rw [if_pos (show b = -1 from hb)]; exact this
    · have := formed_3r dst a b imm loc off ix sz fn pr su to acq wk rel ze hb
      show CtrV _ _ _ (.b (form3 ⟨3, dst, a, b, imm, loc, off, ix, sz, fn, acq, wk, rel, pr, su, to, ze⟩))
      unfold form3
      rw [if_neg (show ¬ b = -1 from hb)]; exact this
  by_cases h4 : op = 4
  · subst h4
    exact formed_4 dst a b imm loc off ix sz fn pr su to acq wk rel ze
  by_cases h5 : op = 5
  · subst h5
    by_cases hb : a = -1
    · have := formed_5i dst a b imm loc off ix sz fn pr su to acq wk rel ze hb
      show CtrV _ _ _ (.b (form5 ⟨5, dst, a, b, imm, loc, off, ix, sz, fn, acq, wk, rel, pr, su, to, ze⟩))
      unfold form5
      rw [if_pos (show a = -1 from hb)]; exact this
    · have := formed_5r dst a b imm loc off ix sz fn pr su to acq wk rel ze hb
      show CtrV _ _ _ (.b (form5 ⟨5, dst, a, b, imm, loc, off, ix, sz, fn, acq, wk, rel, pr, su, to, ze⟩))
      unfold form5
      rw [if_neg (show ¬ a = -1 from hb)]; exact this
  by_cases h6 : op = 6
  · subst h6
    exact formed_6 dst a b imm loc off ix sz fn pr su to acq wk rel ze
  by_cases h7 : op = 7
  · subst h7
    exact formed_7 dst a b imm loc off ix sz fn pr su to acq wk rel ze
  by_cases h8 : op = 8
  · subst h8
    exact formed_8 dst a b imm loc off ix sz fn pr su to acq wk rel ze
  by_cases h9 : op = 9
  · subst h9
    exact formed_9 dst a b imm loc off ix sz fn pr su to acq wk rel ze
  have := formed_0 op dst a b imm loc off ix sz fn pr su to acq wk rel ze h1 h2 h3 h4 h5 h6 h7 h8 h9
  unfold formP
  simp only [if_neg h1, if_neg h2, if_neg h3, if_neg h4, if_neg h5, if_neg h6, if_neg h7, if_neg h8, if_neg h9]
  exact this
def z0 : In := ⟨0, (-1), (-1), (-1), 0, 0, 0, (-1), 0, 0, false, false, false, 0, 0, 0, false⟩
theorem bf_1 (dst a b imm loc off ix sz fn pr su to : Int) (acq wk rel ze : Bool) : ((rgB dst) && eqI ⟨0, (-1), a, b, 0, loc, off, ix, sz, fn, acq, wk, rel, pr, su, to, ze⟩ z0) = formP ⟨1, dst, a, b, imm, loc, off, ix, sz, fn, acq, wk, rel, pr, su, to, ze⟩ := by
  show _ = form1 ⟨1, dst, a, b, imm, loc, off, ix, sz, fn, acq, wk, rel, pr, su, to, ze⟩
  unfold form1
  rw [Bool.eq_iff_iff]
  simp only [eqI, z0, fnB, Bool.and_eq_true, Bool.or_eq_true, decide_eq_true_eq, beq_iff_eq]
  grind
theorem bf_2 (dst a b imm loc off ix sz fn pr su to : Int) (acq wk rel ze : Bool) : ((rgB dst && rgB a) && eqI ⟨0, (-1), (-1), b, imm, loc, off, ix, sz, fn, acq, wk, rel, pr, su, to, ze⟩ z0) = formP ⟨2, dst, a, b, imm, loc, off, ix, sz, fn, acq, wk, rel, pr, su, to, ze⟩ := by
  show _ = form2 ⟨2, dst, a, b, imm, loc, off, ix, sz, fn, acq, wk, rel, pr, su, to, ze⟩
  unfold form2
  rw [Bool.eq_iff_iff]
  simp only [eqI, z0, fnB, Bool.and_eq_true, Bool.or_eq_true, decide_eq_true_eq, beq_iff_eq]
  grind
theorem bf_3 (dst a b imm loc off ix sz fn pr su to : Int) (acq wk rel ze : Bool) : ((((((rgB dst && rgB a) && decide (1 ≤ fn)) && decide (fn ≤ 5))) && (decide (b = -1) || (rgB b && decide (imm = 0)))) && eqI ⟨0, (-1), (-1), (-1), 0, loc, off, ix, sz, 0, acq, wk, rel, pr, su, to, ze⟩ z0) = formP ⟨3, dst, a, b, imm, loc, off, ix, sz, fn, acq, wk, rel, pr, su, to, ze⟩ := by
  show _ = form3 ⟨3, dst, a, b, imm, loc, off, ix, sz, fn, acq, wk, rel, pr, su, to, ze⟩
  unfold form3
  by_cases hb : b = -1
  · subst hb
    rw [if_pos (show (-1 : Int) = -1 from rfl)]
    rw [Bool.eq_iff_iff]
    simp only [eqI, z0, Bool.and_eq_true, Bool.or_eq_true, decide_eq_true_eq, beq_iff_eq]
    grind
  · rw [if_neg (show ¬ b = -1 from hb)]
    rw [Bool.eq_iff_iff]
    simp only [eqI, z0, Bool.and_eq_true, Bool.or_eq_true, decide_eq_true_eq, beq_iff_eq]
    grind
theorem bf_4 (dst a b imm loc off ix sz fn pr su to : Int) (acq wk rel ze : Bool) : (((rgB dst && accB ⟨4, dst, a, b, imm, loc, off, ix, sz, fn, acq, wk, rel, pr, su, to, ze⟩) && !(acq && wk)) && eqI ⟨0, (-1), a, b, imm, 0, 0, (-1), 0, fn, false, false, rel, pr, su, to, ze⟩ z0) = formP ⟨4, dst, a, b, imm, loc, off, ix, sz, fn, acq, wk, rel, pr, su, to, ze⟩ := by
  show _ = form4 ⟨4, dst, a, b, imm, loc, off, ix, sz, fn, acq, wk, rel, pr, su, to, ze⟩
  unfold form4
  generalize accB ⟨4, dst, a, b, imm, loc, off, ix, sz, fn, acq, wk, rel, pr, su, to, ze⟩ = ac
  rw [Bool.eq_iff_iff]
  simp only [eqI, z0, fnB, Bool.and_eq_true, Bool.or_eq_true, decide_eq_true_eq, beq_iff_eq]
  grind
theorem bf_5 (dst a b imm loc off ix sz fn pr su to : Int) (acq wk rel ze : Bool) : ((accB ⟨5, dst, a, b, imm, loc, off, ix, sz, fn, acq, wk, rel, pr, su, to, ze⟩ && (decide (a = -1) || (rgB a && decide (imm = 0)))) && eqI ⟨0, dst, (-1), b, 0, 0, 0, (-1), 0, fn, acq, wk, false, pr, su, to, ze⟩ z0) = formP ⟨5, dst, a, b, imm, loc, off, ix, sz, fn, acq, wk, rel, pr, su, to, ze⟩ := by
  show _ = form5 ⟨5, dst, a, b, imm, loc, off, ix, sz, fn, acq, wk, rel, pr, su, to, ze⟩
  unfold form5
  generalize accB ⟨5, dst, a, b, imm, loc, off, ix, sz, fn, acq, wk, rel, pr, su, to, ze⟩ = ac
  by_cases hb : a = -1
  · subst hb
    rw [if_pos (show (-1 : Int) = -1 from rfl)]
    rw [Bool.eq_iff_iff]
    simp only [eqI, z0, Bool.and_eq_true, Bool.or_eq_true, decide_eq_true_eq, beq_iff_eq]
    grind
  · rw [if_neg (show ¬ a = -1 from hb)]
    rw [Bool.eq_iff_iff]
    simp only [eqI, z0, Bool.and_eq_true, Bool.or_eq_true, decide_eq_true_eq, beq_iff_eq]
    grind
theorem bf_6 (dst a b imm loc off ix sz fn pr su to : Int) (acq wk rel ze : Bool) : ((((rgB dst && rgB a) && accB ⟨6, dst, a, b, imm, loc, off, ix, sz, fn, acq, wk, rel, pr, su, to, ze⟩) && (decide (fn = 6) || decide (fn = 1))) && eqI ⟨0, (-1), (-1), b, imm, 0, 0, (-1), 0, 0, false, wk, false, pr, su, to, ze⟩ z0) = formP ⟨6, dst, a, b, imm, loc, off, ix, sz, fn, acq, wk, rel, pr, su, to, ze⟩ := by
  show _ = form6 ⟨6, dst, a, b, imm, loc, off, ix, sz, fn, acq, wk, rel, pr, su, to, ze⟩
  unfold form6
  generalize accB ⟨6, dst, a, b, imm, loc, off, ix, sz, fn, acq, wk, rel, pr, su, to, ze⟩ = ac
  rw [Bool.eq_iff_iff]
  simp only [eqI, z0, fnB, Bool.and_eq_true, Bool.or_eq_true, decide_eq_true_eq, beq_iff_eq]
  grind
theorem bf_7 (dst a b imm loc off ix sz fn pr su to : Int) (acq wk rel ze : Bool) : ((((decide (1 ≤ pr) && decide (pr ≤ 3)) && decide (1 ≤ su)) && decide (su ≤ 3)) && eqI ⟨0, dst, a, b, imm, loc, off, ix, sz, fn, acq, wk, rel, 0, 0, to, ze⟩ z0) = formP ⟨7, dst, a, b, imm, loc, off, ix, sz, fn, acq, wk, rel, pr, su, to, ze⟩ := by
  show _ = form7 ⟨7, dst, a, b, imm, loc, off, ix, sz, fn, acq, wk, rel, pr, su, to, ze⟩
  unfold form7
  rw [Bool.eq_iff_iff]
  simp only [eqI, z0, fnB, Bool.and_eq_true, Bool.or_eq_true, decide_eq_true_eq, beq_iff_eq]
  grind
theorem bf_8 (dst a b imm loc off ix sz fn pr su to : Int) (acq wk rel ze : Bool) : ((true) && eqI ⟨0, dst, a, b, imm, loc, off, ix, sz, fn, acq, wk, rel, pr, su, to, ze⟩ z0) = formP ⟨8, dst, a, b, imm, loc, off, ix, sz, fn, acq, wk, rel, pr, su, to, ze⟩ := by
  show _ = form8 ⟨8, dst, a, b, imm, loc, off, ix, sz, fn, acq, wk, rel, pr, su, to, ze⟩
  unfold form8
  rw [Bool.eq_iff_iff]
  simp only [eqI, z0, fnB, Bool.and_eq_true, Bool.or_eq_true, decide_eq_true_eq, beq_iff_eq]
  grind
theorem bf_9 (dst a b imm loc off ix sz fn pr su to : Int) (acq wk rel ze : Bool) : ((rgB a) && eqI ⟨0, dst, (-1), b, imm, loc, off, ix, sz, fn, acq, wk, rel, pr, su, 0, false⟩ z0) = formP ⟨9, dst, a, b, imm, loc, off, ix, sz, fn, acq, wk, rel, pr, su, to, ze⟩ := by
  show _ = form9 ⟨9, dst, a, b, imm, loc, off, ix, sz, fn, acq, wk, rel, pr, su, to, ze⟩
  unfold form9
  rw [Bool.eq_iff_iff]
  simp only [eqI, z0, fnB, Bool.and_eq_true, Bool.or_eq_true, decide_eq_true_eq, beq_iff_eq]
  grind
end SX
end Go.Proofs.YtlgjjklikbpcoaaGreatDoor

/- Right: is an instruction good between two places? Printed by uie.py. -/
set_option linter.unusedVariables false
set_option maxRecDepth 100000
namespace Go.Proofs.YtlgjjklikbpcoaaGreatDoor
namespace SX
open Go Go.Proofs
theorem bare_ok (i : In) : ∃ c o, CtrV Tryz.prog 147 [.agg (ienc i)] (.tup [.agg (ienc c), .b o]) ∧ (o && eqI c z0) = formP i := by
  obtain ⟨op, dst, a, b, imm, loc, off, ix, sz, fn, acq, wk, rel, pr, su, to, ze⟩ := i
  by_cases h1 : op = 1
  · subst h1
    exact ⟨_, _, bare_1 dst a b imm loc off ix sz fn pr su to acq wk rel ze, bf_1 dst a b imm loc off ix sz fn pr su to acq wk rel ze⟩
  by_cases h2 : op = 2
  · subst h2
    exact ⟨_, _, bare_2 dst a b imm loc off ix sz fn pr su to acq wk rel ze, bf_2 dst a b imm loc off ix sz fn pr su to acq wk rel ze⟩
  by_cases h3 : op = 3
  · subst h3
    exact ⟨_, _, bare_3 dst a b imm loc off ix sz fn pr su to acq wk rel ze, bf_3 dst a b imm loc off ix sz fn pr su to acq wk rel ze⟩
  by_cases h4 : op = 4
  · subst h4
    exact ⟨_, _, bare_4 dst a b imm loc off ix sz fn pr su to acq wk rel ze, bf_4 dst a b imm loc off ix sz fn pr su to acq wk rel ze⟩
  by_cases h5 : op = 5
  · subst h5
    exact ⟨_, _, bare_5 dst a b imm loc off ix sz fn pr su to acq wk rel ze, bf_5 dst a b imm loc off ix sz fn pr su to acq wk rel ze⟩
  by_cases h6 : op = 6
  · subst h6
    exact ⟨_, _, bare_6 dst a b imm loc off ix sz fn pr su to acq wk rel ze, bf_6 dst a b imm loc off ix sz fn pr su to acq wk rel ze⟩
  by_cases h7 : op = 7
  · subst h7
    exact ⟨_, _, bare_7 dst a b imm loc off ix sz fn pr su to acq wk rel ze, bf_7 dst a b imm loc off ix sz fn pr su to acq wk rel ze⟩
  by_cases h8 : op = 8
  · subst h8
    exact ⟨_, _, bare_8 dst a b imm loc off ix sz fn pr su to acq wk rel ze, bf_8 dst a b imm loc off ix sz fn pr su to acq wk rel ze⟩
  by_cases h9 : op = 9
  · subst h9
    exact ⟨_, _, bare_9 dst a b imm loc off ix sz fn pr su to acq wk rel ze, bf_9 dst a b imm loc off ix sz fn pr su to acq wk rel ze⟩
  refine ⟨_, _, bare_0 op dst a b imm loc off ix sz fn pr su to acq wk rel ze h1 h2 h3 h4 h5 h6 h7 h8 h9, ?_⟩
  unfold formP
  simp only [if_neg h1, if_neg h2, if_neg h3, if_neg h4, if_neg h5, if_neg h6, if_neg h7, if_neg h8, if_neg h9, Bool.false_and]
def toX (i : In) (lo hi : Int) : Bool := decide (i.op = 9) && (decide (i.to ≤ lo) || decide (hi < i.to))
def rgtF (i : In) (lo hi : Int) : Int := if formP i = true then (if toX i lo hi = true then 35 else 0) else 34
theorem uright_ok (i : In) (lo hi : Int) : CtrV Tryz.prog 132 [.agg (ienc i), .i .i64 lo, .i .i64 hi] (.i .i64 (rgtF i lo hi)) := by
  refine Ctr.enterV tabOkF (fn := Tryz.f132) rfl rfl rfl rfl rfl rfl ?_
  refine OpC.callV rfl rfl rfl rfl rfl rfl rfl (fun _ => formed_ok i) ?_
  unfold rgtF
  cases formP i with
  | false =>
    refine ⟨fun _ => ?_, fun h => no_tf h⟩
    exact rfl
  | true =>
    refine ⟨fun h => no_ft h, fun _ => ?_⟩
    refine ⟨fun h => ?_, fun h => ?_⟩
    · have h : toX i lo hi = true := h
      rw [if_pos rfl, if_pos h]
      exact rfl
    · have h : toX i lo hi = false := h
      rw [if_pos rfl, if_neg (by rw [h]; decide)]
      exact rfl
theorem rright3_ok (i : In) (lo hi : Int) : CtrV Tryz.prog 74 [.agg (ienc i), .i .i64 lo, .i .i64 hi] (.i .i64 (rgtF i lo hi)) := by
  obtain ⟨c, o, hc, he⟩ := bare_ok i
  refine Ctr.enterV tabOkF (fn := Tryz.f74) rfl rfl rfl rfl rfl rfl ?_
  refine OpC.callV rfl rfl rfl rfl rfl rfl rfl (fun _ => hc) ?_
  unfold rgtF
  refine ⟨fun h => ?_, fun h => ?_⟩
  · have h : ((!o) || (!eqI c z0)) = true := h
    rw [if_neg (by rw [← he]; cases o <;> cases hq : eqI c z0 <;> simp_all)]
    exact rfl
  · have h : ((!o) || (!eqI c z0)) = false := h
    rw [if_pos (by rw [← he]; cases o <;> cases hq : eqI c z0 <;> simp_all)]
    refine ⟨fun h => ?_, fun h => ?_⟩
    · have h : toX i lo hi = true := h
      rw [if_pos h]
      exact rfl
    · have h : toX i lo hi = false := h
      rw [if_neg (by rw [h]; decide)]
      exact rfl
end SX
end Go.Proofs.YtlgjjklikbpcoaaGreatDoor

/- Texts of instructions: places of memory. Printed by asb.py. -/
set_option linter.unusedVariables false
set_option maxRecDepth 100000
namespace Go.Proofs.YtlgjjklikbpcoaaGreatDoor
namespace SX
open Go Go.Proofs
def offF (n : Int) : List UInt8 := if n = 0 then [] else [43] ++ Lib.itoa n
def ixF (ns : List (List UInt8)) (n : Int) : List UInt8 := if 0 ≤ n then [43] ++ nmF ns n else []
def atF (ns : List (List UInt8)) (i : In) : List UInt8 := (((([91] ++ locF i.loc) ++ offF i.off) ++ ixF ns i.ix) ++ [93])
theorem accB_ok {i : In} (h : accB i = true) : (i.loc = 0 ∨ i.loc = 1 ∨ i.loc = 2) ∧ (0 ≤ i.off ∧ i.off ≤ 7) ∧ (i.ix = -1 ∨ (0 ≤ i.ix ∧ i.ix < 8)) ∧ (i.sz = 1 ∨ i.sz = 2 ∨ i.sz = 4 ∨ i.sz = 8) := by
  unfold accB at h
  simp only [Bool.and_eq_true, decide_eq_true_eq, Bool.not_eq_true'] at h
  obtain ⟨⟨⟨h1, h2⟩, h3⟩, h4⟩ := h
  have h5 := msk_cases h3
  unfold ixB rgB at h4
  simp only [Bool.or_eq_true, Bool.and_eq_true, decide_eq_true_eq] at h4
  refine ⟨by omega, by omega, h4, by omega⟩
theorem itoa_small {n : Int} (h0 : 0 ≤ n) (h7 : n ≤ 7) : (Lib.itoa n).length = 1 := by
  rcases (by omega : n = 0 ∨ n = 1 ∨ n = 2 ∨ n = 3 ∨ n = 4 ∨ n = 5 ∨ n = 6 ∨ n = 7) with rfl | rfl | rfl | rfl | rfl | rfl | rfl | rfl <;> decide +kernel
set_option maxHeartbeats 400000 in
theorem lat_ok (s0 s1 s2 s3 s4 s5 s6 s7 h : List UInt8) (rd pr : Nat) (hs : ∀ n, (nmF [s0, s1, s2, s3, s4, s5, s6, s7] n).length ≤ 3) (i : In) (ha : accB i = true) : Ctr Tryz.prog 215 [.ptr 1 1 0 [], .agg (ienc i)] [rowS s0 s1 s2 s3 s4 s5 s6 s7, langB h rd pr]
    (fun x h' => x = .s (atF [s0, s1, s2, s3, s4, s5, s6, s7] i) ∧ h' = [rowS s0 s1 s2 s3 s4 s5 s6 s7, langB h rd pr]) := by
  obtain ⟨h1, h2, h3, h4⟩ := accB_ok ha
  have hi := itoa_small h2.1 h2.2
  have hn := hs i.ix
  have hl : (locF i.loc).length = 1 := rfl
  refine Ctr.enterG tabOkF (fn := Tryz.f215) rfl rfl rfl rfl rfl rfl bndLang ?_
  obtain ⟨op, dst, a, b, imm, loc, off, ix, sz, fn, acq, wk, rel, pr', su, to, ze⟩ := i
  simp only at h1 h2 h3 h4 hi hn hl
  have hat : ∀ p q : List UInt8, offF off = p → ixF [s0, s1, s2, s3, s4, s5, s6, s7] ix = q → atF [s0, s1, s2, s3, s4, s5, s6, s7] ⟨op, dst, a, b, imm, loc, off, ix, sz, fn, acq, wk, rel, pr', su, to, ze⟩ = (((([91] ++ locF loc) ++ p) ++ q) ++ [93]) := fun p q hp hq => by subst hp; subst hq; rfl
  rcases h1 with rfl | rfl | rfl
  · refine ⟨fun _ => by show (0 : Int) ≤ 0 ∧ (0 : Int) ≤ 1 ∧ (1 : Int) ≤ 3; decide, ⟨fun _ => by show (1 : Nat) + 1 ≤ 9223372036854775807; decide, ?_⟩⟩
    refine ⟨fun h5 => ?_, fun h5 => ?_⟩
    · have h5 : (!decide (off = 0)) = true := h5
      have h5 : ¬ off = 0 := by simpa using h5
      refine OpC.callV rfl rfl rfl rfl rfl rfl rfl (fun _ => itoa_ok off (by omega) (by omega)) ?_
      refine ⟨fun _ => ?_, ⟨fun _ => ?_, ?_⟩⟩
      · show 1 + (Lib.itoa off).length ≤ 9223372036854775807
        omega
      · show (([91] ++ locF 0) : List UInt8).length + ([43] ++ Lib.itoa off).length ≤ 9223372036854775807
        simp; omega
      refine ⟨fun h6 => ?_, fun h6 => ?_⟩
      · have h6 : (0 : Int) ≤ ix := of_decide_eq_true h6
        refine OpC.callG rfl rfl rfl rfl rfl rfl (fun _ => Ctr.spread (lname_ok s0 s1 s2 s3 s4 s5 s6 s7 h rd pr ix) (fun ρ => rfl) _ [0, 1] rfl rfl ⟨rfl, rfl, trivial⟩ rfl) ?_
        refine ⟨fun _ => ?_, ⟨fun _ => ?_, ⟨fun _ => ?_, ⟨s_cg (hat _ _ (if_neg h5) (if_pos h6)).symm, _, rfl⟩⟩⟩⟩
        · show 1 + (nmF [s0, s1, s2, s3, s4, s5, s6, s7] ix).length ≤ 9223372036854775807
          omega
        · show ((([91] ++ locF 0) : List UInt8) ++ ([43] ++ Lib.itoa off)).length + ([43] ++ nmF [s0, s1, s2, s3, s4, s5, s6, s7] ix).length ≤ 9223372036854775807
          simp; omega
        · show (((([91] ++ locF 0) : List UInt8) ++ ([43] ++ Lib.itoa off)) ++ ([43] ++ nmF [s0, s1, s2, s3, s4, s5, s6, s7] ix)).length + 1 ≤ 9223372036854775807
          simp; omega
      · have h6 : ¬ (0 : Int) ≤ ix := of_decide_eq_false h6
        refine ⟨fun _ => ?_, ⟨s_cg ?_, _, rfl⟩⟩
        · show ((([91] ++ locF 0) : List UInt8) ++ ([43] ++ Lib.itoa off)).length + 1 ≤ 9223372036854775807
          simp <;> omega
        · rw [hat _ _ (if_neg h5) (if_neg h6), List.append_nil]
          rfl
    · have h5 : (!decide (off = 0)) = false := h5
      have h5 : off = 0 := by simpa using h5
      refine ⟨fun h6 => ?_, fun h6 => ?_⟩
      · have h6 : (0 : Int) ≤ ix := of_decide_eq_true h6
        refine OpC.callG rfl rfl rfl rfl rfl rfl (fun _ => Ctr.spread (lname_ok s0 s1 s2 s3 s4 s5 s6 s7 h rd pr ix) (fun ρ => rfl) _ [0, 1] rfl rfl ⟨rfl, rfl, trivial⟩ rfl) ?_
        refine ⟨fun _ => ?_, ⟨fun _ => ?_, ⟨fun _ => ?_, ⟨s_cg (hat _ _ (if_pos h5) (if_pos h6)).symm, _, rfl⟩⟩⟩⟩
        · show 1 + (nmF [s0, s1, s2, s3, s4, s5, s6, s7] ix).length ≤ 9223372036854775807
          omega
        · show (([91] ++ locF 0) : List UInt8).length + ([43] ++ nmF [s0, s1, s2, s3, s4, s5, s6, s7] ix).length ≤ 9223372036854775807
          simp; omega
        · show ((([91] ++ locF 0) : List UInt8) ++ ([43] ++ nmF [s0, s1, s2, s3, s4, s5, s6, s7] ix)).length + 1 ≤ 9223372036854775807
          simp; omega
      · have h6 : ¬ (0 : Int) ≤ ix := of_decide_eq_false h6
        refine ⟨fun _ => ?_, ⟨s_cg ?_, _, rfl⟩⟩
        · show (([91] ++ locF 0) : List UInt8).length + 1 ≤ 9223372036854775807
          simp <;> omega
        · rw [hat _ _ (if_pos h5) (if_neg h6), List.append_nil, List.append_nil]
          rfl
  · refine ⟨fun _ => by show (0 : Int) ≤ 1 ∧ (1 : Int) ≤ 2 ∧ (2 : Int) ≤ 3; decide, ⟨fun _ => by show (1 : Nat) + 1 ≤ 9223372036854775807; decide, ?_⟩⟩
    refine ⟨fun h5 => ?_, fun h5 => ?_⟩
    · have h5 : (!decide (off = 0)) = true := h5
      have h5 : ¬ off = 0 := by simpa using h5
      refine OpC.callV rfl rfl rfl rfl rfl rfl rfl (fun _ => itoa_ok off (by omega) (by omega)) ?_
      refine ⟨fun _ => ?_, ⟨fun _ => ?_, ?_⟩⟩
      · show 1 + (Lib.itoa off).length ≤ 9223372036854775807
        omega
      · show (([91] ++ locF 1) : List UInt8).length + ([43] ++ Lib.itoa off).length ≤ 9223372036854775807
        simp; omega
      refine ⟨fun h6 => ?_, fun h6 => ?_⟩
      · have h6 : (0 : Int) ≤ ix := of_decide_eq_true h6
        refine OpC.callG rfl rfl rfl rfl rfl rfl (fun _ => Ctr.spread (lname_ok s0 s1 s2 s3 s4 s5 s6 s7 h rd pr ix) (fun ρ => rfl) _ [0, 1] rfl rfl ⟨rfl, rfl, trivial⟩ rfl) ?_
        refine ⟨fun _ => ?_, ⟨fun _ => ?_, ⟨fun _ => ?_, ⟨s_cg (hat _ _ (if_neg h5) (if_pos h6)).symm, _, rfl⟩⟩⟩⟩
        · show 1 + (nmF [s0, s1, s2, s3, s4, s5, s6, s7] ix).length ≤ 9223372036854775807
          omega
        · show ((([91] ++ locF 1) : List UInt8) ++ ([43] ++ Lib.itoa off)).length + ([43] ++ nmF [s0, s1, s2, s3, s4, s5, s6, s7] ix).length ≤ 9223372036854775807
          simp; omega
        · show (((([91] ++ locF 1) : List UInt8) ++ ([43] ++ Lib.itoa off)) ++ ([43] ++ nmF [s0, s1, s2, s3, s4, s5, s6, s7] ix)).length + 1 ≤ 9223372036854775807
          simp; omega
      · have h6 : ¬ (0 : Int) ≤ ix := of_decide_eq_false h6
        refine ⟨fun _ => ?_, ⟨s_cg ?_, _, rfl⟩⟩
        · show ((([91] ++ locF 1) : List UInt8) ++ ([43] ++ Lib.itoa off)).length + 1 ≤ 9223372036854775807
          simp <;> omega
        · rw [hat _ _ (if_neg h5) (if_neg h6), List.append_nil]
          rfl
    · have h5 : (!decide (off = 0)) = false := h5
      have h5 : off = 0 := by simpa using h5
      refine ⟨fun h6 => ?_, fun h6 => ?_⟩
      · have h6 : (0 : Int) ≤ ix := of_decide_eq_true h6
        refine OpC.callG rfl rfl rfl rfl rfl rfl (fun _ => Ctr.spread (lname_ok s0 s1 s2 s3 s4 s5 s6 s7 h rd pr ix) (fun ρ => rfl) _ [0, 1] rfl rfl ⟨rfl, rfl, trivial⟩ rfl) ?_
        refine ⟨fun _ => ?_, ⟨fun _ => ?_, ⟨fun _ => ?_, ⟨s_cg (hat _ _ (if_pos h5) (if_pos h6)).symm, _, rfl⟩⟩⟩⟩
        · show 1 + (nmF [s0, s1, s2, s3, s4, s5, s6, s7] ix).length ≤ 9223372036854775807
          omega
        · show (([91] ++ locF 1) : List UInt8).length + ([43] ++ nmF [s0, s1, s2, s3, s4, s5, s6, s7] ix).length ≤ 9223372036854775807
          simp; omega
        · show ((([91] ++ locF 1) : List UInt8) ++ ([43] ++ nmF [s0, s1, s2, s3, s4, s5, s6, s7] ix)).length + 1 ≤ 9223372036854775807
          simp; omega
      · have h6 : ¬ (0 : Int) ≤ ix := of_decide_eq_false h6
        refine ⟨fun _ => ?_, ⟨s_cg ?_, _, rfl⟩⟩
        · show (([91] ++ locF 1) : List UInt8).length + 1 ≤ 9223372036854775807
          simp <;> omega
        · rw [hat _ _ (if_pos h5) (if_neg h6), List.append_nil, List.append_nil]
          rfl
  · refine ⟨fun _ => by show (0 : Int) ≤ 2 ∧ (2 : Int) ≤ 3 ∧ (3 : Int) ≤ 3; decide, ⟨fun _ => by show (1 : Nat) + 1 ≤ 9223372036854775807; decide, ?_⟩⟩
    refine ⟨fun h5 => ?_, fun h5 => ?_⟩
    · have h5 : (!decide (off = 0)) = true := h5
      have h5 : ¬ off = 0 := by simpa using h5
      refine OpC.callV rfl rfl rfl rfl rfl rfl rfl (fun _ => itoa_ok off (by omega) (by omega)) ?_
      refine ⟨fun _ => ?_, ⟨fun _ => ?_, ?_⟩⟩
      · show 1 + (Lib.itoa off).length ≤ 9223372036854775807
        omega
      · show (([91] ++ locF 2) : List UInt8).length + ([43] ++ Lib.itoa off).length ≤ 9223372036854775807
        simp; omega
      refine ⟨fun h6 => ?_, fun h6 => ?_⟩
      · have h6 : (0 : Int) ≤ ix := of_decide_eq_true h6
        refine OpC.callG rfl rfl rfl rfl rfl rfl (fun _ => Ctr.spread (lname_ok s0 s1 s2 s3 s4 s5 s6 s7 h rd pr ix) (fun ρ => rfl) _ [0, 1] rfl rfl ⟨rfl, rfl, trivial⟩ rfl) ?_
        refine ⟨fun _ => ?_, ⟨fun _ => ?_, ⟨fun _ => ?_, ⟨s_cg (hat _ _ (if_neg h5) (if_pos h6)).symm, _, rfl⟩⟩⟩⟩
        · show 1 + (nmF [s0, s1, s2, s3, s4, s5, s6, s7] ix).length ≤ 9223372036854775807
          omega
        · show ((([91] ++ locF 2) : List UInt8) ++ ([43] ++ Lib.itoa off)).length + ([43] ++ nmF [s0, s1, s2, s3, s4, s5, s6, s7] ix).length ≤ 9223372036854775807
          simp; omega
        · show (((([91] ++ locF 2) : List UInt8) ++ ([43] ++ Lib.itoa off)) ++ ([43] ++ nmF [s0, s1, s2, s3, s4, s5, s6, s7] ix)).length + 1 ≤ 9223372036854775807
          simp; omega
      · have h6 : ¬ (0 : Int) ≤ ix := of_decide_eq_false h6
        refine ⟨fun _ => ?_, ⟨s_cg ?_, _, rfl⟩⟩
        · show ((([91] ++ locF 2) : List UInt8) ++ ([43] ++ Lib.itoa off)).length + 1 ≤ 9223372036854775807
          simp <;> omega
        · rw [hat _ _ (if_neg h5) (if_neg h6), List.append_nil]
          rfl
    · have h5 : (!decide (off = 0)) = false := h5
      have h5 : off = 0 := by simpa using h5
      refine ⟨fun h6 => ?_, fun h6 => ?_⟩
      · have h6 : (0 : Int) ≤ ix := of_decide_eq_true h6
        refine OpC.callG rfl rfl rfl rfl rfl rfl (fun _ => Ctr.spread (lname_ok s0 s1 s2 s3 s4 s5 s6 s7 h rd pr ix) (fun ρ => rfl) _ [0, 1] rfl rfl ⟨rfl, rfl, trivial⟩ rfl) ?_
        refine ⟨fun _ => ?_, ⟨fun _ => ?_, ⟨fun _ => ?_, ⟨s_cg (hat _ _ (if_pos h5) (if_pos h6)).symm, _, rfl⟩⟩⟩⟩
        · show 1 + (nmF [s0, s1, s2, s3, s4, s5, s6, s7] ix).length ≤ 9223372036854775807
          omega
        · show (([91] ++ locF 2) : List UInt8).length + ([43] ++ nmF [s0, s1, s2, s3, s4, s5, s6, s7] ix).length ≤ 9223372036854775807
          simp; omega
        · show ((([91] ++ locF 2) : List UInt8) ++ ([43] ++ nmF [s0, s1, s2, s3, s4, s5, s6, s7] ix)).length + 1 ≤ 9223372036854775807
          simp; omega
      · have h6 : ¬ (0 : Int) ≤ ix := of_decide_eq_false h6
        refine ⟨fun _ => ?_, ⟨s_cg ?_, _, rfl⟩⟩
        · show (([91] ++ locF 2) : List UInt8).length + 1 ≤ 9223372036854775807
          simp <;> omega
        · rw [hat _ _ (if_pos h5) (if_neg h6), List.append_nil, List.append_nil]
          rfl
end SX
end Go.Proofs.YtlgjjklikbpcoaaGreatDoor

/- x86: texts of instructions, the program's. Printed by xpr.py. -/
set_option linter.unusedVariables false
set_option maxRecDepth 100000
namespace Go.Proofs.YtlgjjklikbpcoaaGreatDoor
namespace SX
open Go Go.Proofs
theorem lnm_ok (s0 s1 s2 s3 s4 s5 s6 s7 h : List UInt8) (rd pr : Nat) (n : Int) : Ctr Tryz.prog 78 [.ptr 1 1 0 [], .i .i64 n] [rowS s0 s1 s2 s3 s4 s5 s6 s7, langB h rd pr] (fun r h' => r = .s (nmF [s0, s1, s2, s3, s4, s5, s6, s7] n) ∧ h' = [rowS s0 s1 s2 s3 s4 s5 s6 s7, langB h rd pr]) := lname_ok s0 s1 s2 s3 s4 s5 s6 s7 h rd pr n
theorem join2_len {x y : List UInt8} : (Lib.join [x, y] [44]).length = x.length + 1 + y.length := by
  simp [Lib.join, List.intercalate]; omega
theorem orF_len {ns : List (List UInt8)} {h : List UInt8} {r n : Int} (hs : ∀ n, (nmF ns n).length ≤ 3) (hn : in64 n) (hh : h.length ≤ 10) : (orF ns h r n).length ≤ 40 := by
  have := itoa_len hn
  unfold orF
  split
  · have := hs r; omega
  · simp; omega
def xEnd (z : Int) : List UInt8 := endF z [66] [87] [76] [81]
theorem xEnd_len (z : Int) : (xEnd z).length ≤ 1 := by
  unfold xEnd endF
  split
  · decide
  · split
    · decide
    · split
      · decide
      · split <;> decide
theorem atF_len {ns : List (List UInt8)} {i : In} (hs : ∀ n, (nmF ns n).length ≤ 3) (ha : accB i = true) : (atF ns i).length ≤ 40 := by
  obtain ⟨h1, h2, h3, h4⟩ := accB_ok ha
  have hi := itoa_small h2.1 h2.2
  have hn := hs i.ix
  unfold atF offF ixF locF
  simp only [List.length_append, List.length_cons, List.length_nil]
  split <;> split <;> simp <;> omega
set_option maxHeartbeats 1600000 in
theorem xp_1 (s0 s1 s2 s3 s4 s5 s6 s7 h : List UInt8) (rd pw : Nat) (hs : ∀ n, (nmF [s0, s1, s2, s3, s4, s5, s6, s7] n).length ≤ 3) (hh : h.length ≤ 10) (dst a b imm loc off ix sz fn pr su to : Int) (acq wk rel ze : Bool) (lb : List UInt8) (hi : in64 imm) : Ctr Tryz.prog 130 [.ptr 1 1 0 [], .agg (ienc ⟨1, dst, a, b, imm, loc, off, ix, sz, fn, acq, wk, rel, pr, su, to, ze⟩), .s lb] [rowS s0 s1 s2 s3 s4 s5 s6 s7, langB h rd pw]
    (fun r h' => r = .tup [.s (lineF [77, 79, 86] [nmF [s0, s1, s2, s3, s4, s5, s6, s7] dst, orF [s0, s1, s2, s3, s4, s5, s6, s7] h (-1) imm]), .b true] ∧ h' = [rowS s0 s1 s2 s3 s4 s5 s6 s7, langB h rd pw]) := by
  refine Ctr.enterG tabOkF (fn := Tryz.f130) rfl rfl rfl rfl rfl rfl bndLang ?_
  refine OpC.callG rfl rfl rfl rfl rfl rfl (fun _ => Ctr.spread (end_ok sz [66] [87] [76] [81]) (fun ρ => rfl) _ [3] rfl rfl ⟨rfl, trivial⟩ rfl) ?_
  refine ⟨fun _ => ?_, fun h => no_tf h⟩
  refine WpC.dr tabOkF mixed 1 ?_
  refine OpD.callG [0, 1] rfl rfl rfl rfl rfl rfl (r := .s (nmF [s0, s1, s2, s3, s4, s5, s6, s7] dst)) (fun _ H1 hH => Ctr.spread (lnm_ok s0 s1 s2 s3 s4 s5 s6 s7 h rd pw dst) (fun ρ => rfl) H1 [0, 1] rfl rfl ⟨hH 0 (by simp), hH 1 (by simp), trivial⟩ rfl) ?_
  refine OpD.callG [0, 1] rfl rfl rfl rfl rfl rfl (r := .s (orF [s0, s1, s2, s3, s4, s5, s6, s7] h (-1) imm)) (fun _ H1 hH => Ctr.spread (lor_ok s0 s1 s2 s3 s4 s5 s6 s7 h rd pw (-1) imm hi hh) (fun ρ => rfl) H1 [0, 1] rfl rfl ⟨hH 0 (by simp), hH 1 (by simp), trivial⟩ rfl) ?_
  refine OpD.callG [4] rfl rfl rfl rfl rfl rfl (r := .s (lineF [77, 79, 86] [nmF [s0, s1, s2, s3, s4, s5, s6, s7] dst, orF [s0, s1, s2, s3, s4, s5, s6, s7] h (-1) imm])) (fun _ H1 hH => Ctr.spread (line_ok [77, 79, 86] [nmF [s0, s1, s2, s3, s4, s5, s6, s7] dst, orF [s0, s1, s2, s3, s4, s5, s6, s7] h (-1) imm] 2 rfl (by decide) (by decide) (by rw [join2_len]; have := hs dst; have := orF_len (r := -1) hs hi hh; omega) (by decide)) (fun ρ => rfl) H1 [4] rfl rfl ⟨hH 4 (by simp), trivial⟩ rfl) ?_
  refine ⟨by kernel_rfl, ?_⟩
  exact ⟨rfl, _, rfl⟩
set_option maxHeartbeats 1600000 in
theorem xp_2 (s0 s1 s2 s3 s4 s5 s6 s7 h : List UInt8) (rd pw : Nat) (hs : ∀ n, (nmF [s0, s1, s2, s3, s4, s5, s6, s7] n).length ≤ 3) (hh : h.length ≤ 10) (dst a b imm loc off ix sz fn pr su to : Int) (acq wk rel ze : Bool) (lb : List UInt8)  : Ctr Tryz.prog 130 [.ptr 1 1 0 [], .agg (ienc ⟨2, dst, a, b, imm, loc, off, ix, sz, fn, acq, wk, rel, pr, su, to, ze⟩), .s lb] [rowS s0 s1 s2 s3 s4 s5 s6 s7, langB h rd pw]
    (fun r h' => r = .tup [.s (lineF [77, 79, 86] [nmF [s0, s1, s2, s3, s4, s5, s6, s7] dst, nmF [s0, s1, s2, s3, s4, s5, s6, s7] a]), .b true] ∧ h' = [rowS s0 s1 s2 s3 s4 s5 s6 s7, langB h rd pw]) := by
  refine Ctr.enterG tabOkF (fn := Tryz.f130) rfl rfl rfl rfl rfl rfl bndLang ?_
  refine OpC.callG rfl rfl rfl rfl rfl rfl (fun _ => Ctr.spread (end_ok sz [66] [87] [76] [81]) (fun ρ => rfl) _ [3] rfl rfl ⟨rfl, trivial⟩ rfl) ?_
  refine ⟨fun h => no_ft h, fun _ => ?_⟩
  refine ⟨fun _ => ?_, fun h => no_tf h⟩
  refine WpC.dr tabOkF mixed 1 ?_
  refine OpD.callG [0, 1] rfl rfl rfl rfl rfl rfl (r := .s (nmF [s0, s1, s2, s3, s4, s5, s6, s7] dst)) (fun _ H1 hH => Ctr.spread (lnm_ok s0 s1 s2 s3 s4 s5 s6 s7 h rd pw dst) (fun ρ => rfl) H1 [0, 1] rfl rfl ⟨hH 0 (by simp), hH 1 (by simp), trivial⟩ rfl) ?_
  refine OpD.callG [0, 1] rfl rfl rfl rfl rfl rfl (r := .s (nmF [s0, s1, s2, s3, s4, s5, s6, s7] a)) (fun _ H1 hH => Ctr.spread (lnm_ok s0 s1 s2 s3 s4 s5 s6 s7 h rd pw a) (fun ρ => rfl) H1 [0, 1] rfl rfl ⟨hH 0 (by simp), hH 1 (by simp), trivial⟩ rfl) ?_
  refine OpD.callG [4] rfl rfl rfl rfl rfl rfl (r := .s (lineF [77, 79, 86] [nmF [s0, s1, s2, s3, s4, s5, s6, s7] dst, nmF [s0, s1, s2, s3, s4, s5, s6, s7] a])) (fun _ H1 hH => Ctr.spread (line_ok [77, 79, 86] [nmF [s0, s1, s2, s3, s4, s5, s6, s7] dst, nmF [s0, s1, s2, s3, s4, s5, s6, s7] a] 2 rfl (by decide) (by decide) (by rw [join2_len]; have := hs dst; have := hs a; omega) (by decide)) (fun ρ => rfl) H1 [4] rfl rfl ⟨hH 4 (by simp), trivial⟩ rfl) ?_
  refine ⟨by kernel_rfl, ?_⟩
  exact ⟨rfl, _, rfl⟩
def xFnB : SB := .mem 9 [.s ([]), .s ([65, 68, 68]), .s ([83, 85, 66]), .s ([88, 79, 82]), .s ([65, 78, 68]), .s ([79, 82])] 1 0
theorem functions_ok : Ctr Tryz.prog 206 [] [] (fun r h => r = .sl 0 1 0 6 (some 6) 0 ∧ h = [xFnB]) :=
  memo_of (tr := treeF) (ft := ftree) (ms := []) (n := 40) (m := Memo.mk 206 [] [] (.sl 0 1 0 6 (some 6) 0) [xFnB]) tabOkF ftOk mixed (by intro m hm; cases hm) (by decide +kernel)
set_option maxHeartbeats 1600000 in
theorem xp_4a (s0 s1 s2 s3 s4 s5 s6 s7 h : List UInt8) (rd pw : Nat) (hs : ∀ n, (nmF [s0, s1, s2, s3, s4, s5, s6, s7] n).length ≤ 3) (hh : h.length ≤ 10) (dst a b imm loc off ix sz fn pr su to : Int) (wk rel ze : Bool) (lb : List UInt8)  : Ctr Tryz.prog 130 [.ptr 1 1 0 [], .agg (ienc ⟨4, dst, a, b, imm, loc, off, ix, sz, fn, true, wk, rel, pr, su, to, ze⟩), .s lb] [rowS s0 s1 s2 s3 s4 s5 s6 s7, langB h rd pw]
    (fun r h' => r = .tup [.s [], .b false] ∧ h' = [rowS s0 s1 s2 s3 s4 s5 s6 s7, langB h rd pw]) := by
  refine Ctr.enterG tabOkF (fn := Tryz.f130) rfl rfl rfl rfl rfl rfl bndLang ?_
  refine OpC.callG rfl rfl rfl rfl rfl rfl (fun _ => Ctr.spread (end_ok sz [66] [87] [76] [81]) (fun ρ => rfl) _ [3] rfl rfl ⟨rfl, trivial⟩ rfl) ?_
  refine ⟨fun h => no_ft h, fun _ => ?_⟩
  refine ⟨fun h => no_ft h, fun _ => ?_⟩
  refine ⟨fun h => no_ft h, fun _ => ?_⟩
  refine ⟨fun h => no_ft h, fun _ => ?_⟩
  refine ⟨fun h => no_ft h, fun _ => ?_⟩
  refine ⟨fun h => no_ft h, fun _ => ?_⟩
  refine ⟨fun h => no_ft h, fun _ => ?_⟩
  refine ⟨fun h => no_ft h, fun _ => ?_⟩
  refine ⟨fun h => no_ft h, fun _ => ?_⟩
  refine ⟨fun h => no_ft h, fun _ => ?_⟩
  exact ⟨rfl, _, rfl⟩
set_option maxHeartbeats 1600000 in
theorem xp_4w (s0 s1 s2 s3 s4 s5 s6 s7 h : List UInt8) (rd pw : Nat) (hs : ∀ n, (nmF [s0, s1, s2, s3, s4, s5, s6, s7] n).length ≤ 3) (hh : h.length ≤ 10) (dst a b imm loc off ix sz fn pr su to : Int) (rel ze : Bool) (lb : List UInt8)  : Ctr Tryz.prog 130 [.ptr 1 1 0 [], .agg (ienc ⟨4, dst, a, b, imm, loc, off, ix, sz, fn, false, true, rel, pr, su, to, ze⟩), .s lb] [rowS s0 s1 s2 s3 s4 s5 s6 s7, langB h rd pw]
    (fun r h' => r = .tup [.s [], .b false] ∧ h' = [rowS s0 s1 s2 s3 s4 s5 s6 s7, langB h rd pw]) := by
  refine Ctr.enterG tabOkF (fn := Tryz.f130) rfl rfl rfl rfl rfl rfl bndLang ?_
  refine OpC.callG rfl rfl rfl rfl rfl rfl (fun _ => Ctr.spread (end_ok sz [66] [87] [76] [81]) (fun ρ => rfl) _ [3] rfl rfl ⟨rfl, trivial⟩ rfl) ?_
  refine ⟨fun h => no_ft h, fun _ => ?_⟩
  refine ⟨fun h => no_ft h, fun _ => ?_⟩
  refine ⟨fun h => no_ft h, fun _ => ?_⟩
  refine ⟨fun h => no_ft h, fun _ => ?_⟩
  refine ⟨fun h => no_ft h, fun _ => ?_⟩
  refine ⟨fun h => no_ft h, fun _ => ?_⟩
  refine ⟨fun h => no_ft h, fun _ => ?_⟩
  refine ⟨fun h => no_ft h, fun _ => ?_⟩
  refine ⟨fun h => no_ft h, fun _ => ?_⟩
  refine ⟨fun h => no_ft h, fun _ => ?_⟩
  exact ⟨rfl, _, rfl⟩
set_option maxHeartbeats 1600000 in
theorem xp_4 (s0 s1 s2 s3 s4 s5 s6 s7 h : List UInt8) (rd pw : Nat) (hs : ∀ n, (nmF [s0, s1, s2, s3, s4, s5, s6, s7] n).length ≤ 3) (hh : h.length ≤ 10) (dst a b imm loc off ix sz fn pr su to : Int) (rel ze : Bool) (lb : List UInt8) (ha : accB ⟨4, dst, a, b, imm, loc, off, ix, sz, fn, false, false, rel, pr, su, to, ze⟩ = true) : Ctr Tryz.prog 130 [.ptr 1 1 0 [], .agg (ienc ⟨4, dst, a, b, imm, loc, off, ix, sz, fn, false, false, rel, pr, su, to, ze⟩), .s lb] [rowS s0 s1 s2 s3 s4 s5 s6 s7, langB h rd pw]
    (fun r h' => r = .tup [.s (lineF ([77, 79, 86] ++ xEnd sz) [nmF [s0, s1, s2, s3, s4, s5, s6, s7] dst, atF [s0, s1, s2, s3, s4, s5, s6, s7] ⟨4, dst, a, b, imm, loc, off, ix, sz, fn, false, false, rel, pr, su, to, ze⟩]), .b true] ∧ h' = [rowS s0 s1 s2 s3 s4 s5 s6 s7, langB h rd pw]) := by
  refine Ctr.enterG tabOkF (fn := Tryz.f130) rfl rfl rfl rfl rfl rfl bndLang ?_
  refine OpC.callG rfl rfl rfl rfl rfl rfl (fun _ => Ctr.spread (end_ok sz [66] [87] [76] [81]) (fun ρ => rfl) _ [3] rfl rfl ⟨rfl, trivial⟩ rfl) ?_
  refine ⟨fun h => no_ft h, fun _ => ?_⟩
  refine ⟨fun h => no_ft h, fun _ => ?_⟩
  refine ⟨fun h => no_ft h, fun _ => ?_⟩
  refine ⟨fun _ => ?_, fun h => no_tf h⟩
  refine WpC.dr tabOkF mixed 1 ?_
  have he := xEnd_len sz
  refine ⟨fun _ => ?_, ?_⟩
  · show 3 + (xEnd sz).length ≤ 9223372036854775807
    omega
  refine OpD.callG [0, 1] rfl rfl rfl rfl rfl rfl (r := .s (nmF [s0, s1, s2, s3, s4, s5, s6, s7] dst)) (fun _ H1 hH => Ctr.spread (lnm_ok s0 s1 s2 s3 s4 s5 s6 s7 h rd pw dst) (fun ρ => rfl) H1 [0, 1] rfl rfl ⟨hH 0 (by simp), hH 1 (by simp), trivial⟩ rfl) ?_
  refine OpD.callG [0, 1] rfl rfl rfl rfl rfl rfl (r := .s (atF [s0, s1, s2, s3, s4, s5, s6, s7] ⟨4, dst, a, b, imm, loc, off, ix, sz, fn, false, false, rel, pr, su, to, ze⟩)) (fun _ H1 hH => Ctr.spread (lat_ok s0 s1 s2 s3 s4 s5 s6 s7 h rd pw hs ⟨4, dst, a, b, imm, loc, off, ix, sz, fn, false, false, rel, pr, su, to, ze⟩ ha) (fun ρ => rfl) H1 [0, 1] rfl rfl ⟨hH 0 (by simp), hH 1 (by simp), trivial⟩ rfl) ?_
  refine OpD.callG [4] rfl rfl rfl rfl rfl rfl (r := .s (lineF ([77, 79, 86] ++ xEnd sz) [nmF [s0, s1, s2, s3, s4, s5, s6, s7] dst, atF [s0, s1, s2, s3, s4, s5, s6, s7] ⟨4, dst, a, b, imm, loc, off, ix, sz, fn, false, false, rel, pr, su, to, ze⟩])) (fun _ H1 hH => Ctr.spread (line_ok ([77, 79, 86] ++ xEnd sz) [nmF [s0, s1, s2, s3, s4, s5, s6, s7] dst, atF [s0, s1, s2, s3, s4, s5, s6, s7] ⟨4, dst, a, b, imm, loc, off, ix, sz, fn, false, false, rel, pr, su, to, ze⟩] 2 rfl (by decide) (by decide) (by rw [join2_len]; have := hs dst; have := atF_len hs ha; omega) (by simp; omega)) (fun ρ => rfl) H1 [4] rfl rfl ⟨hH 4 (by simp), trivial⟩ rfl) ?_
  refine ⟨by kernel_rfl, ?_⟩
  exact ⟨rfl, _, rfl⟩
set_option maxHeartbeats 1600000 in
theorem xp_5r (s0 s1 s2 s3 s4 s5 s6 s7 h : List UInt8) (rd pw : Nat) (hs : ∀ n, (nmF [s0, s1, s2, s3, s4, s5, s6, s7] n).length ≤ 3) (hh : h.length ≤ 10) (dst a b imm loc off ix sz fn pr su to : Int) (acq wk ze : Bool) (lb : List UInt8)  : Ctr Tryz.prog 130 [.ptr 1 1 0 [], .agg (ienc ⟨5, dst, a, b, imm, loc, off, ix, sz, fn, acq, wk, true, pr, su, to, ze⟩), .s lb] [rowS s0 s1 s2 s3 s4 s5 s6 s7, langB h rd pw]
    (fun r h' => r = .tup [.s [], .b false] ∧ h' = [rowS s0 s1 s2 s3 s4 s5 s6 s7, langB h rd pw]) := by
  refine Ctr.enterG tabOkF (fn := Tryz.f130) rfl rfl rfl rfl rfl rfl bndLang ?_
  refine OpC.callG rfl rfl rfl rfl rfl rfl (fun _ => Ctr.spread (end_ok sz [66] [87] [76] [81]) (fun ρ => rfl) _ [3] rfl rfl ⟨rfl, trivial⟩ rfl) ?_
  refine ⟨fun h => no_ft h, fun _ => ?_⟩
  refine ⟨fun h => no_ft h, fun _ => ?_⟩
  refine ⟨fun h => no_ft h, fun _ => ?_⟩
  refine ⟨fun h => no_ft h, fun _ => ?_⟩
  refine ⟨fun h => no_ft h, fun _ => ?_⟩
  refine ⟨fun h => no_ft h, fun _ => ?_⟩
  refine ⟨fun h => no_ft h, fun _ => ?_⟩
  refine ⟨fun h => no_ft h, fun _ => ?_⟩
  refine ⟨fun h => no_ft h, fun _ => ?_⟩
  refine ⟨fun h => no_ft h, fun _ => ?_⟩
  exact ⟨rfl, _, rfl⟩
set_option maxHeartbeats 1600000 in
theorem xp_5 (s0 s1 s2 s3 s4 s5 s6 s7 h : List UInt8) (rd pw : Nat) (hs : ∀ n, (nmF [s0, s1, s2, s3, s4, s5, s6, s7] n).length ≤ 3) (hh : h.length ≤ 10) (dst a b imm loc off ix sz fn pr su to : Int) (acq wk ze : Bool) (lb : List UInt8) (hi : in64 imm) (ha : accB ⟨5, dst, a, b, imm, loc, off, ix, sz, fn, acq, wk, false, pr, su, to, ze⟩ = true) : Ctr Tryz.prog 130 [.ptr 1 1 0 [], .agg (ienc ⟨5, dst, a, b, imm, loc, off, ix, sz, fn, acq, wk, false, pr, su, to, ze⟩), .s lb] [rowS s0 s1 s2 s3 s4 s5 s6 s7, langB h rd pw]
    (fun r h' => r = .tup [.s (lineF ([77, 79, 86] ++ xEnd sz) [atF [s0, s1, s2, s3, s4, s5, s6, s7] ⟨5, dst, a, b, imm, loc, off, ix, sz, fn, acq, wk, false, pr, su, to, ze⟩, orF [s0, s1, s2, s3, s4, s5, s6, s7] h a imm]), .b true] ∧ h' = [rowS s0 s1 s2 s3 s4 s5 s6 s7, langB h rd pw]) := by
  refine Ctr.enterG tabOkF (fn := Tryz.f130) rfl rfl rfl rfl rfl rfl bndLang ?_
  refine OpC.callG rfl rfl rfl rfl rfl rfl (fun _ => Ctr.spread (end_ok sz [66] [87] [76] [81]) (fun ρ => rfl) _ [3] rfl rfl ⟨rfl, trivial⟩ rfl) ?_
  refine ⟨fun h => no_ft h, fun _ => ?_⟩
  refine ⟨fun h => no_ft h, fun _ => ?_⟩
  refine ⟨fun h => no_ft h, fun _ => ?_⟩
  refine ⟨fun h => no_ft h, fun _ => ?_⟩
  refine ⟨fun _ => ?_, fun h => no_tf h⟩
  refine WpC.dr tabOkF mixed 1 ?_
  have he := xEnd_len sz
  refine ⟨fun _ => ?_, ?_⟩
  · show 3 + (xEnd sz).length ≤ 9223372036854775807
    omega
  refine OpD.callG [0, 1] rfl rfl rfl rfl rfl rfl (r := .s (atF [s0, s1, s2, s3, s4, s5, s6, s7] ⟨5, dst, a, b, imm, loc, off, ix, sz, fn, acq, wk, false, pr, su, to, ze⟩)) (fun _ H1 hH => Ctr.spread (lat_ok s0 s1 s2 s3 s4 s5 s6 s7 h rd pw hs ⟨5, dst, a, b, imm, loc, off, ix, sz, fn, acq, wk, false, pr, su, to, ze⟩ ha) (fun ρ => rfl) H1 [0, 1] rfl rfl ⟨hH 0 (by simp), hH 1 (by simp), trivial⟩ rfl) ?_
  refine OpD.callG [0, 1] rfl rfl rfl rfl rfl rfl (r := .s (orF [s0, s1, s2, s3, s4, s5, s6, s7] h a imm)) (fun _ H1 hH => Ctr.spread (lor_ok s0 s1 s2 s3 s4 s5 s6 s7 h rd pw a imm hi hh) (fun ρ => rfl) H1 [0, 1] rfl rfl ⟨hH 0 (by simp), hH 1 (by simp), trivial⟩ rfl) ?_
  refine OpD.callG [4] rfl rfl rfl rfl rfl rfl (r := .s (lineF ([77, 79, 86] ++ xEnd sz) [atF [s0, s1, s2, s3, s4, s5, s6, s7] ⟨5, dst, a, b, imm, loc, off, ix, sz, fn, acq, wk, false, pr, su, to, ze⟩, orF [s0, s1, s2, s3, s4, s5, s6, s7] h a imm])) (fun _ H1 hH => Ctr.spread (line_ok ([77, 79, 86] ++ xEnd sz) [atF [s0, s1, s2, s3, s4, s5, s6, s7] ⟨5, dst, a, b, imm, loc, off, ix, sz, fn, acq, wk, false, pr, su, to, ze⟩, orF [s0, s1, s2, s3, s4, s5, s6, s7] h a imm] 2 rfl (by decide) (by decide) (by rw [join2_len]; have := atF_len hs ha; have := orF_len (r := a) hs hi hh; omega) (by simp; omega)) (fun ρ => rfl) H1 [4] rfl rfl ⟨hH 4 (by simp), trivial⟩ rfl) ?_
  refine ⟨by kernel_rfl, ?_⟩
  exact ⟨rfl, _, rfl⟩
end SX
end Go.Proofs.YtlgjjklikbpcoaaGreatDoor

/- x86: texts of instructions, the program's. Printed by xpr.py. -/
set_option linter.unusedVariables false
set_option maxRecDepth 100000
namespace Go.Proofs.YtlgjjklikbpcoaaGreatDoor
namespace SX
open Go Go.Proofs
set_option maxHeartbeats 1600000 in
theorem xp_31 (s0 s1 s2 s3 s4 s5 s6 s7 h : List UInt8) (rd pw : Nat) (hs : ∀ n, (nmF [s0, s1, s2, s3, s4, s5, s6, s7] n).length ≤ 3) (hh : h.length ≤ 10) (dst a b imm loc off ix sz pr su to : Int) (acq wk rel ze : Bool) (lb : List UInt8) (hd : dst = a) (hi : in64 imm) : Ctr Tryz.prog 130 [.ptr 1 1 0 [], .agg (ienc ⟨3, dst, a, b, imm, loc, off, ix, sz, 1, acq, wk, rel, pr, su, to, ze⟩), .s lb] [rowS s0 s1 s2 s3 s4 s5 s6 s7, langB h rd pw]
    (fun r h' => r = .tup [.s (lineF [65, 68, 68] [nmF [s0, s1, s2, s3, s4, s5, s6, s7] dst, orF [s0, s1, s2, s3, s4, s5, s6, s7] h b imm]), .b true] ∧ h' = [rowS s0 s1 s2 s3 s4 s5 s6 s7, langB h rd pw]) := by
  refine Ctr.enterG tabOkF (fn := Tryz.f130) rfl rfl rfl rfl rfl rfl bndLang ?_
  refine OpC.callG rfl rfl rfl rfl rfl rfl (fun _ => Ctr.spread (end_ok sz [66] [87] [76] [81]) (fun ρ => rfl) _ [3] rfl rfl ⟨rfl, trivial⟩ rfl) ?_
  refine ⟨fun h => no_ft h, fun _ => ?_⟩
  refine ⟨fun h => no_ft h, fun _ => ?_⟩
  refine ⟨fun _ => ?_, fun h => ?_⟩
  rotate_left
  · have h : decide (dst = a) = false := h
    rw [decide_eq_true hd] at h; exact no_tf h
  refine WpC.dr tabOkF mixed 2 ?_
  refine OpD.callL rfl rfl rfl rfl [] 1 rfl rfl functions_ok rfl rfl rfl rfl trivial rfl rfl ?_
  refine ⟨fun _ => by show (0 : Int) ≤ 1 ∧ (1 : Int) < ((6 : Nat) : Int); decide, ?_⟩
  refine OpD.callG [0, 1] rfl rfl rfl rfl rfl rfl (r := .s (nmF [s0, s1, s2, s3, s4, s5, s6, s7] dst)) (fun _ H1 hH => Ctr.spread (lnm_ok s0 s1 s2 s3 s4 s5 s6 s7 h rd pw dst) (fun ρ => rfl) H1 [0, 1] rfl rfl ⟨hH 0 (by simp), hH 1 (by simp), trivial⟩ rfl) ?_
  refine OpD.callG [0, 1] rfl rfl rfl rfl rfl rfl (r := .s (orF [s0, s1, s2, s3, s4, s5, s6, s7] h b imm)) (fun _ H1 hH => Ctr.spread (lor_ok s0 s1 s2 s3 s4 s5 s6 s7 h rd pw b imm hi hh) (fun ρ => rfl) H1 [0, 1] rfl rfl ⟨hH 0 (by simp), hH 1 (by simp), trivial⟩ rfl) ?_
  refine OpD.callG [5] rfl rfl rfl rfl rfl rfl (r := .s (lineF [65, 68, 68] [nmF [s0, s1, s2, s3, s4, s5, s6, s7] dst, orF [s0, s1, s2, s3, s4, s5, s6, s7] h b imm])) (fun _ H1 hH => Ctr.spread (line_ok [65, 68, 68] [nmF [s0, s1, s2, s3, s4, s5, s6, s7] dst, orF [s0, s1, s2, s3, s4, s5, s6, s7] h b imm] 2 rfl (by decide) (by decide) (by rw [join2_len]; have := hs dst; have := orF_len (r := b) hs hi hh; omega) (by decide)) (fun ρ => rfl) H1 [5] rfl rfl ⟨hH 5 (by simp), trivial⟩ rfl) ?_
  refine ⟨by kernel_rfl, ?_⟩
  exact ⟨rfl, _, rfl⟩
set_option maxHeartbeats 1600000 in
theorem xp_32 (s0 s1 s2 s3 s4 s5 s6 s7 h : List UInt8) (rd pw : Nat) (hs : ∀ n, (nmF [s0, s1, s2, s3, s4, s5, s6, s7] n).length ≤ 3) (hh : h.length ≤ 10) (dst a b imm loc off ix sz pr su to : Int) (acq wk rel ze : Bool) (lb : List UInt8) (hd : dst = a) (hi : in64 imm) : Ctr Tryz.prog 130 [.ptr 1 1 0 [], .agg (ienc ⟨3, dst, a, b, imm, loc, off, ix, sz, 2, acq, wk, rel, pr, su, to, ze⟩), .s lb] [rowS s0 s1 s2 s3 s4 s5 s6 s7, langB h rd pw]
    (fun r h' => r = .tup [.s (lineF [83, 85, 66] [nmF [s0, s1, s2, s3, s4, s5, s6, s7] dst, orF [s0, s1, s2, s3, s4, s5, s6, s7] h b imm]), .b true] ∧ h' = [rowS s0 s1 s2 s3 s4 s5 s6 s7, langB h rd pw]) := by
  refine Ctr.enterG tabOkF (fn := Tryz.f130) rfl rfl rfl rfl rfl rfl bndLang ?_
  refine OpC.callG rfl rfl rfl rfl rfl rfl (fun _ => Ctr.spread (end_ok sz [66] [87] [76] [81]) (fun ρ => rfl) _ [3] rfl rfl ⟨rfl, trivial⟩ rfl) ?_
  refine ⟨fun h => no_ft h, fun _ => ?_⟩
  refine ⟨fun h => no_ft h, fun _ => ?_⟩
  refine ⟨fun _ => ?_, fun h => ?_⟩
  rotate_left
  · have h : decide (dst = a) = false := h
    rw [decide_eq_true hd] at h; exact no_tf h
  refine WpC.dr tabOkF mixed 2 ?_
  refine OpD.callL rfl rfl rfl rfl [] 1 rfl rfl functions_ok rfl rfl rfl rfl trivial rfl rfl ?_
  refine ⟨fun _ => by show (0 : Int) ≤ 2 ∧ (2 : Int) < ((6 : Nat) : Int); decide, ?_⟩
  refine OpD.callG [0, 1] rfl rfl rfl rfl rfl rfl (r := .s (nmF [s0, s1, s2, s3, s4, s5, s6, s7] dst)) (fun _ H1 hH => Ctr.spread (lnm_ok s0 s1 s2 s3 s4 s5 s6 s7 h rd pw dst) (fun ρ => rfl) H1 [0, 1] rfl rfl ⟨hH 0 (by simp), hH 1 (by simp), trivial⟩ rfl) ?_
  refine OpD.callG [0, 1] rfl rfl rfl rfl rfl rfl (r := .s (orF [s0, s1, s2, s3, s4, s5, s6, s7] h b imm)) (fun _ H1 hH => Ctr.spread (lor_ok s0 s1 s2 s3 s4 s5 s6 s7 h rd pw b imm hi hh) (fun ρ => rfl) H1 [0, 1] rfl rfl ⟨hH 0 (by simp), hH 1 (by simp), trivial⟩ rfl) ?_
  refine OpD.callG [5] rfl rfl rfl rfl rfl rfl (r := .s (lineF [83, 85, 66] [nmF [s0, s1, s2, s3, s4, s5, s6, s7] dst, orF [s0, s1, s2, s3, s4, s5, s6, s7] h b imm])) (fun _ H1 hH => Ctr.spread (line_ok [83, 85, 66] [nmF [s0, s1, s2, s3, s4, s5, s6, s7] dst, orF [s0, s1, s2, s3, s4, s5, s6, s7] h b imm] 2 rfl (by decide) (by decide) (by rw [join2_len]; have := hs dst; have := orF_len (r := b) hs hi hh; omega) (by decide)) (fun ρ => rfl) H1 [5] rfl rfl ⟨hH 5 (by simp), trivial⟩ rfl) ?_
  refine ⟨by kernel_rfl, ?_⟩
  exact ⟨rfl, _, rfl⟩
set_option maxHeartbeats 1600000 in
theorem xp_33 (s0 s1 s2 s3 s4 s5 s6 s7 h : List UInt8) (rd pw : Nat) (hs : ∀ n, (nmF [s0, s1, s2, s3, s4, s5, s6, s7] n).length ≤ 3) (hh : h.length ≤ 10) (dst a b imm loc off ix sz pr su to : Int) (acq wk rel ze : Bool) (lb : List UInt8) (hd : dst = a) (hi : in64 imm) : Ctr Tryz.prog 130 [.ptr 1 1 0 [], .agg (ienc ⟨3, dst, a, b, imm, loc, off, ix, sz, 3, acq, wk, rel, pr, su, to, ze⟩), .s lb] [rowS s0 s1 s2 s3 s4 s5 s6 s7, langB h rd pw]
    (fun r h' => r = .tup [.s (lineF [88, 79, 82] [nmF [s0, s1, s2, s3, s4, s5, s6, s7] dst, orF [s0, s1, s2, s3, s4, s5, s6, s7] h b imm]), .b true] ∧ h' = [rowS s0 s1 s2 s3 s4 s5 s6 s7, langB h rd pw]) := by
  refine Ctr.enterG tabOkF (fn := Tryz.f130) rfl rfl rfl rfl rfl rfl bndLang ?_
  refine OpC.callG rfl rfl rfl rfl rfl rfl (fun _ => Ctr.spread (end_ok sz [66] [87] [76] [81]) (fun ρ => rfl) _ [3] rfl rfl ⟨rfl, trivial⟩ rfl) ?_
  refine ⟨fun h => no_ft h, fun _ => ?_⟩
  refine ⟨fun h => no_ft h, fun _ => ?_⟩
  refine ⟨fun _ => ?_, fun h => ?_⟩
  rotate_left
  · have h : decide (dst = a) = false := h
    rw [decide_eq_true hd] at h; exact no_tf h
  refine WpC.dr tabOkF mixed 2 ?_
  refine OpD.callL rfl rfl rfl rfl [] 1 rfl rfl functions_ok rfl rfl rfl rfl trivial rfl rfl ?_
  refine ⟨fun _ => by show (0 : Int) ≤ 3 ∧ (3 : Int) < ((6 : Nat) : Int); decide, ?_⟩
  refine OpD.callG [0, 1] rfl rfl rfl rfl rfl rfl (r := .s (nmF [s0, s1, s2, s3, s4, s5, s6, s7] dst)) (fun _ H1 hH => Ctr.spread (lnm_ok s0 s1 s2 s3 s4 s5 s6 s7 h rd pw dst) (fun ρ => rfl) H1 [0, 1] rfl rfl ⟨hH 0 (by simp), hH 1 (by simp), trivial⟩ rfl) ?_
  refine OpD.callG [0, 1] rfl rfl rfl rfl rfl rfl (r := .s (orF [s0, s1, s2, s3, s4, s5, s6, s7] h b imm)) (fun _ H1 hH => Ctr.spread (lor_ok s0 s1 s2 s3 s4 s5 s6 s7 h rd pw b imm hi hh) (fun ρ => rfl) H1 [0, 1] rfl rfl ⟨hH 0 (by simp), hH 1 (by simp), trivial⟩ rfl) ?_
  refine OpD.callG [5] rfl rfl rfl rfl rfl rfl (r := .s (lineF [88, 79, 82] [nmF [s0, s1, s2, s3, s4, s5, s6, s7] dst, orF [s0, s1, s2, s3, s4, s5, s6, s7] h b imm])) (fun _ H1 hH => Ctr.spread (line_ok [88, 79, 82] [nmF [s0, s1, s2, s3, s4, s5, s6, s7] dst, orF [s0, s1, s2, s3, s4, s5, s6, s7] h b imm] 2 rfl (by decide) (by decide) (by rw [join2_len]; have := hs dst; have := orF_len (r := b) hs hi hh; omega) (by decide)) (fun ρ => rfl) H1 [5] rfl rfl ⟨hH 5 (by simp), trivial⟩ rfl) ?_
  refine ⟨by kernel_rfl, ?_⟩
  exact ⟨rfl, _, rfl⟩
set_option maxHeartbeats 1600000 in
theorem xp_34 (s0 s1 s2 s3 s4 s5 s6 s7 h : List UInt8) (rd pw : Nat) (hs : ∀ n, (nmF [s0, s1, s2, s3, s4, s5, s6, s7] n).length ≤ 3) (hh : h.length ≤ 10) (dst a b imm loc off ix sz pr su to : Int) (acq wk rel ze : Bool) (lb : List UInt8) (hd : dst = a) (hi : in64 imm) : Ctr Tryz.prog 130 [.ptr 1 1 0 [], .agg (ienc ⟨3, dst, a, b, imm, loc, off, ix, sz, 4, acq, wk, rel, pr, su, to, ze⟩), .s lb] [rowS s0 s1 s2 s3 s4 s5 s6 s7, langB h rd pw]
    (fun r h' => r = .tup [.s (lineF [65, 78, 68] [nmF [s0, s1, s2, s3, s4, s5, s6, s7] dst, orF [s0, s1, s2, s3, s4, s5, s6, s7] h b imm]), .b true] ∧ h' = [rowS s0 s1 s2 s3 s4 s5 s6 s7, langB h rd pw]) := by
  refine Ctr.enterG tabOkF (fn := Tryz.f130) rfl rfl rfl rfl rfl rfl bndLang ?_
  refine OpC.callG rfl rfl rfl rfl rfl rfl (fun _ => Ctr.spread (end_ok sz [66] [87] [76] [81]) (fun ρ => rfl) _ [3] rfl rfl ⟨rfl, trivial⟩ rfl) ?_
  refine ⟨fun h => no_ft h, fun _ => ?_⟩
  refine ⟨fun h => no_ft h, fun _ => ?_⟩
  refine ⟨fun _ => ?_, fun h => ?_⟩
  rotate_left
  · have h : decide (dst = a) = false := h
    rw [decide_eq_true hd] at h; exact no_tf h
  refine WpC.dr tabOkF mixed 2 ?_
  refine OpD.callL rfl rfl rfl rfl [] 1 rfl rfl functions_ok rfl rfl rfl rfl trivial rfl rfl ?_
  refine ⟨fun _ => by show (0 : Int) ≤ 4 ∧ (4 : Int) < ((6 : Nat) : Int); decide, ?_⟩
  refine OpD.callG [0, 1] rfl rfl rfl rfl rfl rfl (r := .s (nmF [s0, s1, s2, s3, s4, s5, s6, s7] dst)) (fun _ H1 hH => Ctr.spread (lnm_ok s0 s1 s2 s3 s4 s5 s6 s7 h rd pw dst) (fun ρ => rfl) H1 [0, 1] rfl rfl ⟨hH 0 (by simp), hH 1 (by simp), trivial⟩ rfl) ?_
  refine OpD.callG [0, 1] rfl rfl rfl rfl rfl rfl (r := .s (orF [s0, s1, s2, s3, s4, s5, s6, s7] h b imm)) (fun _ H1 hH => Ctr.spread (lor_ok s0 s1 s2 s3 s4 s5 s6 s7 h rd pw b imm hi hh) (fun ρ => rfl) H1 [0, 1] rfl rfl ⟨hH 0 (by simp), hH 1 (by simp), trivial⟩ rfl) ?_
  refine OpD.callG [5] rfl rfl rfl rfl rfl rfl (r := .s (lineF [65, 78, 68] [nmF [s0, s1, s2, s3, s4, s5, s6, s7] dst, orF [s0, s1, s2, s3, s4, s5, s6, s7] h b imm])) (fun _ H1 hH => Ctr.spread (line_ok [65, 78, 68] [nmF [s0, s1, s2, s3, s4, s5, s6, s7] dst, orF [s0, s1, s2, s3, s4, s5, s6, s7] h b imm] 2 rfl (by decide) (by decide) (by rw [join2_len]; have := hs dst; have := orF_len (r := b) hs hi hh; omega) (by decide)) (fun ρ => rfl) H1 [5] rfl rfl ⟨hH 5 (by simp), trivial⟩ rfl) ?_
  refine ⟨by kernel_rfl, ?_⟩
  exact ⟨rfl, _, rfl⟩
set_option maxHeartbeats 1600000 in
theorem xp_35 (s0 s1 s2 s3 s4 s5 s6 s7 h : List UInt8) (rd pw : Nat) (hs : ∀ n, (nmF [s0, s1, s2, s3, s4, s5, s6, s7] n).length ≤ 3) (hh : h.length ≤ 10) (dst a b imm loc off ix sz pr su to : Int) (acq wk rel ze : Bool) (lb : List UInt8) (hd : dst = a) (hi : in64 imm) : Ctr Tryz.prog 130 [.ptr 1 1 0 [], .agg (ienc ⟨3, dst, a, b, imm, loc, off, ix, sz, 5, acq, wk, rel, pr, su, to, ze⟩), .s lb] [rowS s0 s1 s2 s3 s4 s5 s6 s7, langB h rd pw]
    (fun r h' => r = .tup [.s (lineF [79, 82] [nmF [s0, s1, s2, s3, s4, s5, s6, s7] dst, orF [s0, s1, s2, s3, s4, s5, s6, s7] h b imm]), .b true] ∧ h' = [rowS s0 s1 s2 s3 s4 s5 s6 s7, langB h rd pw]) := by
  refine Ctr.enterG tabOkF (fn := Tryz.f130) rfl rfl rfl rfl rfl rfl bndLang ?_
  refine OpC.callG rfl rfl rfl rfl rfl rfl (fun _ => Ctr.spread (end_ok sz [66] [87] [76] [81]) (fun ρ => rfl) _ [3] rfl rfl ⟨rfl, trivial⟩ rfl) ?_
  refine ⟨fun h => no_ft h, fun _ => ?_⟩
  refine ⟨fun h => no_ft h, fun _ => ?_⟩
  refine ⟨fun _ => ?_, fun h => ?_⟩
  rotate_left
  · have h : decide (dst = a) = false := h
    rw [decide_eq_true hd] at h; exact no_tf h
  refine WpC.dr tabOkF mixed 2 ?_
  refine OpD.callL rfl rfl rfl rfl [] 1 rfl rfl functions_ok rfl rfl rfl rfl trivial rfl rfl ?_
  refine ⟨fun _ => by show (0 : Int) ≤ 5 ∧ (5 : Int) < ((6 : Nat) : Int); decide, ?_⟩
  refine OpD.callG [0, 1] rfl rfl rfl rfl rfl rfl (r := .s (nmF [s0, s1, s2, s3, s4, s5, s6, s7] dst)) (fun _ H1 hH => Ctr.spread (lnm_ok s0 s1 s2 s3 s4 s5 s6 s7 h rd pw dst) (fun ρ => rfl) H1 [0, 1] rfl rfl ⟨hH 0 (by simp), hH 1 (by simp), trivial⟩ rfl) ?_
  refine OpD.callG [0, 1] rfl rfl rfl rfl rfl rfl (r := .s (orF [s0, s1, s2, s3, s4, s5, s6, s7] h b imm)) (fun _ H1 hH => Ctr.spread (lor_ok s0 s1 s2 s3 s4 s5 s6 s7 h rd pw b imm hi hh) (fun ρ => rfl) H1 [0, 1] rfl rfl ⟨hH 0 (by simp), hH 1 (by simp), trivial⟩ rfl) ?_
  refine OpD.callG [5] rfl rfl rfl rfl rfl rfl (r := .s (lineF [79, 82] [nmF [s0, s1, s2, s3, s4, s5, s6, s7] dst, orF [s0, s1, s2, s3, s4, s5, s6, s7] h b imm])) (fun _ H1 hH => Ctr.spread (line_ok [79, 82] [nmF [s0, s1, s2, s3, s4, s5, s6, s7] dst, orF [s0, s1, s2, s3, s4, s5, s6, s7] h b imm] 2 rfl (by decide) (by decide) (by rw [join2_len]; have := hs dst; have := orF_len (r := b) hs hi hh; omega) (by decide)) (fun ρ => rfl) H1 [5] rfl rfl ⟨hH 5 (by simp), trivial⟩ rfl) ?_
  refine ⟨by kernel_rfl, ?_⟩
  exact ⟨rfl, _, rfl⟩
set_option maxHeartbeats 1600000 in
theorem xp_3n (s0 s1 s2 s3 s4 s5 s6 s7 h : List UInt8) (rd pw : Nat) (hs : ∀ n, (nmF [s0, s1, s2, s3, s4, s5, s6, s7] n).length ≤ 3) (hh : h.length ≤ 10) (dst a b imm loc off ix sz fn pr su to : Int) (acq wk rel ze : Bool) (lb : List UInt8) (hd : ¬ dst = a) : Ctr Tryz.prog 130 [.ptr 1 1 0 [], .agg (ienc ⟨3, dst, a, b, imm, loc, off, ix, sz, fn, acq, wk, rel, pr, su, to, ze⟩), .s lb] [rowS s0 s1 s2 s3 s4 s5 s6 s7, langB h rd pw]
    (fun r h' => r = .tup [.s [], .b false] ∧ h' = [rowS s0 s1 s2 s3 s4 s5 s6 s7, langB h rd pw]) := by
  refine Ctr.enterG tabOkF (fn := Tryz.f130) rfl rfl rfl rfl rfl rfl bndLang ?_
  refine OpC.callG rfl rfl rfl rfl rfl rfl (fun _ => Ctr.spread (end_ok sz [66] [87] [76] [81]) (fun ρ => rfl) _ [3] rfl rfl ⟨rfl, trivial⟩ rfl) ?_
  refine ⟨fun h => no_ft h, fun _ => ?_⟩
  refine ⟨fun h => no_ft h, fun _ => ?_⟩
  refine ⟨fun h => ?_, fun _ => ?_⟩
  · have h : decide (dst = a) = true := h
    rw [decide_eq_false hd] at h; exact no_ft h
  refine ⟨fun h => no_ft h, fun _ => ?_⟩
  refine ⟨fun h => no_ft h, fun _ => ?_⟩
  refine ⟨fun h => no_ft h, fun _ => ?_⟩
  refine ⟨fun h => no_ft h, fun _ => ?_⟩
  refine ⟨fun h => no_ft h, fun _ => ?_⟩
  refine ⟨fun h => no_ft h, fun _ => ?_⟩
  refine ⟨fun h => no_ft h, fun _ => ?_⟩
  exact ⟨rfl, _, rfl⟩
set_option maxHeartbeats 1600000 in
theorem xp_6d (s0 s1 s2 s3 s4 s5 s6 s7 h : List UInt8) (rd pw : Nat) (hs : ∀ n, (nmF [s0, s1, s2, s3, s4, s5, s6, s7] n).length ≤ 3) (hh : h.length ≤ 10) (dst a b imm loc off ix sz fn pr su to : Int) (acq wk rel ze : Bool) (lb : List UInt8) (hd : ¬ dst = a) : Ctr Tryz.prog 130 [.ptr 1 1 0 [], .agg (ienc ⟨6, dst, a, b, imm, loc, off, ix, sz, fn, acq, wk, rel, pr, su, to, ze⟩), .s lb] [rowS s0 s1 s2 s3 s4 s5 s6 s7, langB h rd pw]
    (fun r h' => r = .tup [.s [], .b false] ∧ h' = [rowS s0 s1 s2 s3 s4 s5 s6 s7, langB h rd pw]) := by
  refine Ctr.enterG tabOkF (fn := Tryz.f130) rfl rfl rfl rfl rfl rfl bndLang ?_
  refine OpC.callG rfl rfl rfl rfl rfl rfl (fun _ => Ctr.spread (end_ok sz [66] [87] [76] [81]) (fun ρ => rfl) _ [3] rfl rfl ⟨rfl, trivial⟩ rfl) ?_
  refine ⟨fun h => no_ft h, fun _ => ?_⟩
  refine ⟨fun h => no_ft h, fun _ => ?_⟩
  refine ⟨fun h => no_ft h, fun _ => ?_⟩
  refine ⟨fun h => no_ft h, fun _ => ?_⟩
  refine ⟨fun h => no_ft h, fun _ => ?_⟩
  refine ⟨fun h => ?_, fun _ => ?_⟩
  · have h : (((decide (dst = a) && acq) && rel) && decide (fn = 6)) = true := h
    rw [decide_eq_false hd] at h; exact no_ft h
  refine ⟨fun h => ?_, fun _ => ?_⟩
  · have h : ((decide (dst = a) && acq) && rel) = true := h
    rw [decide_eq_false hd] at h; exact no_ft h
  refine ⟨fun h => no_ft h, fun _ => ?_⟩
  refine ⟨fun h => no_ft h, fun _ => ?_⟩
  refine ⟨fun h => no_ft h, fun _ => ?_⟩
  exact ⟨rfl, _, rfl⟩
set_option maxHeartbeats 1600000 in
theorem xp_6a (s0 s1 s2 s3 s4 s5 s6 s7 h : List UInt8) (rd pw : Nat) (hs : ∀ n, (nmF [s0, s1, s2, s3, s4, s5, s6, s7] n).length ≤ 3) (hh : h.length ≤ 10) (dst a b imm loc off ix sz fn pr su to : Int) (wk rel ze : Bool) (lb : List UInt8)  : Ctr Tryz.prog 130 [.ptr 1 1 0 [], .agg (ienc ⟨6, dst, a, b, imm, loc, off, ix, sz, fn, false, wk, rel, pr, su, to, ze⟩), .s lb] [rowS s0 s1 s2 s3 s4 s5 s6 s7, langB h rd pw]
    (fun r h' => r = .tup [.s [], .b false] ∧ h' = [rowS s0 s1 s2 s3 s4 s5 s6 s7, langB h rd pw]) := by
  refine Ctr.enterG tabOkF (fn := Tryz.f130) rfl rfl rfl rfl rfl rfl bndLang ?_
  refine OpC.callG rfl rfl rfl rfl rfl rfl (fun _ => Ctr.spread (end_ok sz [66] [87] [76] [81]) (fun ρ => rfl) _ [3] rfl rfl ⟨rfl, trivial⟩ rfl) ?_
  refine ⟨fun h => no_ft h, fun _ => ?_⟩
  refine ⟨fun h => no_ft h, fun _ => ?_⟩
  refine ⟨fun h => no_ft h, fun _ => ?_⟩
  refine ⟨fun h => no_ft h, fun _ => ?_⟩
  refine ⟨fun h => no_ft h, fun _ => ?_⟩
  refine ⟨fun h => ?_, fun _ => ?_⟩
  · have h : (((decide (dst = a) && false) && rel) && decide (fn = 6)) = true := h
    exact no_ft (by rw [← h]; simp)
  refine ⟨fun h => ?_, fun _ => ?_⟩
  · have h : ((decide (dst = a) && false) && rel) = true := h
    exact no_ft (by rw [← h]; simp)
  refine ⟨fun h => no_ft h, fun _ => ?_⟩
  refine ⟨fun h => no_ft h, fun _ => ?_⟩
  refine ⟨fun h => no_ft h, fun _ => ?_⟩
  exact ⟨rfl, _, rfl⟩
set_option maxHeartbeats 1600000 in
theorem xp_6r (s0 s1 s2 s3 s4 s5 s6 s7 h : List UInt8) (rd pw : Nat) (hs : ∀ n, (nmF [s0, s1, s2, s3, s4, s5, s6, s7] n).length ≤ 3) (hh : h.length ≤ 10) (dst a b imm loc off ix sz fn pr su to : Int) (wk ze : Bool) (lb : List UInt8)  : Ctr Tryz.prog 130 [.ptr 1 1 0 [], .agg (ienc ⟨6, dst, a, b, imm, loc, off, ix, sz, fn, true, wk, false, pr, su, to, ze⟩), .s lb] [rowS s0 s1 s2 s3 s4 s5 s6 s7, langB h rd pw]
    (fun r h' => r = .tup [.s [], .b false] ∧ h' = [rowS s0 s1 s2 s3 s4 s5 s6 s7, langB h rd pw]) := by
  refine Ctr.enterG tabOkF (fn := Tryz.f130) rfl rfl rfl rfl rfl rfl bndLang ?_
  refine OpC.callG rfl rfl rfl rfl rfl rfl (fun _ => Ctr.spread (end_ok sz [66] [87] [76] [81]) (fun ρ => rfl) _ [3] rfl rfl ⟨rfl, trivial⟩ rfl) ?_
  refine ⟨fun h => no_ft h, fun _ => ?_⟩
  refine ⟨fun h => no_ft h, fun _ => ?_⟩
  refine ⟨fun h => no_ft h, fun _ => ?_⟩
  refine ⟨fun h => no_ft h, fun _ => ?_⟩
  refine ⟨fun h => no_ft h, fun _ => ?_⟩
  refine ⟨fun h => ?_, fun _ => ?_⟩
  · have h : (((decide (dst = a) && true) && false) && decide (fn = 6)) = true := h
    exact no_ft (by rw [← h]; simp)
  refine ⟨fun h => ?_, fun _ => ?_⟩
  · have h : ((decide (dst = a) && true) && false) = true := h
    exact no_ft (by rw [← h]; simp)
  refine ⟨fun h => no_ft h, fun _ => ?_⟩
  refine ⟨fun h => no_ft h, fun _ => ?_⟩
  refine ⟨fun h => no_ft h, fun _ => ?_⟩
  exact ⟨rfl, _, rfl⟩
set_option maxHeartbeats 1600000 in
theorem xp_6x (s0 s1 s2 s3 s4 s5 s6 s7 h : List UInt8) (rd pw : Nat) (hs : ∀ n, (nmF [s0, s1, s2, s3, s4, s5, s6, s7] n).length ≤ 3) (hh : h.length ≤ 10) (dst a b imm loc off ix sz pr su to : Int) (wk ze : Bool) (lb : List UInt8) (hd : dst = a) (ha : accB ⟨6, dst, a, b, imm, loc, off, ix, sz, 6, true, wk, true, pr, su, to, ze⟩ = true) : Ctr Tryz.prog 130 [.ptr 1 1 0 [], .agg (ienc ⟨6, dst, a, b, imm, loc, off, ix, sz, 6, true, wk, true, pr, su, to, ze⟩), .s lb] [rowS s0 s1 s2 s3 s4 s5 s6 s7, langB h rd pw]
    (fun r h' => r = .tup [.s (lineF ([88, 67, 72, 71] ++ xEnd sz) [nmF [s0, s1, s2, s3, s4, s5, s6, s7] a, atF [s0, s1, s2, s3, s4, s5, s6, s7] ⟨6, dst, a, b, imm, loc, off, ix, sz, 6, true, wk, true, pr, su, to, ze⟩]), .b true] ∧ h' = [rowS s0 s1 s2 s3 s4 s5 s6 s7, langB h rd pw]) := by
  refine Ctr.enterG tabOkF (fn := Tryz.f130) rfl rfl rfl rfl rfl rfl bndLang ?_
  refine OpC.callG rfl rfl rfl rfl rfl rfl (fun _ => Ctr.spread (end_ok sz [66] [87] [76] [81]) (fun ρ => rfl) _ [3] rfl rfl ⟨rfl, trivial⟩ rfl) ?_
  refine ⟨fun h => no_ft h, fun _ => ?_⟩
  refine ⟨fun h => no_ft h, fun _ => ?_⟩
  refine ⟨fun h => no_ft h, fun _ => ?_⟩
  refine ⟨fun h => no_ft h, fun _ => ?_⟩
  refine ⟨fun h => no_ft h, fun _ => ?_⟩
  refine ⟨fun _ => ?_, fun h => ?_⟩
  rotate_left
  · have h : (((decide (dst = a) && true) && true) && decide ((6 : Int) = 6)) = false := h
    rw [decide_eq_true hd] at h; exact no_tf h
  refine WpC.dr tabOkF mixed 1 ?_
  have he := xEnd_len sz
  refine ⟨fun _ => ?_, ?_⟩
  · show 4 + (xEnd sz).length ≤ 9223372036854775807
    omega
  refine OpD.callG [0, 1] rfl rfl rfl rfl rfl rfl (r := .s (nmF [s0, s1, s2, s3, s4, s5, s6, s7] a)) (fun _ H1 hH => Ctr.spread (lnm_ok s0 s1 s2 s3 s4 s5 s6 s7 h rd pw a) (fun ρ => rfl) H1 [0, 1] rfl rfl ⟨hH 0 (by simp), hH 1 (by simp), trivial⟩ rfl) ?_
  refine OpD.callG [0, 1] rfl rfl rfl rfl rfl rfl (r := .s (atF [s0, s1, s2, s3, s4, s5, s6, s7] ⟨6, dst, a, b, imm, loc, off, ix, sz, 6, true, wk, true, pr, su, to, ze⟩)) (fun _ H1 hH => Ctr.spread (lat_ok s0 s1 s2 s3 s4 s5 s6 s7 h rd pw hs ⟨6, dst, a, b, imm, loc, off, ix, sz, 6, true, wk, true, pr, su, to, ze⟩ ha) (fun ρ => rfl) H1 [0, 1] rfl rfl ⟨hH 0 (by simp), hH 1 (by simp), trivial⟩ rfl) ?_
  refine OpD.callG [4] rfl rfl rfl rfl rfl rfl (r := .s (lineF ([88, 67, 72, 71] ++ xEnd sz) [nmF [s0, s1, s2, s3, s4, s5, s6, s7] a, atF [s0, s1, s2, s3, s4, s5, s6, s7] ⟨6, dst, a, b, imm, loc, off, ix, sz, 6, true, wk, true, pr, su, to, ze⟩])) (fun _ H1 hH => Ctr.spread (line_ok ([88, 67, 72, 71] ++ xEnd sz) [nmF [s0, s1, s2, s3, s4, s5, s6, s7] a, atF [s0, s1, s2, s3, s4, s5, s6, s7] ⟨6, dst, a, b, imm, loc, off, ix, sz, 6, true, wk, true, pr, su, to, ze⟩] 2 rfl (by decide) (by decide) (by rw [join2_len]; have := hs a; have := atF_len hs ha; omega) (by simp; omega)) (fun ρ => rfl) H1 [4] rfl rfl ⟨hH 4 (by simp), trivial⟩ rfl) ?_
  refine ⟨by kernel_rfl, ?_⟩
  exact ⟨rfl, _, rfl⟩
set_option maxHeartbeats 1600000 in
theorem xp_6y (s0 s1 s2 s3 s4 s5 s6 s7 h : List UInt8) (rd pw : Nat) (hs : ∀ n, (nmF [s0, s1, s2, s3, s4, s5, s6, s7] n).length ≤ 3) (hh : h.length ≤ 10) (dst a b imm loc off ix sz pr su to : Int) (wk ze : Bool) (lb : List UInt8) (hd : dst = a) (ha : accB ⟨6, dst, a, b, imm, loc, off, ix, sz, 1, true, wk, true, pr, su, to, ze⟩ = true) : Ctr Tryz.prog 130 [.ptr 1 1 0 [], .agg (ienc ⟨6, dst, a, b, imm, loc, off, ix, sz, 1, true, wk, true, pr, su, to, ze⟩), .s lb] [rowS s0 s1 s2 s3 s4 s5 s6 s7, langB h rd pw]
    (fun r h' => r = .tup [.s (lineF ([88, 65, 68, 68] ++ xEnd sz) [atF [s0, s1, s2, s3, s4, s5, s6, s7] ⟨6, dst, a, b, imm, loc, off, ix, sz, 1, true, wk, true, pr, su, to, ze⟩, nmF [s0, s1, s2, s3, s4, s5, s6, s7] a]), .b true] ∧ h' = [rowS s0 s1 s2 s3 s4 s5 s6 s7, langB h rd pw]) := by
  refine Ctr.enterG tabOkF (fn := Tryz.f130) rfl rfl rfl rfl rfl rfl bndLang ?_
  refine OpC.callG rfl rfl rfl rfl rfl rfl (fun _ => Ctr.spread (end_ok sz [66] [87] [76] [81]) (fun ρ => rfl) _ [3] rfl rfl ⟨rfl, trivial⟩ rfl) ?_
  refine ⟨fun h => no_ft h, fun _ => ?_⟩
  refine ⟨fun h => no_ft h, fun _ => ?_⟩
  refine ⟨fun h => no_ft h, fun _ => ?_⟩
  refine ⟨fun h => no_ft h, fun _ => ?_⟩
  refine ⟨fun h => no_ft h, fun _ => ?_⟩
  refine ⟨fun h => ?_, fun _ => ?_⟩
  · have h : (((decide (dst = a) && true) && true) && decide ((1 : Int) = 6)) = true := h
    rw [decide_eq_true hd] at h; exact no_ft h
  refine ⟨fun _ => ?_, fun h => ?_⟩
  rotate_left
  · have h : ((decide (dst = a) && true) && true) = false := h
    rw [decide_eq_true hd] at h; exact no_tf h
  refine WpC.dr tabOkF mixed 1 ?_
  have he := xEnd_len sz
  refine ⟨fun _ => ?_, ?_⟩
  · show 4 + (xEnd sz).length ≤ 9223372036854775807
    omega
  refine OpD.callG [0, 1] rfl rfl rfl rfl rfl rfl (r := .s (atF [s0, s1, s2, s3, s4, s5, s6, s7] ⟨6, dst, a, b, imm, loc, off, ix, sz, 1, true, wk, true, pr, su, to, ze⟩)) (fun _ H1 hH => Ctr.spread (lat_ok s0 s1 s2 s3 s4 s5 s6 s7 h rd pw hs ⟨6, dst, a, b, imm, loc, off, ix, sz, 1, true, wk, true, pr, su, to, ze⟩ ha) (fun ρ => rfl) H1 [0, 1] rfl rfl ⟨hH 0 (by simp), hH 1 (by simp), trivial⟩ rfl) ?_
  refine OpD.callG [0, 1] rfl rfl rfl rfl rfl rfl (r := .s (nmF [s0, s1, s2, s3, s4, s5, s6, s7] a)) (fun _ H1 hH => Ctr.spread (lnm_ok s0 s1 s2 s3 s4 s5 s6 s7 h rd pw a) (fun ρ => rfl) H1 [0, 1] rfl rfl ⟨hH 0 (by simp), hH 1 (by simp), trivial⟩ rfl) ?_
  refine OpD.callG [4] rfl rfl rfl rfl rfl rfl (r := .s (lineF ([88, 65, 68, 68] ++ xEnd sz) [atF [s0, s1, s2, s3, s4, s5, s6, s7] ⟨6, dst, a, b, imm, loc, off, ix, sz, 1, true, wk, true, pr, su, to, ze⟩, nmF [s0, s1, s2, s3, s4, s5, s6, s7] a])) (fun _ H1 hH => Ctr.spread (line_ok ([88, 65, 68, 68] ++ xEnd sz) [atF [s0, s1, s2, s3, s4, s5, s6, s7] ⟨6, dst, a, b, imm, loc, off, ix, sz, 1, true, wk, true, pr, su, to, ze⟩, nmF [s0, s1, s2, s3, s4, s5, s6, s7] a] 2 rfl (by decide) (by decide) (by rw [join2_len]; have := atF_len hs ha; have := hs a; omega) (by simp; omega)) (fun ρ => rfl) H1 [4] rfl rfl ⟨hH 4 (by simp), trivial⟩ rfl) ?_
  refine ⟨by kernel_rfl, ?_⟩
  exact ⟨rfl, _, rfl⟩
set_option maxHeartbeats 1600000 in
theorem xp_711 (s0 s1 s2 s3 s4 s5 s6 s7 h : List UInt8) (rd pw : Nat) (hs : ∀ n, (nmF [s0, s1, s2, s3, s4, s5, s6, s7] n).length ≤ 3) (hh : h.length ≤ 10) (dst a b imm loc off ix sz fn to : Int) (acq wk rel ze : Bool) (lb : List UInt8)  : Ctr Tryz.prog 130 [.ptr 1 1 0 [], .agg (ienc ⟨7, dst, a, b, imm, loc, off, ix, sz, fn, acq, wk, rel, 1, 1, to, ze⟩), .s lb] [rowS s0 s1 s2 s3 s4 s5 s6 s7, langB h rd pw]
    (fun r h' => r = .tup [.s [], .b false] ∧ h' = [rowS s0 s1 s2 s3 s4 s5 s6 s7, langB h rd pw]) := by
  refine Ctr.enterG tabOkF (fn := Tryz.f130) rfl rfl rfl rfl rfl rfl bndLang ?_
  refine OpC.callG rfl rfl rfl rfl rfl rfl (fun _ => Ctr.spread (end_ok sz [66] [87] [76] [81]) (fun ρ => rfl) _ [3] rfl rfl ⟨rfl, trivial⟩ rfl) ?_
  refine ⟨fun h => no_ft h, fun _ => ?_⟩
  refine ⟨fun h => no_ft h, fun _ => ?_⟩
  refine ⟨fun h => no_ft h, fun _ => ?_⟩
  refine ⟨fun h => no_ft h, fun _ => ?_⟩
  refine ⟨fun h => no_ft h, fun _ => ?_⟩
  refine ⟨fun h => no_ft h, fun _ => ?_⟩
  refine ⟨fun h => no_ft h, fun _ => ?_⟩
  refine ⟨fun h => ?_, fun _ => ?_⟩
  · have h : (decide ((7 : Int) = 7) && decide (bits BinOp.and IntKind.i64 1 1 = 3)) = true := h
    exact absurd h (by decide +kernel)
  refine ⟨fun h => no_ft h, fun _ => ?_⟩
  refine ⟨fun h => no_ft h, fun _ => ?_⟩
  exact ⟨rfl, _, rfl⟩
set_option maxHeartbeats 1600000 in
theorem xp_712 (s0 s1 s2 s3 s4 s5 s6 s7 h : List UInt8) (rd pw : Nat) (hs : ∀ n, (nmF [s0, s1, s2, s3, s4, s5, s6, s7] n).length ≤ 3) (hh : h.length ≤ 10) (dst a b imm loc off ix sz fn to : Int) (acq wk rel ze : Bool) (lb : List UInt8)  : Ctr Tryz.prog 130 [.ptr 1 1 0 [], .agg (ienc ⟨7, dst, a, b, imm, loc, off, ix, sz, fn, acq, wk, rel, 1, 2, to, ze⟩), .s lb] [rowS s0 s1 s2 s3 s4 s5 s6 s7, langB h rd pw]
    (fun r h' => r = .tup [.s [], .b false] ∧ h' = [rowS s0 s1 s2 s3 s4 s5 s6 s7, langB h rd pw]) := by
  refine Ctr.enterG tabOkF (fn := Tryz.f130) rfl rfl rfl rfl rfl rfl bndLang ?_
  refine OpC.callG rfl rfl rfl rfl rfl rfl (fun _ => Ctr.spread (end_ok sz [66] [87] [76] [81]) (fun ρ => rfl) _ [3] rfl rfl ⟨rfl, trivial⟩ rfl) ?_
  refine ⟨fun h => no_ft h, fun _ => ?_⟩
  refine ⟨fun h => no_ft h, fun _ => ?_⟩
  refine ⟨fun h => no_ft h, fun _ => ?_⟩
  refine ⟨fun h => no_ft h, fun _ => ?_⟩
  refine ⟨fun h => no_ft h, fun _ => ?_⟩
  refine ⟨fun h => no_ft h, fun _ => ?_⟩
  refine ⟨fun h => no_ft h, fun _ => ?_⟩
  refine ⟨fun h => ?_, fun _ => ?_⟩
  · have h : (decide ((7 : Int) = 7) && decide (bits BinOp.and IntKind.i64 1 2 = 3)) = true := h
    exact absurd h (by decide +kernel)
  refine ⟨fun h => no_ft h, fun _ => ?_⟩
  refine ⟨fun h => no_ft h, fun _ => ?_⟩
  exact ⟨rfl, _, rfl⟩
set_option maxHeartbeats 1600000 in
theorem xp_713 (s0 s1 s2 s3 s4 s5 s6 s7 h : List UInt8) (rd pw : Nat) (hs : ∀ n, (nmF [s0, s1, s2, s3, s4, s5, s6, s7] n).length ≤ 3) (hh : h.length ≤ 10) (dst a b imm loc off ix sz fn to : Int) (acq wk rel ze : Bool) (lb : List UInt8)  : Ctr Tryz.prog 130 [.ptr 1 1 0 [], .agg (ienc ⟨7, dst, a, b, imm, loc, off, ix, sz, fn, acq, wk, rel, 1, 3, to, ze⟩), .s lb] [rowS s0 s1 s2 s3 s4 s5 s6 s7, langB h rd pw]
    (fun r h' => r = .tup [.s [], .b false] ∧ h' = [rowS s0 s1 s2 s3 s4 s5 s6 s7, langB h rd pw]) := by
  refine Ctr.enterG tabOkF (fn := Tryz.f130) rfl rfl rfl rfl rfl rfl bndLang ?_
  refine OpC.callG rfl rfl rfl rfl rfl rfl (fun _ => Ctr.spread (end_ok sz [66] [87] [76] [81]) (fun ρ => rfl) _ [3] rfl rfl ⟨rfl, trivial⟩ rfl) ?_
  refine ⟨fun h => no_ft h, fun _ => ?_⟩
  refine ⟨fun h => no_ft h, fun _ => ?_⟩
  refine ⟨fun h => no_ft h, fun _ => ?_⟩
  refine ⟨fun h => no_ft h, fun _ => ?_⟩
  refine ⟨fun h => no_ft h, fun _ => ?_⟩
  refine ⟨fun h => no_ft h, fun _ => ?_⟩
  refine ⟨fun h => no_ft h, fun _ => ?_⟩
  refine ⟨fun h => ?_, fun _ => ?_⟩
  · have h : (decide ((7 : Int) = 7) && decide (bits BinOp.and IntKind.i64 1 3 = 3)) = true := h
    exact absurd h (by decide +kernel)
  refine ⟨fun h => no_ft h, fun _ => ?_⟩
  refine ⟨fun h => no_ft h, fun _ => ?_⟩
  exact ⟨rfl, _, rfl⟩
set_option maxHeartbeats 1600000 in
theorem xp_721 (s0 s1 s2 s3 s4 s5 s6 s7 h : List UInt8) (rd pw : Nat) (hs : ∀ n, (nmF [s0, s1, s2, s3, s4, s5, s6, s7] n).length ≤ 3) (hh : h.length ≤ 10) (dst a b imm loc off ix sz fn to : Int) (acq wk rel ze : Bool) (lb : List UInt8)  : Ctr Tryz.prog 130 [.ptr 1 1 0 [], .agg (ienc ⟨7, dst, a, b, imm, loc, off, ix, sz, fn, acq, wk, rel, 2, 1, to, ze⟩), .s lb] [rowS s0 s1 s2 s3 s4 s5 s6 s7, langB h rd pw]
    (fun r h' => r = .tup [.s [], .b false] ∧ h' = [rowS s0 s1 s2 s3 s4 s5 s6 s7, langB h rd pw]) := by
  refine Ctr.enterG tabOkF (fn := Tryz.f130) rfl rfl rfl rfl rfl rfl bndLang ?_
  refine OpC.callG rfl rfl rfl rfl rfl rfl (fun _ => Ctr.spread (end_ok sz [66] [87] [76] [81]) (fun ρ => rfl) _ [3] rfl rfl ⟨rfl, trivial⟩ rfl) ?_
  refine ⟨fun h => no_ft h, fun _ => ?_⟩
  refine ⟨fun h => no_ft h, fun _ => ?_⟩
  refine ⟨fun h => no_ft h, fun _ => ?_⟩
  refine ⟨fun h => no_ft h, fun _ => ?_⟩
  refine ⟨fun h => no_ft h, fun _ => ?_⟩
  refine ⟨fun h => no_ft h, fun _ => ?_⟩
  refine ⟨fun h => no_ft h, fun _ => ?_⟩
  refine ⟨fun h => ?_, fun _ => ?_⟩
  · have h : (decide ((7 : Int) = 7) && decide (bits BinOp.and IntKind.i64 2 1 = 3)) = true := h
    exact absurd h (by decide +kernel)
  refine ⟨fun h => no_ft h, fun _ => ?_⟩
  refine ⟨fun h => no_ft h, fun _ => ?_⟩
  exact ⟨rfl, _, rfl⟩
set_option maxHeartbeats 1600000 in
theorem xp_722 (s0 s1 s2 s3 s4 s5 s6 s7 h : List UInt8) (rd pw : Nat) (hs : ∀ n, (nmF [s0, s1, s2, s3, s4, s5, s6, s7] n).length ≤ 3) (hh : h.length ≤ 10) (dst a b imm loc off ix sz fn to : Int) (acq wk rel ze : Bool) (lb : List UInt8)  : Ctr Tryz.prog 130 [.ptr 1 1 0 [], .agg (ienc ⟨7, dst, a, b, imm, loc, off, ix, sz, fn, acq, wk, rel, 2, 2, to, ze⟩), .s lb] [rowS s0 s1 s2 s3 s4 s5 s6 s7, langB h rd pw]
    (fun r h' => r = .tup [.s [], .b false] ∧ h' = [rowS s0 s1 s2 s3 s4 s5 s6 s7, langB h rd pw]) := by
  refine Ctr.enterG tabOkF (fn := Tryz.f130) rfl rfl rfl rfl rfl rfl bndLang ?_
  refine OpC.callG rfl rfl rfl rfl rfl rfl (fun _ => Ctr.spread (end_ok sz [66] [87] [76] [81]) (fun ρ => rfl) _ [3] rfl rfl ⟨rfl, trivial⟩ rfl) ?_
  refine ⟨fun h => no_ft h, fun _ => ?_⟩
  refine ⟨fun h => no_ft h, fun _ => ?_⟩
  refine ⟨fun h => no_ft h, fun _ => ?_⟩
  refine ⟨fun h => no_ft h, fun _ => ?_⟩
  refine ⟨fun h => no_ft h, fun _ => ?_⟩
  refine ⟨fun h => no_ft h, fun _ => ?_⟩
  refine ⟨fun h => no_ft h, fun _ => ?_⟩
  refine ⟨fun h => ?_, fun _ => ?_⟩
  · have h : (decide ((7 : Int) = 7) && decide (bits BinOp.and IntKind.i64 2 2 = 3)) = true := h
    exact absurd h (by decide +kernel)
  refine ⟨fun h => no_ft h, fun _ => ?_⟩
  refine ⟨fun h => no_ft h, fun _ => ?_⟩
  exact ⟨rfl, _, rfl⟩
set_option maxHeartbeats 1600000 in
theorem xp_723 (s0 s1 s2 s3 s4 s5 s6 s7 h : List UInt8) (rd pw : Nat) (hs : ∀ n, (nmF [s0, s1, s2, s3, s4, s5, s6, s7] n).length ≤ 3) (hh : h.length ≤ 10) (dst a b imm loc off ix sz fn to : Int) (acq wk rel ze : Bool) (lb : List UInt8)  : Ctr Tryz.prog 130 [.ptr 1 1 0 [], .agg (ienc ⟨7, dst, a, b, imm, loc, off, ix, sz, fn, acq, wk, rel, 2, 3, to, ze⟩), .s lb] [rowS s0 s1 s2 s3 s4 s5 s6 s7, langB h rd pw]
    (fun r h' => r = .tup [.s [], .b false] ∧ h' = [rowS s0 s1 s2 s3 s4 s5 s6 s7, langB h rd pw]) := by
  refine Ctr.enterG tabOkF (fn := Tryz.f130) rfl rfl rfl rfl rfl rfl bndLang ?_
  refine OpC.callG rfl rfl rfl rfl rfl rfl (fun _ => Ctr.spread (end_ok sz [66] [87] [76] [81]) (fun ρ => rfl) _ [3] rfl rfl ⟨rfl, trivial⟩ rfl) ?_
  refine ⟨fun h => no_ft h, fun _ => ?_⟩
  refine ⟨fun h => no_ft h, fun _ => ?_⟩
  refine ⟨fun h => no_ft h, fun _ => ?_⟩
  refine ⟨fun h => no_ft h, fun _ => ?_⟩
  refine ⟨fun h => no_ft h, fun _ => ?_⟩
  refine ⟨fun h => no_ft h, fun _ => ?_⟩
  refine ⟨fun h => no_ft h, fun _ => ?_⟩
  refine ⟨fun h => ?_, fun _ => ?_⟩
  · have h : (decide ((7 : Int) = 7) && decide (bits BinOp.and IntKind.i64 2 3 = 3)) = true := h
    exact absurd h (by decide +kernel)
  refine ⟨fun h => no_ft h, fun _ => ?_⟩
  refine ⟨fun h => no_ft h, fun _ => ?_⟩
  exact ⟨rfl, _, rfl⟩
set_option maxHeartbeats 1600000 in
theorem xp_731 (s0 s1 s2 s3 s4 s5 s6 s7 h : List UInt8) (rd pw : Nat) (hs : ∀ n, (nmF [s0, s1, s2, s3, s4, s5, s6, s7] n).length ≤ 3) (hh : h.length ≤ 10) (dst a b imm loc off ix sz fn to : Int) (acq wk rel ze : Bool) (lb : List UInt8)  : Ctr Tryz.prog 130 [.ptr 1 1 0 [], .agg (ienc ⟨7, dst, a, b, imm, loc, off, ix, sz, fn, acq, wk, rel, 3, 1, to, ze⟩), .s lb] [rowS s0 s1 s2 s3 s4 s5 s6 s7, langB h rd pw]
    (fun r h' => r = .tup [.s [], .b false] ∧ h' = [rowS s0 s1 s2 s3 s4 s5 s6 s7, langB h rd pw]) := by
  refine Ctr.enterG tabOkF (fn := Tryz.f130) rfl rfl rfl rfl rfl rfl bndLang ?_
  refine OpC.callG rfl rfl rfl rfl rfl rfl (fun _ => Ctr.spread (end_ok sz [66] [87] [76] [81]) (fun ρ => rfl) _ [3] rfl rfl ⟨rfl, trivial⟩ rfl) ?_
  refine ⟨fun h => no_ft h, fun _ => ?_⟩
  refine ⟨fun h => no_ft h, fun _ => ?_⟩
  refine ⟨fun h => no_ft h, fun _ => ?_⟩
  refine ⟨fun h => no_ft h, fun _ => ?_⟩
  refine ⟨fun h => no_ft h, fun _ => ?_⟩
  refine ⟨fun h => no_ft h, fun _ => ?_⟩
  refine ⟨fun h => no_ft h, fun _ => ?_⟩
  refine ⟨fun h => ?_, fun _ => ?_⟩
  · have h : (decide ((7 : Int) = 7) && decide (bits BinOp.and IntKind.i64 3 1 = 3)) = true := h
    exact absurd h (by decide +kernel)
  refine ⟨fun h => no_ft h, fun _ => ?_⟩
  refine ⟨fun h => no_ft h, fun _ => ?_⟩
  exact ⟨rfl, _, rfl⟩
set_option maxHeartbeats 1600000 in
theorem xp_732 (s0 s1 s2 s3 s4 s5 s6 s7 h : List UInt8) (rd pw : Nat) (hs : ∀ n, (nmF [s0, s1, s2, s3, s4, s5, s6, s7] n).length ≤ 3) (hh : h.length ≤ 10) (dst a b imm loc off ix sz fn to : Int) (acq wk rel ze : Bool) (lb : List UInt8)  : Ctr Tryz.prog 130 [.ptr 1 1 0 [], .agg (ienc ⟨7, dst, a, b, imm, loc, off, ix, sz, fn, acq, wk, rel, 3, 2, to, ze⟩), .s lb] [rowS s0 s1 s2 s3 s4 s5 s6 s7, langB h rd pw]
    (fun r h' => r = .tup [.s [], .b false] ∧ h' = [rowS s0 s1 s2 s3 s4 s5 s6 s7, langB h rd pw]) := by
  refine Ctr.enterG tabOkF (fn := Tryz.f130) rfl rfl rfl rfl rfl rfl bndLang ?_
  refine OpC.callG rfl rfl rfl rfl rfl rfl (fun _ => Ctr.spread (end_ok sz [66] [87] [76] [81]) (fun ρ => rfl) _ [3] rfl rfl ⟨rfl, trivial⟩ rfl) ?_
  refine ⟨fun h => no_ft h, fun _ => ?_⟩
  refine ⟨fun h => no_ft h, fun _ => ?_⟩
  refine ⟨fun h => no_ft h, fun _ => ?_⟩
  refine ⟨fun h => no_ft h, fun _ => ?_⟩
  refine ⟨fun h => no_ft h, fun _ => ?_⟩
  refine ⟨fun h => no_ft h, fun _ => ?_⟩
  refine ⟨fun h => no_ft h, fun _ => ?_⟩
  refine ⟨fun h => ?_, fun _ => ?_⟩
  · have h : (decide ((7 : Int) = 7) && decide (bits BinOp.and IntKind.i64 3 2 = 3)) = true := h
    exact absurd h (by decide +kernel)
  refine ⟨fun h => no_ft h, fun _ => ?_⟩
  refine ⟨fun h => no_ft h, fun _ => ?_⟩
  exact ⟨rfl, _, rfl⟩
set_option maxHeartbeats 1600000 in
theorem xp_733 (s0 s1 s2 s3 s4 s5 s6 s7 h : List UInt8) (rd pw : Nat) (hs : ∀ n, (nmF [s0, s1, s2, s3, s4, s5, s6, s7] n).length ≤ 3) (hh : h.length ≤ 10) (dst a b imm loc off ix sz fn to : Int) (acq wk rel ze : Bool) (lb : List UInt8)  : Ctr Tryz.prog 130 [.ptr 1 1 0 [], .agg (ienc ⟨7, dst, a, b, imm, loc, off, ix, sz, fn, acq, wk, rel, 3, 3, to, ze⟩), .s lb] [rowS s0 s1 s2 s3 s4 s5 s6 s7, langB h rd pw]
    (fun r h' => r = .tup [.s [77, 70, 69, 78, 67, 69], .b true] ∧ h' = [rowS s0 s1 s2 s3 s4 s5 s6 s7, langB h rd pw]) := by
  refine Ctr.enterG tabOkF (fn := Tryz.f130) rfl rfl rfl rfl rfl rfl bndLang ?_
  refine OpC.callG rfl rfl rfl rfl rfl rfl (fun _ => Ctr.spread (end_ok sz [66] [87] [76] [81]) (fun ρ => rfl) _ [3] rfl rfl ⟨rfl, trivial⟩ rfl) ?_
  refine ⟨fun h => no_ft h, fun _ => ?_⟩
  refine ⟨fun h => no_ft h, fun _ => ?_⟩
  refine ⟨fun h => no_ft h, fun _ => ?_⟩
  refine ⟨fun h => no_ft h, fun _ => ?_⟩
  refine ⟨fun h => no_ft h, fun _ => ?_⟩
  refine ⟨fun h => no_ft h, fun _ => ?_⟩
  refine ⟨fun h => no_ft h, fun _ => ?_⟩
  refine ⟨fun _ => ?_, fun h => ?_⟩
  rotate_left
  · have h : (decide ((7 : Int) = 7) && decide (bits BinOp.and IntKind.i64 3 3 = 3)) = false := h
    exact absurd h (by decide +kernel)
  exact ⟨rfl, _, rfl⟩
set_option maxHeartbeats 1600000 in
theorem xp_8 (s0 s1 s2 s3 s4 s5 s6 s7 h : List UInt8) (rd pw : Nat) (hs : ∀ n, (nmF [s0, s1, s2, s3, s4, s5, s6, s7] n).length ≤ 3) (hh : h.length ≤ 10) (dst a b imm loc off ix sz fn pr su to : Int) (acq wk rel ze : Bool) (lb : List UInt8)  : Ctr Tryz.prog 130 [.ptr 1 1 0 [], .agg (ienc ⟨8, dst, a, b, imm, loc, off, ix, sz, fn, acq, wk, rel, pr, su, to, ze⟩), .s lb] [rowS s0 s1 s2 s3 s4 s5 s6 s7, langB h rd pw]
    (fun r h' => r = .tup [.s [], .b false] ∧ h' = [rowS s0 s1 s2 s3 s4 s5 s6 s7, langB h rd pw]) := by
  refine Ctr.enterG tabOkF (fn := Tryz.f130) rfl rfl rfl rfl rfl rfl bndLang ?_
  refine OpC.callG rfl rfl rfl rfl rfl rfl (fun _ => Ctr.spread (end_ok sz [66] [87] [76] [81]) (fun ρ => rfl) _ [3] rfl rfl ⟨rfl, trivial⟩ rfl) ?_
  refine ⟨fun h => no_ft h, fun _ => ?_⟩
  refine ⟨fun h => no_ft h, fun _ => ?_⟩
  refine ⟨fun h => no_ft h, fun _ => ?_⟩
  refine ⟨fun h => no_ft h, fun _ => ?_⟩
  refine ⟨fun h => no_ft h, fun _ => ?_⟩
  refine ⟨fun h => no_ft h, fun _ => ?_⟩
  refine ⟨fun h => no_ft h, fun _ => ?_⟩
  refine ⟨fun h => no_ft h, fun _ => ?_⟩
  refine ⟨fun h => no_ft h, fun _ => ?_⟩
  refine ⟨fun h => no_ft h, fun _ => ?_⟩
  exact ⟨rfl, _, rfl⟩
set_option maxHeartbeats 1600000 in
theorem xp_9z (s0 s1 s2 s3 s4 s5 s6 s7 h : List UInt8) (rd pw : Nat) (hs : ∀ n, (nmF [s0, s1, s2, s3, s4, s5, s6, s7] n).length ≤ 3) (hh : h.length ≤ 10) (dst a b imm loc off ix sz fn pr su to : Int) (acq wk rel : Bool) (lb : List UInt8) (hl : lb.length ≤ 90000) : Ctr Tryz.prog 130 [.ptr 1 1 0 [], .agg (ienc ⟨9, dst, a, b, imm, loc, off, ix, sz, fn, acq, wk, rel, pr, su, to, true⟩), .s lb] [rowS s0 s1 s2 s3 s4 s5 s6 s7, langB h rd pw]
    (fun r h' => r = .tup [.s (lineF [74, 90] [nmF [s0, s1, s2, s3, s4, s5, s6, s7] a, lb]), .b true] ∧ h' = [rowS s0 s1 s2 s3 s4 s5 s6 s7, langB h rd pw]) := by
  refine Ctr.enterG tabOkF (fn := Tryz.f130) rfl rfl rfl rfl rfl rfl bndLang ?_
  refine OpC.callG rfl rfl rfl rfl rfl rfl (fun _ => Ctr.spread (end_ok sz [66] [87] [76] [81]) (fun ρ => rfl) _ [3] rfl rfl ⟨rfl, trivial⟩ rfl) ?_
  refine ⟨fun h => no_ft h, fun _ => ?_⟩
  refine ⟨fun h => no_ft h, fun _ => ?_⟩
  refine ⟨fun h => no_ft h, fun _ => ?_⟩
  refine ⟨fun h => no_ft h, fun _ => ?_⟩
  refine ⟨fun h => no_ft h, fun _ => ?_⟩
  refine ⟨fun h => no_ft h, fun _ => ?_⟩
  refine ⟨fun h => no_ft h, fun _ => ?_⟩
  refine ⟨fun h => no_ft h, fun _ => ?_⟩
  refine ⟨fun _ => ?_, fun h => no_tf h⟩
  refine OpC.callG rfl rfl rfl rfl rfl rfl (fun _ => Ctr.spread (lnm_ok s0 s1 s2 s3 s4 s5 s6 s7 h rd pw a) (fun ρ => rfl) _ [0, 1] rfl rfl ⟨rfl, rfl, trivial⟩ rfl) ?_
  refine OpC.callG rfl rfl rfl rfl rfl rfl (fun _ => Ctr.spread (line_ok [74, 90] [nmF [s0, s1, s2, s3, s4, s5, s6, s7] a, lb] 2 rfl (by decide) (by decide) (by rw [join2_len]; have := hs a; omega) (by decide)) (fun ρ => rfl) _ [4] rfl rfl ⟨rfl, trivial⟩ rfl) ?_
  exact ⟨rfl, _, rfl⟩
set_option maxHeartbeats 1600000 in
theorem xp_9n (s0 s1 s2 s3 s4 s5 s6 s7 h : List UInt8) (rd pw : Nat) (hs : ∀ n, (nmF [s0, s1, s2, s3, s4, s5, s6, s7] n).length ≤ 3) (hh : h.length ≤ 10) (dst a b imm loc off ix sz fn pr su to : Int) (acq wk rel : Bool) (lb : List UInt8) (hl : lb.length ≤ 90000) : Ctr Tryz.prog 130 [.ptr 1 1 0 [], .agg (ienc ⟨9, dst, a, b, imm, loc, off, ix, sz, fn, acq, wk, rel, pr, su, to, false⟩), .s lb] [rowS s0 s1 s2 s3 s4 s5 s6 s7, langB h rd pw]
    (fun r h' => r = .tup [.s (lineF [74, 78, 90] [nmF [s0, s1, s2, s3, s4, s5, s6, s7] a, lb]), .b true] ∧ h' = [rowS s0 s1 s2 s3 s4 s5 s6 s7, langB h rd pw]) := by
  refine Ctr.enterG tabOkF (fn := Tryz.f130) rfl rfl rfl rfl rfl rfl bndLang ?_
  refine OpC.callG rfl rfl rfl rfl rfl rfl (fun _ => Ctr.spread (end_ok sz [66] [87] [76] [81]) (fun ρ => rfl) _ [3] rfl rfl ⟨rfl, trivial⟩ rfl) ?_
  refine ⟨fun h => no_ft h, fun _ => ?_⟩
  refine ⟨fun h => no_ft h, fun _ => ?_⟩
  refine ⟨fun h => no_ft h, fun _ => ?_⟩
  refine ⟨fun h => no_ft h, fun _ => ?_⟩
  refine ⟨fun h => no_ft h, fun _ => ?_⟩
  refine ⟨fun h => no_ft h, fun _ => ?_⟩
  refine ⟨fun h => no_ft h, fun _ => ?_⟩
  refine ⟨fun h => no_ft h, fun _ => ?_⟩
  refine ⟨fun h => no_ft h, fun _ => ?_⟩
  refine ⟨fun _ => ?_, fun h => no_tf h⟩
  refine OpC.callG rfl rfl rfl rfl rfl rfl (fun _ => Ctr.spread (lnm_ok s0 s1 s2 s3 s4 s5 s6 s7 h rd pw a) (fun ρ => rfl) _ [0, 1] rfl rfl ⟨rfl, rfl, trivial⟩ rfl) ?_
  refine OpC.callG rfl rfl rfl rfl rfl rfl (fun _ => Ctr.spread (line_ok [74, 78, 90] [nmF [s0, s1, s2, s3, s4, s5, s6, s7] a, lb] 2 rfl (by decide) (by decide) (by rw [join2_len]; have := hs a; omega) (by decide)) (fun ρ => rfl) _ [4] rfl rfl ⟨rfl, trivial⟩ rfl) ?_
  exact ⟨rfl, _, rfl⟩
end SX
end Go.Proofs.YtlgjjklikbpcoaaGreatDoor

/- The reference's texts of instructions: pieces. Printed by rfa.py. -/
set_option linter.unusedVariables false
set_option maxRecDepth 100000
namespace Go.Proofs.YtlgjjklikbpcoaaGreatDoor
namespace SX
open Go Go.Proofs
theorem call_fin {f : Nat} {args : List SV} {r : SV} (h : (match runM treeF ftree [] 40 f args [] with | some (r1, H1) => sveq (fin true [] r1 H1).1 r && sbL (fin true [] r1 H1).2 [] | none => false) = true) : CtrV Tryz.prog f args r := by
  cases hq : runM treeF ftree [] 40 f args [] with
  | none => rw [hq] at h; cases h
  | some q =>
    obtain ⟨r1, H1⟩ := q
    rw [hq] at h
    simp only [Bool.and_eq_true] at h
    have := fin_ok callX_m true (runM_ok (tr := treeF) (ft := ftree) (ms := []) tabOkF ftOk mixed (by intro m hm; cases hm) 40 _ _ _ _ _ hq)
    rw [sveq_ok _ _ h.1, sbL_ok _ _ h.2] at this
    exact this
def numT (a n : Int) : List UInt8 := if a = 1 then [36] ++ Lib.itoa n else if a = 3 then [35] ++ Lib.itoa n else Lib.itoa n
theorem number5_ok (a n : Int) (hn : in64 n) : CtrV Tryz.prog 148 [.i .i64 a, .i .i64 n] (.s (numT a n)) := by
  have hl := itoa_len hn
  refine Ctr.enterV tabOkF (fn := Tryz.f148) rfl rfl rfl rfl rfl rfl ?_
  unfold numT
  refine ⟨fun h1 => ?_, fun h1 => ⟨fun h3 => ?_, fun h3 => ?_⟩⟩
  · rw [if_pos (of_decide_eq_true h1)]
    refine OpC.callV rfl rfl rfl rfl rfl rfl rfl (fun _ => digits_ok n hn.1 hn.2) ?_
    refine ⟨fun _ => ?_, rfl⟩
    show 1 + (Lib.itoa n).length ≤ 9223372036854775807
    omega
  · rw [if_neg (of_decide_eq_false h1), if_pos (of_decide_eq_true h3)]
    refine OpC.callV rfl rfl rfl rfl rfl rfl rfl (fun _ => digits_ok n hn.1 hn.2) ?_
    refine ⟨fun _ => ?_, rfl⟩
    show 1 + (Lib.itoa n).length ≤ 9223372036854775807
    omega
  · rw [if_neg (of_decide_eq_false h1), if_neg (of_decide_eq_false h3)]
    refine OpC.callV rfl rfl rfl rfl rfl rfl rfl (fun _ => digits_ok n hn.1 hn.2) ?_
    exact rfl
def regT (a r n : Int) : List UInt8 := if r < 0 then numT a n else nameF a r
theorem regOr5_ok (a r n : Int) (hn : in64 n) : CtrV Tryz.prog 150 [.i .i64 a, .i .i64 r, .i .i64 n] (.s (regT a r n)) := by
  refine Ctr.enterV tabOkF (fn := Tryz.f150) rfl rfl rfl rfl rfl rfl ?_
  unfold regT
  refine ⟨fun h1 => ?_, fun h1 => ?_⟩
  · rw [if_pos (of_decide_eq_true h1)]
    refine OpC.callV rfl rfl rfl rfl rfl rfl rfl (fun _ => number5_ok a n hn) ?_
    exact rfl
  · rw [if_neg (of_decide_eq_false h1)]
    refine OpC.callV rfl rfl rfl rfl rfl rfl rfl (fun _ => rname_ok a r) ?_
    exact rfl
theorem numT_len {a n : Int} (hn : in64 n) : (numT a n).length ≤ 40 := by
  have := itoa_len hn
  unfold numT
  split
  · simp; omega
  · split
    · simp; omega
    · omega
theorem regT_len {a r n : Int} (hn : in64 n) : (regT a r n).length ≤ 40 := by
  have := numT_len (a := a) hn
  have := nameF_len a r
  unfold regT
  split <;> omega
theorem nm_name (a n : Int) : nmF (regsL a) n = nameF a n := rfl
theorem name_len (a n : Int) : (nmF (regsL a) n).length ≤ 3 := nameF_len a n
theorem mem5_ok (ar : Int) (i : In) (ha : accB i = true) : CtrV Tryz.prog 224 [.i .i64 ar, .agg (ienc i)] (.s (atF (regsL ar) i)) := by
  obtain ⟨h1, h2, h3, h4⟩ := accB_ok ha
  have hi := itoa_small h2.1 h2.2
  have hn := nameF_len ar i.ix
  have hl : (locF i.loc).length = 1 := rfl
  have hat : ∀ p q : List UInt8, offF i.off = p → ixF (regsL ar) i.ix = q → atF (regsL ar) i = (((([91] ++ locF i.loc) ++ p) ++ q) ++ [93]) := fun p q hp hq => by subst hp; subst hq; rfl
  refine Ctr.enterV tabOkF (fn := Tryz.f224) rfl rfl rfl rfl rfl rfl ?_
  refine OpC.callV rfl rfl rfl rfl rfl rfl rfl (fun _ => rloc_ok i.loc (by omega) (by omega)) ?_
  refine ⟨fun _ => by show 1 + (locF i.loc).length ≤ 9223372036854775807; omega, ?_⟩
  refine ⟨fun h5 => ?_, fun h5 => ?_⟩
  · have h5 : (!decide (i.off = 0)) = true := h5
    have h5 : ¬ i.off = 0 := by simpa using h5
    refine ⟨fun _ => by show ([91] ++ locF i.loc).length + 1 ≤ 9223372036854775807; simp; omega, ?_⟩
    refine OpC.callV rfl rfl rfl rfl rfl rfl rfl (fun _ => digits_ok i.off (by omega) (by omega)) ?_
    refine ⟨fun _ => by show (([91] ++ locF i.loc) ++ [43]).length + (Lib.itoa i.off).length ≤ 9223372036854775807; simp; omega, ?_⟩
    refine ⟨fun h6 => ?_, fun h6 => ?_⟩
    · have h6 : (0 : Int) ≤ i.ix := of_decide_eq_true h6
      refine ⟨fun _ => by show ((([91] ++ locF i.loc) ++ [43]) ++ Lib.itoa i.off).length + 1 ≤ 9223372036854775807; simp; omega, ?_⟩
      refine OpC.callV rfl rfl rfl rfl rfl rfl rfl (fun _ => rname_ok ar i.ix) ?_
      refine ⟨fun _ => by show (((([91] ++ locF i.loc) ++ [43]) ++ Lib.itoa i.off) ++ [43]).length + (nameF ar i.ix).length ≤ 9223372036854775807; simp; omega, ⟨fun _ => by show ((((([91] ++ locF i.loc) ++ [43]) ++ Lib.itoa i.off) ++ [43]) ++ nameF ar i.ix).length + 1 ≤ 9223372036854775807; simp; omega, s_cg ?_⟩⟩
      show (((((([91] ++ locF i.loc) ++ [43]) ++ Lib.itoa i.off) ++ [43]) ++ nameF ar i.ix) ++ [93]) = _
      rw [hat _ _ (if_neg h5) (if_pos h6), nm_name]
      simp only [List.append_assoc]
    · have h6 : ¬ (0 : Int) ≤ i.ix := of_decide_eq_false h6
      refine ⟨fun _ => by show ((([91] ++ locF i.loc) ++ [43]) ++ Lib.itoa i.off).length + 1 ≤ 9223372036854775807; simp; omega, s_cg ?_⟩
      show (((([91] ++ locF i.loc) ++ [43]) ++ Lib.itoa i.off) ++ [93]) = _
      rw [hat _ _ (if_neg h5) (if_neg h6)]
      simp only [List.append_assoc, List.append_nil, List.nil_append]
  · have h5 : (!decide (i.off = 0)) = false := h5
    have h5 : i.off = 0 := by simpa using h5
    refine ⟨fun h6 => ?_, fun h6 => ?_⟩
    · have h6 : (0 : Int) ≤ i.ix := of_decide_eq_true h6
      refine ⟨fun _ => by show ([91] ++ locF i.loc).length + 1 ≤ 9223372036854775807; simp; omega, ?_⟩
      refine OpC.callV rfl rfl rfl rfl rfl rfl rfl (fun _ => rname_ok ar i.ix) ?_
      refine ⟨fun _ => by show (([91] ++ locF i.loc) ++ [43]).length + (nameF ar i.ix).length ≤ 9223372036854775807; simp; omega, ⟨fun _ => by show ((([91] ++ locF i.loc) ++ [43]) ++ nameF ar i.ix).length + 1 ≤ 9223372036854775807; simp; omega, s_cg ?_⟩⟩
      show (((([91] ++ locF i.loc) ++ [43]) ++ nameF ar i.ix) ++ [93]) = _
      rw [hat _ _ (if_pos h5) (if_pos h6), nm_name]
      simp only [List.append_assoc, List.nil_append]
    · have h6 : ¬ (0 : Int) ≤ i.ix := of_decide_eq_false h6
      refine ⟨fun _ => by show ([91] ++ locF i.loc).length + 1 ≤ 9223372036854775807; simp; omega, s_cg ?_⟩
      show (([91] ++ locF i.loc) ++ [93]) = _
      rw [hat _ _ (if_pos h5) (if_neg h6)]
      simp only [List.append_assoc, List.append_nil, List.nil_append]
def szT (a z : Int) : List UInt8 := if a = 1 then endF z [66] [87] [76] [81] else if a = 2 then endF z [98] [104] [119] [100] else endF z [66] [72] [87] []
theorem tail5_ok (a z : Int) (ha : a = 1 ∨ a = 2 ∨ a = 3) (hz : z = 1 ∨ z = 2 ∨ z = 4 ∨ z = 8) : CtrV Tryz.prog 221 [.i .i64 a, .i .i64 z] (.s (szT a z)) := by
  rcases ha with rfl | rfl | rfl <;> rcases hz with rfl | rfl | rfl | rfl
  all_goals exact call_fin (by decide +kernel)
def fnT (a n : Int) : List UInt8 := if a = 2 then [[], [97, 100, 100], [115, 117, 98], [120, 111, 114], [97, 110, 100], [111, 114]].getD n.toNat [] else if a = 3 then [[], [65, 68, 68], [83, 85, 66], [69, 79, 82], [65, 78, 68], [79, 82, 82]].getD n.toNat [] else [[], [65, 68, 68], [83, 85, 66], [88, 79, 82], [65, 78, 68], [79, 82]].getD n.toNat []
theorem fn5_ok (a n : Int) (ha : a = 1 ∨ a = 2 ∨ a = 3) (hz : n = 1 ∨ n = 2 ∨ n = 3 ∨ n = 4 ∨ n = 5) : CtrV Tryz.prog 149 [.i .i64 a, .i .i64 n] (.s (fnT a n)) := by
  rcases ha with rfl | rfl | rfl <;> rcases hz with rfl | rfl | rfl | rfl | rfl
  all_goals exact call_fin (by decide +kernel)
def brT (a : Int) (z : Bool) : List UInt8 := if a = 2 then (bif z then [98, 101, 113, 122] else [98, 110, 101, 122]) else if a = 3 then (bif z then [67, 66, 90] else [67, 66, 78, 90]) else (bif z then [74, 90] else [74, 78, 90])
theorem br5_ok (a : Int) (z : Bool) (ha : a = 1 ∨ a = 2 ∨ a = 3) : CtrV Tryz.prog 151 [.i .i64 a, .b z] (.s (brT a z)) := by
  rcases ha with rfl | rfl | rfl <;> cases z
  all_goals exact call_fin (by decide +kernel)
end SX
end Go.Proofs.YtlgjjklikbpcoaaGreatDoor

/- The reference's texts of instructions, x86: accesses. Printed by rfb.py. -/
set_option linter.unusedVariables false
set_option maxRecDepth 100000
namespace Go.Proofs.YtlgjjklikbpcoaaGreatDoor
namespace SX
open Go Go.Proofs
theorem join2 {x y : List UInt8} : Lib.join [x, y] [44] = x ++ ([44] ++ y) := by simp [Lib.join, List.intercalate]
def hL (a : Int) : List UInt8 := if a = 1 then [36] else if a = 3 then [35] else []
theorem regT_eq (a r n : Int) : regT a r n = orF (regsL a) (hL a) r n := by
  unfold regT orF numT hL
  by_cases h : r < 0
  · have h' : ¬ (0 : Int) ≤ r := by omega
    rw [if_pos h, if_neg h']
    by_cases h1 : a = 1
    · simp [h1]
    · by_cases h3 : a = 3
      · simp [h3]
      · simp [h1, h3]
  · have h' : (0 : Int) ≤ r := by omega
    rw [if_neg h, if_pos h']; rfl
theorem atR_len {a : Int} {i : In} (ha : accB i = true) : (atF (regsL a) i).length ≤ 40 := by
  obtain ⟨h1, h2, h3, h4⟩ := accB_ok ha
  have hi := itoa_small h2.1 h2.2
  have hn := name_len a i.ix
  unfold atF offF ixF locF
  simp only [List.length_append, List.length_cons, List.length_nil]
  split <;> split <;> simp <;> omega
theorem szT_len (a z : Int) : (szT a z).length ≤ 1 := by
  have he : ∀ (z : Int) (e0 e1 e2 e3 : List UInt8), e0.length ≤ 1 → e1.length ≤ 1 → e2.length ≤ 1 → e3.length ≤ 1 → (endF z e0 e1 e2 e3).length ≤ 1 := by
    intro z e0 e1 e2 e3 h0 h1 h2 h3
    unfold endF
    split
    · exact h0
    · split
      · exact h1
      · split
        · exact h2
        · split
          · exact h3
          · simp
  unfold szT
  split
  · exact he _ _ _ _ _ (by decide) (by decide) (by decide) (by decide)
  · split
    · exact he _ _ _ _ _ (by decide) (by decide) (by decide) (by decide)
    · exact he _ _ _ _ _ (by decide) (by decide) (by decide) (by decide)
set_option maxHeartbeats 800000 in
theorem acc_4a (dst a b imm loc off ix sz fn pr su to : Int) (wk rel ze : Bool) (d e : List UInt8) (hd : d.length ≤ 3) (he : e.length ≤ 3) (ha : accB ⟨4, dst, a, b, imm, loc, off, ix, sz, fn, true, wk, rel, pr, su, to, ze⟩ = true)  : CtrV Tryz.prog 153 [.i .i64 1, .agg (ienc ⟨4, dst, a, b, imm, loc, off, ix, sz, fn, true, wk, rel, pr, su, to, ze⟩), .s d, .s e] (.s ([])) := by
  obtain ⟨_, _, _, hz⟩ := accB_ok ha
  have hsl := szT_len 1 sz
  have hml := atR_len (a := 1) ha
  refine Ctr.enterV tabOkF (fn := Tryz.f153) rfl rfl rfl rfl rfl rfl ?_
  refine OpC.callV rfl rfl rfl rfl rfl rfl rfl (fun _ => tail5_ok 1 sz (by decide) hz) ?_
  refine OpC.callV rfl rfl rfl rfl rfl rfl rfl (fun _ => mem5_ok 1 ⟨4, dst, a, b, imm, loc, off, ix, sz, fn, true, wk, rel, pr, su, to, ze⟩ ha) ?_
  refine ⟨fun h => no_ft h, fun _ => ?_⟩
  refine ⟨fun _ => ?_, fun h => no_tf h⟩
  exact rfl
set_option maxHeartbeats 800000 in
theorem acc_4w (dst a b imm loc off ix sz fn pr su to : Int) (rel ze : Bool) (d e : List UInt8) (hd : d.length ≤ 3) (he : e.length ≤ 3) (ha : accB ⟨4, dst, a, b, imm, loc, off, ix, sz, fn, false, true, rel, pr, su, to, ze⟩ = true)  : CtrV Tryz.prog 153 [.i .i64 1, .agg (ienc ⟨4, dst, a, b, imm, loc, off, ix, sz, fn, false, true, rel, pr, su, to, ze⟩), .s d, .s e] (.s ([])) := by
  obtain ⟨_, _, _, hz⟩ := accB_ok ha
  have hsl := szT_len 1 sz
  have hml := atR_len (a := 1) ha
  refine Ctr.enterV tabOkF (fn := Tryz.f153) rfl rfl rfl rfl rfl rfl ?_
  refine OpC.callV rfl rfl rfl rfl rfl rfl rfl (fun _ => tail5_ok 1 sz (by decide) hz) ?_
  refine OpC.callV rfl rfl rfl rfl rfl rfl rfl (fun _ => mem5_ok 1 ⟨4, dst, a, b, imm, loc, off, ix, sz, fn, false, true, rel, pr, su, to, ze⟩ ha) ?_
  refine ⟨fun h => no_ft h, fun _ => ?_⟩
  refine ⟨fun _ => ?_, fun h => no_tf h⟩
  exact rfl
set_option maxHeartbeats 800000 in
theorem acc_4 (dst a b imm loc off ix sz fn pr su to : Int) (rel ze : Bool) (d e : List UInt8) (hd : d.length ≤ 3) (he : e.length ≤ 3) (ha : accB ⟨4, dst, a, b, imm, loc, off, ix, sz, fn, false, false, rel, pr, su, to, ze⟩ = true)  : CtrV Tryz.prog 153 [.i .i64 1, .agg (ienc ⟨4, dst, a, b, imm, loc, off, ix, sz, fn, false, false, rel, pr, su, to, ze⟩), .s d, .s e] (.s (lineF (([77, 79, 86] : List UInt8) ++ szT 1 sz) [d, atF (regsL 1) ⟨4, dst, a, b, imm, loc, off, ix, sz, fn, false, false, rel, pr, su, to, ze⟩])) := by
  obtain ⟨_, _, _, hz⟩ := accB_ok ha
  have hsl := szT_len 1 sz
  have hml := atR_len (a := 1) ha
  refine Ctr.enterV tabOkF (fn := Tryz.f153) rfl rfl rfl rfl rfl rfl ?_
  refine OpC.callV rfl rfl rfl rfl rfl rfl rfl (fun _ => tail5_ok 1 sz (by decide) hz) ?_
  refine OpC.callV rfl rfl rfl rfl rfl rfl rfl (fun _ => mem5_ok 1 ⟨4, dst, a, b, imm, loc, off, ix, sz, fn, false, false, rel, pr, su, to, ze⟩ ha) ?_
  refine ⟨fun h => no_ft h, fun _ => ?_⟩
  refine ⟨fun h => no_ft h, fun _ => ?_⟩
  refine ⟨fun h => no_ft h, fun _ => ?_⟩
  refine ⟨fun _ => ?_, fun h => no_tf h⟩
  refine ⟨fun _ => by show (([77, 79, 86] : List UInt8)).length + (szT 1 sz).length ≤ 9223372036854775807; simp; omega, ?_⟩
  refine ⟨fun _ => by show ((([77, 79, 86] : List UInt8) ++ szT 1 sz)).length + (([32] : List UInt8)).length ≤ 9223372036854775807; simp; omega, ?_⟩
  refine ⟨fun _ => by show (((([77, 79, 86] : List UInt8) ++ szT 1 sz) ++ ([32] : List UInt8))).length + (d).length ≤ 9223372036854775807; simp; omega, ?_⟩
  refine ⟨fun _ => by show ((((([77, 79, 86] : List UInt8) ++ szT 1 sz) ++ ([32] : List UInt8)) ++ d)).length + (([44] : List UInt8)).length ≤ 9223372036854775807; simp; omega, ?_⟩
  refine ⟨fun _ => by show (((((([77, 79, 86] : List UInt8) ++ szT 1 sz) ++ ([32] : List UInt8)) ++ d) ++ ([44] : List UInt8))).length + (atF (regsL 1) ⟨4, dst, a, b, imm, loc, off, ix, sz, fn, false, false, rel, pr, su, to, ze⟩).length ≤ 9223372036854775807; simp; omega, ?_⟩
  refine s_cg ?_
  show (((((([77, 79, 86] : List UInt8) ++ szT 1 sz) ++ ([32] : List UInt8)) ++ d) ++ ([44] : List UInt8)) ++ atF (regsL 1) ⟨4, dst, a, b, imm, loc, off, ix, sz, fn, false, false, rel, pr, su, to, ze⟩) = _
  simp [lineF, join2, regT_eq, hL, nm_name]
set_option maxHeartbeats 800000 in
theorem acc_5r (dst a b imm loc off ix sz fn pr su to : Int) (acq wk ze : Bool) (d e : List UInt8) (hd : d.length ≤ 3) (he : e.length ≤ 3) (ha : accB ⟨5, dst, a, b, imm, loc, off, ix, sz, fn, acq, wk, true, pr, su, to, ze⟩ = true)  : CtrV Tryz.prog 153 [.i .i64 1, .agg (ienc ⟨5, dst, a, b, imm, loc, off, ix, sz, fn, acq, wk, true, pr, su, to, ze⟩), .s d, .s e] (.s ([])) := by
  obtain ⟨_, _, _, hz⟩ := accB_ok ha
  have hsl := szT_len 1 sz
  have hml := atR_len (a := 1) ha
  refine Ctr.enterV tabOkF (fn := Tryz.f153) rfl rfl rfl rfl rfl rfl ?_
  refine OpC.callV rfl rfl rfl rfl rfl rfl rfl (fun _ => tail5_ok 1 sz (by decide) hz) ?_
  refine OpC.callV rfl rfl rfl rfl rfl rfl rfl (fun _ => mem5_ok 1 ⟨5, dst, a, b, imm, loc, off, ix, sz, fn, acq, wk, true, pr, su, to, ze⟩ ha) ?_
  refine ⟨fun h => no_ft h, fun _ => ?_⟩
  refine ⟨fun h => no_ft h, fun _ => ?_⟩
  refine ⟨fun h => no_ft h, fun _ => ?_⟩
  refine ⟨fun h => no_ft h, fun _ => ?_⟩
  refine ⟨fun _ => ?_, fun h => no_tf h⟩
  refine ⟨fun _ => ?_, fun h => no_tf h⟩
  exact rfl
set_option maxHeartbeats 800000 in
theorem acc_5 (dst a b imm loc off ix sz fn pr su to : Int) (acq wk ze : Bool) (d e : List UInt8) (hd : d.length ≤ 3) (he : e.length ≤ 3) (ha : accB ⟨5, dst, a, b, imm, loc, off, ix, sz, fn, acq, wk, false, pr, su, to, ze⟩ = true) (hi : in64 imm) : CtrV Tryz.prog 153 [.i .i64 1, .agg (ienc ⟨5, dst, a, b, imm, loc, off, ix, sz, fn, acq, wk, false, pr, su, to, ze⟩), .s d, .s e] (.s (lineF (([77, 79, 86] : List UInt8) ++ szT 1 sz) [atF (regsL 1) ⟨5, dst, a, b, imm, loc, off, ix, sz, fn, acq, wk, false, pr, su, to, ze⟩, orF (regsL 1) (hL 1) a imm])) := by
  obtain ⟨_, _, _, hz⟩ := accB_ok ha
  have hsl := szT_len 1 sz
  have hml := atR_len (a := 1) ha
  refine Ctr.enterV tabOkF (fn := Tryz.f153) rfl rfl rfl rfl rfl rfl ?_
  refine OpC.callV rfl rfl rfl rfl rfl rfl rfl (fun _ => tail5_ok 1 sz (by decide) hz) ?_
  refine OpC.callV rfl rfl rfl rfl rfl rfl rfl (fun _ => mem5_ok 1 ⟨5, dst, a, b, imm, loc, off, ix, sz, fn, acq, wk, false, pr, su, to, ze⟩ ha) ?_
  have hrl := regT_len (a := 1) (r := a) hi
  refine ⟨fun h => no_ft h, fun _ => ?_⟩
  refine ⟨fun h => no_ft h, fun _ => ?_⟩
  refine ⟨fun h => no_ft h, fun _ => ?_⟩
  refine ⟨fun h => no_ft h, fun _ => ?_⟩
  refine ⟨fun _ => ?_, fun h => no_tf h⟩
  refine ⟨fun h => no_ft h, fun _ => ?_⟩
  refine ⟨fun _ => by show (([77, 79, 86] : List UInt8)).length + (szT 1 sz).length ≤ 9223372036854775807; simp; omega, ?_⟩
  refine ⟨fun _ => by show ((([77, 79, 86] : List UInt8) ++ szT 1 sz)).length + (([32] : List UInt8)).length ≤ 9223372036854775807; simp; omega, ?_⟩
  refine ⟨fun _ => by show (((([77, 79, 86] : List UInt8) ++ szT 1 sz) ++ ([32] : List UInt8))).length + (atF (regsL 1) ⟨5, dst, a, b, imm, loc, off, ix, sz, fn, acq, wk, false, pr, su, to, ze⟩).length ≤ 9223372036854775807; simp; omega, ?_⟩
  refine ⟨fun _ => by show ((((([77, 79, 86] : List UInt8) ++ szT 1 sz) ++ ([32] : List UInt8)) ++ atF (regsL 1) ⟨5, dst, a, b, imm, loc, off, ix, sz, fn, acq, wk, false, pr, su, to, ze⟩)).length + (([44] : List UInt8)).length ≤ 9223372036854775807; simp; omega, ?_⟩
  refine OpC.callV rfl rfl rfl rfl rfl rfl rfl (fun _ => regOr5_ok 1 a imm hi) ?_
  refine ⟨fun _ => by show (((((([77, 79, 86] : List UInt8) ++ szT 1 sz) ++ ([32] : List UInt8)) ++ atF (regsL 1) ⟨5, dst, a, b, imm, loc, off, ix, sz, fn, acq, wk, false, pr, su, to, ze⟩) ++ ([44] : List UInt8))).length + (regT 1 a imm).length ≤ 9223372036854775807; simp; omega, ?_⟩
  refine s_cg ?_
  show (((((([77, 79, 86] : List UInt8) ++ szT 1 sz) ++ ([32] : List UInt8)) ++ atF (regsL 1) ⟨5, dst, a, b, imm, loc, off, ix, sz, fn, acq, wk, false, pr, su, to, ze⟩) ++ ([44] : List UInt8)) ++ regT 1 a imm) = _
  simp [lineF, join2, regT_eq, hL, nm_name]
set_option maxHeartbeats 800000 in
theorem rmw_d (dst a b imm loc off ix sz fn pr su to : Int) (acq wk rel ze : Bool) (d e t m : List UInt8) (hdl : d.length ≤ 3) (hel : e.length ≤ 3) (htl : t.length ≤ 1) (hml : m.length ≤ 40) (hd : ¬ dst = a) : CtrV Tryz.prog 225 [.i .i64 1, .agg (ienc ⟨6, dst, a, b, imm, loc, off, ix, sz, fn, acq, wk, rel, pr, su, to, ze⟩), .s d, .s e, .s t, .s m] (.s ([])) := by
  refine Ctr.enterV tabOkF (fn := Tryz.f225) rfl rfl rfl rfl rfl rfl ?_
  refine ⟨fun _ => ?_, fun h => no_tf h⟩
  refine ⟨fun _ => ?_, fun h => ?_⟩
  rotate_left
  · have h : (((!decide (dst = a)) || !acq) || !rel) = false := h
    exact no_tf (by rw [← h]; simp [hd])
  exact rfl
set_option maxHeartbeats 800000 in
theorem rmw_a (dst a b imm loc off ix sz fn pr su to : Int) (wk rel ze : Bool) (d e t m : List UInt8) (hdl : d.length ≤ 3) (hel : e.length ≤ 3) (htl : t.length ≤ 1) (hml : m.length ≤ 40)  : CtrV Tryz.prog 225 [.i .i64 1, .agg (ienc ⟨6, dst, a, b, imm, loc, off, ix, sz, fn, false, wk, rel, pr, su, to, ze⟩), .s d, .s e, .s t, .s m] (.s ([])) := by
  refine Ctr.enterV tabOkF (fn := Tryz.f225) rfl rfl rfl rfl rfl rfl ?_
  refine ⟨fun _ => ?_, fun h => no_tf h⟩
  have hd := True.intro
  refine ⟨fun _ => ?_, fun h => ?_⟩
  rotate_left
  · have h : (((!decide (dst = a)) || !false) || !rel) = false := h
    exact no_tf (by rw [← h]; simp [hd])
  exact rfl
set_option maxHeartbeats 800000 in
theorem rmw_r (dst a b imm loc off ix sz fn pr su to : Int) (wk ze : Bool) (d e t m : List UInt8) (hdl : d.length ≤ 3) (hel : e.length ≤ 3) (htl : t.length ≤ 1) (hml : m.length ≤ 40)  : CtrV Tryz.prog 225 [.i .i64 1, .agg (ienc ⟨6, dst, a, b, imm, loc, off, ix, sz, fn, true, wk, false, pr, su, to, ze⟩), .s d, .s e, .s t, .s m] (.s ([])) := by
  refine Ctr.enterV tabOkF (fn := Tryz.f225) rfl rfl rfl rfl rfl rfl ?_
  refine ⟨fun _ => ?_, fun h => no_tf h⟩
  have hd := True.intro
  refine ⟨fun _ => ?_, fun h => ?_⟩
  rotate_left
  · have h : (((!decide (dst = a)) || !true) || !false) = false := h
    exact no_tf (by rw [← h]; simp [hd])
  exact rfl
set_option maxHeartbeats 800000 in
theorem rmw_1 (dst a b imm loc off ix sz pr su to : Int) (wk ze : Bool) (d e t m : List UInt8) (hdl : d.length ≤ 3) (hel : e.length ≤ 3) (htl : t.length ≤ 1) (hml : m.length ≤ 40) (hd : dst = a) : CtrV Tryz.prog 225 [.i .i64 1, .agg (ienc ⟨6, dst, a, b, imm, loc, off, ix, sz, 1, true, wk, true, pr, su, to, ze⟩), .s d, .s e, .s t, .s m] (.s (lineF (([88, 65, 68, 68] : List UInt8) ++ t) [m, d])) := by
  refine Ctr.enterV tabOkF (fn := Tryz.f225) rfl rfl rfl rfl rfl rfl ?_
  refine ⟨fun _ => ?_, fun h => no_tf h⟩
  refine ⟨fun h => ?_, fun _ => ?_⟩
  · have h : (((!decide (dst = a)) || !true) || !true) = true := h
    exact no_ft (by rw [← h]; simp [hd])
  refine ⟨fun _ => ?_, fun h => no_tf h⟩
  refine ⟨fun _ => by show (([88, 65, 68, 68] : List UInt8)).length + (t).length ≤ 9223372036854775807; simp; omega, ?_⟩
  refine ⟨fun _ => by show ((([88, 65, 68, 68] : List UInt8) ++ t)).length + (([32] : List UInt8)).length ≤ 9223372036854775807; simp; omega, ?_⟩
  refine ⟨fun _ => by show (((([88, 65, 68, 68] : List UInt8) ++ t) ++ ([32] : List UInt8))).length + (m).length ≤ 9223372036854775807; simp; omega, ?_⟩
  refine ⟨fun _ => by show ((((([88, 65, 68, 68] : List UInt8) ++ t) ++ ([32] : List UInt8)) ++ m)).length + (([44] : List UInt8)).length ≤ 9223372036854775807; simp; omega, ?_⟩
  refine ⟨fun _ => by show (((((([88, 65, 68, 68] : List UInt8) ++ t) ++ ([32] : List UInt8)) ++ m) ++ ([44] : List UInt8))).length + (d).length ≤ 9223372036854775807; simp; omega, ?_⟩
  refine s_cg ?_
  show (((((([88, 65, 68, 68] : List UInt8) ++ t) ++ ([32] : List UInt8)) ++ m) ++ ([44] : List UInt8)) ++ d) = _
  simp [lineF, join2, regT_eq, hL, nm_name]
set_option maxHeartbeats 800000 in
theorem rmw_6 (dst a b imm loc off ix sz pr su to : Int) (wk ze : Bool) (d e t m : List UInt8) (hdl : d.length ≤ 3) (hel : e.length ≤ 3) (htl : t.length ≤ 1) (hml : m.length ≤ 40) (hd : dst = a) : CtrV Tryz.prog 225 [.i .i64 1, .agg (ienc ⟨6, dst, a, b, imm, loc, off, ix, sz, 6, true, wk, true, pr, su, to, ze⟩), .s d, .s e, .s t, .s m] (.s (lineF (([88, 67, 72, 71] : List UInt8) ++ t) [d, m])) := by
  refine Ctr.enterV tabOkF (fn := Tryz.f225) rfl rfl rfl rfl rfl rfl ?_
  refine ⟨fun _ => ?_, fun h => no_tf h⟩
  refine ⟨fun h => ?_, fun _ => ?_⟩
  · have h : (((!decide (dst = a)) || !true) || !true) = true := h
    exact no_ft (by rw [← h]; simp [hd])
  refine ⟨fun h => no_ft h, fun _ => ?_⟩
  refine ⟨fun _ => by show (([88, 67, 72, 71] : List UInt8)).length + (t).length ≤ 9223372036854775807; simp; omega, ?_⟩
  refine ⟨fun _ => by show ((([88, 67, 72, 71] : List UInt8) ++ t)).length + (([32] : List UInt8)).length ≤ 9223372036854775807; simp; omega, ?_⟩
  refine ⟨fun _ => by show (((([88, 67, 72, 71] : List UInt8) ++ t) ++ ([32] : List UInt8))).length + (d).length ≤ 9223372036854775807; simp; omega, ?_⟩
  refine ⟨fun _ => by show ((((([88, 67, 72, 71] : List UInt8) ++ t) ++ ([32] : List UInt8)) ++ d)).length + (([44] : List UInt8)).length ≤ 9223372036854775807; simp; omega, ?_⟩
  refine ⟨fun _ => by show (((((([88, 67, 72, 71] : List UInt8) ++ t) ++ ([32] : List UInt8)) ++ d) ++ ([44] : List UInt8))).length + (m).length ≤ 9223372036854775807; simp; omega, ?_⟩
  refine s_cg ?_
  show (((((([88, 67, 72, 71] : List UInt8) ++ t) ++ ([32] : List UInt8)) ++ d) ++ ([44] : List UInt8)) ++ m) = _
  simp [lineF, join2, regT_eq, hL, nm_name]
set_option maxHeartbeats 800000 in
theorem acc_6d (dst a b imm loc off ix sz fn pr su to : Int) (acq wk rel ze : Bool) (d e : List UInt8) (hd : d.length ≤ 3) (he : e.length ≤ 3) (ha : accB ⟨6, dst, a, b, imm, loc, off, ix, sz, fn, acq, wk, rel, pr, su, to, ze⟩ = true) (hq : ¬ dst = a) : CtrV Tryz.prog 153 [.i .i64 1, .agg (ienc ⟨6, dst, a, b, imm, loc, off, ix, sz, fn, acq, wk, rel, pr, su, to, ze⟩), .s d, .s e] (.s ([])) := by
  obtain ⟨_, _, _, hz⟩ := accB_ok ha
  have hsl := szT_len 1 sz
  have hml := atR_len (a := 1) ha
  refine Ctr.enterV tabOkF (fn := Tryz.f153) rfl rfl rfl rfl rfl rfl ?_
  refine OpC.callV rfl rfl rfl rfl rfl rfl rfl (fun _ => tail5_ok 1 sz (by decide) hz) ?_
  refine OpC.callV rfl rfl rfl rfl rfl rfl rfl (fun _ => mem5_ok 1 ⟨6, dst, a, b, imm, loc, off, ix, sz, fn, acq, wk, rel, pr, su, to, ze⟩ ha) ?_
  refine ⟨fun h => no_ft h, fun _ => ?_⟩
  refine ⟨fun h => no_ft h, fun _ => ?_⟩
  refine ⟨fun h => no_ft h, fun _ => ?_⟩
  refine ⟨fun h => no_ft h, fun _ => ?_⟩
  refine ⟨fun h => no_ft h, fun _ => ?_⟩
  refine ⟨fun h => no_ft h, fun _ => ?_⟩
  refine ⟨fun h => no_ft h, fun _ => ?_⟩
  refine ⟨fun h => no_ft h, fun _ => ?_⟩
  refine OpC.callV rfl rfl rfl rfl rfl rfl rfl (fun _ => rmw_d dst a b imm loc off ix sz fn pr su to acq wk rel ze d e (szT 1 sz) (atF (regsL 1) ⟨6, dst, a, b, imm, loc, off, ix, sz, fn, acq, wk, rel, pr, su, to, ze⟩) hd he hsl hml hq) ?_
  exact rfl
set_option maxHeartbeats 800000 in
theorem acc_6a (dst a b imm loc off ix sz fn pr su to : Int) (wk rel ze : Bool) (d e : List UInt8) (hd : d.length ≤ 3) (he : e.length ≤ 3) (ha : accB ⟨6, dst, a, b, imm, loc, off, ix, sz, fn, false, wk, rel, pr, su, to, ze⟩ = true)  : CtrV Tryz.prog 153 [.i .i64 1, .agg (ienc ⟨6, dst, a, b, imm, loc, off, ix, sz, fn, false, wk, rel, pr, su, to, ze⟩), .s d, .s e] (.s ([])) := by
  obtain ⟨_, _, _, hz⟩ := accB_ok ha
  have hsl := szT_len 1 sz
  have hml := atR_len (a := 1) ha
  refine Ctr.enterV tabOkF (fn := Tryz.f153) rfl rfl rfl rfl rfl rfl ?_
  refine OpC.callV rfl rfl rfl rfl rfl rfl rfl (fun _ => tail5_ok 1 sz (by decide) hz) ?_
  refine OpC.callV rfl rfl rfl rfl rfl rfl rfl (fun _ => mem5_ok 1 ⟨6, dst, a, b, imm, loc, off, ix, sz, fn, false, wk, rel, pr, su, to, ze⟩ ha) ?_
  refine ⟨fun h => no_ft h, fun _ => ?_⟩
  refine ⟨fun h => no_ft h, fun _ => ?_⟩
  refine ⟨fun h => no_ft h, fun _ => ?_⟩
  refine ⟨fun h => no_ft h, fun _ => ?_⟩
  refine ⟨fun h => no_ft h, fun _ => ?_⟩
  refine ⟨fun h => no_ft h, fun _ => ?_⟩
  refine ⟨fun h => no_ft h, fun _ => ?_⟩
  refine ⟨fun h => no_ft h, fun _ => ?_⟩
  refine OpC.callV rfl rfl rfl rfl rfl rfl rfl (fun _ => rmw_a dst a b imm loc off ix sz fn pr su to wk rel ze d e (szT 1 sz) (atF (regsL 1) ⟨6, dst, a, b, imm, loc, off, ix, sz, fn, false, wk, rel, pr, su, to, ze⟩) hd he hsl hml) ?_
  exact rfl
set_option maxHeartbeats 800000 in
theorem acc_6r (dst a b imm loc off ix sz fn pr su to : Int) (wk ze : Bool) (d e : List UInt8) (hd : d.length ≤ 3) (he : e.length ≤ 3) (ha : accB ⟨6, dst, a, b, imm, loc, off, ix, sz, fn, true, wk, false, pr, su, to, ze⟩ = true)  : CtrV Tryz.prog 153 [.i .i64 1, .agg (ienc ⟨6, dst, a, b, imm, loc, off, ix, sz, fn, true, wk, false, pr, su, to, ze⟩), .s d, .s e] (.s ([])) := by
  obtain ⟨_, _, _, hz⟩ := accB_ok ha
  have hsl := szT_len 1 sz
  have hml := atR_len (a := 1) ha
  refine Ctr.enterV tabOkF (fn := Tryz.f153) rfl rfl rfl rfl rfl rfl ?_
  refine OpC.callV rfl rfl rfl rfl rfl rfl rfl (fun _ => tail5_ok 1 sz (by decide) hz) ?_
  refine OpC.callV rfl rfl rfl rfl rfl rfl rfl (fun _ => mem5_ok 1 ⟨6, dst, a, b, imm, loc, off, ix, sz, fn, true, wk, false, pr, su, to, ze⟩ ha) ?_
  refine ⟨fun h => no_ft h, fun _ => ?_⟩
  refine ⟨fun h => no_ft h, fun _ => ?_⟩
  refine ⟨fun h => no_ft h, fun _ => ?_⟩
  refine ⟨fun h => no_ft h, fun _ => ?_⟩
  refine ⟨fun h => no_ft h, fun _ => ?_⟩
  refine ⟨fun h => no_ft h, fun _ => ?_⟩
  refine ⟨fun h => no_ft h, fun _ => ?_⟩
  refine ⟨fun h => no_ft h, fun _ => ?_⟩
  refine OpC.callV rfl rfl rfl rfl rfl rfl rfl (fun _ => rmw_r dst a b imm loc off ix sz fn pr su to wk ze d e (szT 1 sz) (atF (regsL 1) ⟨6, dst, a, b, imm, loc, off, ix, sz, fn, true, wk, false, pr, su, to, ze⟩) hd he hsl hml) ?_
  exact rfl
set_option maxHeartbeats 800000 in
theorem acc_6y (dst a b imm loc off ix sz pr su to : Int) (wk ze : Bool) (d e : List UInt8) (hd : d.length ≤ 3) (he : e.length ≤ 3) (ha : accB ⟨6, dst, a, b, imm, loc, off, ix, sz, 1, true, wk, true, pr, su, to, ze⟩ = true) (hq : dst = a) : CtrV Tryz.prog 153 [.i .i64 1, .agg (ienc ⟨6, dst, a, b, imm, loc, off, ix, sz, 1, true, wk, true, pr, su, to, ze⟩), .s d, .s e] (.s (lineF (([88, 65, 68, 68] : List UInt8) ++ szT 1 sz) [atF (regsL 1) ⟨6, dst, a, b, imm, loc, off, ix, sz, 1, true, wk, true, pr, su, to, ze⟩, d])) := by
  obtain ⟨_, _, _, hz⟩ := accB_ok ha
  have hsl := szT_len 1 sz
  have hml := atR_len (a := 1) ha
  refine Ctr.enterV tabOkF (fn := Tryz.f153) rfl rfl rfl rfl rfl rfl ?_
  refine OpC.callV rfl rfl rfl rfl rfl rfl rfl (fun _ => tail5_ok 1 sz (by decide) hz) ?_
  refine OpC.callV rfl rfl rfl rfl rfl rfl rfl (fun _ => mem5_ok 1 ⟨6, dst, a, b, imm, loc, off, ix, sz, 1, true, wk, true, pr, su, to, ze⟩ ha) ?_
  refine ⟨fun h => no_ft h, fun _ => ?_⟩
  refine ⟨fun h => no_ft h, fun _ => ?_⟩
  refine ⟨fun h => no_ft h, fun _ => ?_⟩
  refine ⟨fun h => no_ft h, fun _ => ?_⟩
  refine ⟨fun h => no_ft h, fun _ => ?_⟩
  refine ⟨fun h => no_ft h, fun _ => ?_⟩
  refine ⟨fun h => no_ft h, fun _ => ?_⟩
  refine ⟨fun h => no_ft h, fun _ => ?_⟩
  refine OpC.callV rfl rfl rfl rfl rfl rfl rfl (fun _ => rmw_1 dst a b imm loc off ix sz pr su to wk ze d e (szT 1 sz) (atF (regsL 1) ⟨6, dst, a, b, imm, loc, off, ix, sz, 1, true, wk, true, pr, su, to, ze⟩) hd he hsl hml hq) ?_
  exact rfl
set_option maxHeartbeats 800000 in
theorem acc_6x (dst a b imm loc off ix sz pr su to : Int) (wk ze : Bool) (d e : List UInt8) (hd : d.length ≤ 3) (he : e.length ≤ 3) (ha : accB ⟨6, dst, a, b, imm, loc, off, ix, sz, 6, true, wk, true, pr, su, to, ze⟩ = true) (hq : dst = a) : CtrV Tryz.prog 153 [.i .i64 1, .agg (ienc ⟨6, dst, a, b, imm, loc, off, ix, sz, 6, true, wk, true, pr, su, to, ze⟩), .s d, .s e] (.s (lineF (([88, 67, 72, 71] : List UInt8) ++ szT 1 sz) [d, atF (regsL 1) ⟨6, dst, a, b, imm, loc, off, ix, sz, 6, true, wk, true, pr, su, to, ze⟩])) := by
  obtain ⟨_, _, _, hz⟩ := accB_ok ha
  have hsl := szT_len 1 sz
  have hml := atR_len (a := 1) ha
  refine Ctr.enterV tabOkF (fn := Tryz.f153) rfl rfl rfl rfl rfl rfl ?_
  refine OpC.callV rfl rfl rfl rfl rfl rfl rfl (fun _ => tail5_ok 1 sz (by decide) hz) ?_
  refine OpC.callV rfl rfl rfl rfl rfl rfl rfl (fun _ => mem5_ok 1 ⟨6, dst, a, b, imm, loc, off, ix, sz, 6, true, wk, true, pr, su, to, ze⟩ ha) ?_
  refine ⟨fun h => no_ft h, fun _ => ?_⟩
  refine ⟨fun h => no_ft h, fun _ => ?_⟩
  refine ⟨fun h => no_ft h, fun _ => ?_⟩
  refine ⟨fun h => no_ft h, fun _ => ?_⟩
  refine ⟨fun h => no_ft h, fun _ => ?_⟩
  refine ⟨fun h => no_ft h, fun _ => ?_⟩
  refine ⟨fun h => no_ft h, fun _ => ?_⟩
  refine ⟨fun h => no_ft h, fun _ => ?_⟩
  refine OpC.callV rfl rfl rfl rfl rfl rfl rfl (fun _ => rmw_6 dst a b imm loc off ix sz pr su to wk ze d e (szT 1 sz) (atF (regsL 1) ⟨6, dst, a, b, imm, loc, off, ix, sz, 6, true, wk, true, pr, su, to, ze⟩) hd he hsl hml hq) ?_
  exact rfl
end SX
end Go.Proofs.YtlgjjklikbpcoaaGreatDoor

/- The reference's texts of instructions, x86. Printed by rfc.py. -/
set_option linter.unusedVariables false
set_option maxRecDepth 100000
namespace Go.Proofs.YtlgjjklikbpcoaaGreatDoor
namespace SX
open Go Go.Proofs
theorem fen_7 (dst a b imm loc off ix sz fn pr su to : Int) (acq wk rel ze : Bool) : CtrV Tryz.prog 152 [.i .i64 1, .agg (ienc ⟨7, dst, a, b, imm, loc, off, ix, sz, fn, acq, wk, rel, pr, su, to, ze⟩)] (.s (if pr = 3 ∧ su = 3 then ([77, 70, 69, 78, 67, 69] : List UInt8) else [])) := by
  refine Ctr.enterV tabOkF (fn := Tryz.f152) rfl rfl rfl rfl rfl rfl ?_
  refine ⟨fun h => no_ft h, fun _ => ?_⟩
  refine ⟨fun h => no_ft h, fun _ => ?_⟩
  refine ⟨fun h => no_ft h, fun _ => ?_⟩
  refine ⟨fun h => ?_, fun h => ?_⟩
  · have h : (decide (pr = 3) && decide (su = 3)) = true := h
    simp only [Bool.and_eq_true, decide_eq_true_eq] at h
    rw [if_pos h]
    exact rfl
  · have h : (decide (pr = 3) && decide (su = 3)) = false := h
    rw [if_neg (by intro hh; rw [decide_eq_true hh.1, decide_eq_true hh.2] at h; cases h)]
    refine ⟨fun h => no_ft h, fun _ => ?_⟩
    refine ⟨fun h => no_ft h, fun _ => ?_⟩
    refine ⟨fun h => no_ft h, fun _ => ?_⟩
    exact rfl
theorem fen_8 (dst a b imm loc off ix sz fn pr su to : Int) (acq wk rel ze : Bool) : CtrV Tryz.prog 152 [.i .i64 1, .agg (ienc ⟨8, dst, a, b, imm, loc, off, ix, sz, fn, acq, wk, rel, pr, su, to, ze⟩)] (.s []) := by
  refine Ctr.enterV tabOkF (fn := Tryz.f152) rfl rfl rfl rfl rfl rfl ?_
  refine ⟨fun h => no_ft h, fun _ => ?_⟩
  refine ⟨fun _ => ?_, fun h => no_tf h⟩
  exact rfl
set_option maxHeartbeats 800000 in
theorem tx_1 (dst a b imm loc off ix sz fn pr su to : Int) (acq wk rel ze : Bool) (lb : List UInt8) (hl : lb.length ≤ 90000) (hi : in64 imm) : CtrV Tryz.prog 76 [.i .i64 1, .agg (ienc ⟨1, dst, a, b, imm, loc, off, ix, sz, fn, acq, wk, rel, pr, su, to, ze⟩), .s lb] (.s (lineF ([77, 79, 86] : List UInt8) [nmF (regsL 1) dst, orF (regsL 1) (hL 1) (-1) imm])) := by
  have hdl : (nameF 1 dst).length ≤ 3 := nameF_len 1 dst
  have hal : (nameF 1 a).length ≤ 3 := nameF_len 1 a
  refine Ctr.enterV tabOkF (fn := Tryz.f76) rfl rfl rfl rfl rfl rfl ?_
  refine OpC.callV rfl rfl rfl rfl rfl rfl rfl (fun _ => rname_ok 1 dst) ?_
  refine OpC.callV rfl rfl rfl rfl rfl rfl rfl (fun _ => rname_ok 1 a) ?_
  have hnl := numT_len (a := 1) hi
  refine ⟨fun _ => ?_, fun h => no_tf h⟩
  refine ⟨fun h => no_ft h, fun _ => ?_⟩
  refine ⟨fun _ => by show (([77, 79, 86, 32] : List UInt8)).length + (nameF 1 dst).length ≤ 9223372036854775807; simp; omega, ?_⟩
  refine ⟨fun _ => by show ((([77, 79, 86, 32] : List UInt8) ++ nameF 1 dst)).length + (([44] : List UInt8)).length ≤ 9223372036854775807; simp; omega, ?_⟩
  refine OpC.callV rfl rfl rfl rfl rfl rfl rfl (fun _ => number5_ok 1 imm hi) ?_
  refine ⟨fun _ => by show (((([77, 79, 86, 32] : List UInt8) ++ nameF 1 dst) ++ ([44] : List UInt8))).length + (numT 1 imm).length ≤ 9223372036854775807; simp; omega, ?_⟩
  refine s_cg ?_
  show (((([77, 79, 86, 32] : List UInt8) ++ nameF 1 dst) ++ ([44] : List UInt8)) ++ numT 1 imm) = _
  simp [lineF, join2, orF, numT, hL, nm_name]
set_option maxHeartbeats 800000 in
theorem tx_2 (dst a b imm loc off ix sz fn pr su to : Int) (acq wk rel ze : Bool) (lb : List UInt8) (hl : lb.length ≤ 90000)  : CtrV Tryz.prog 76 [.i .i64 1, .agg (ienc ⟨2, dst, a, b, imm, loc, off, ix, sz, fn, acq, wk, rel, pr, su, to, ze⟩), .s lb] (.s (lineF ([77, 79, 86] : List UInt8) [nmF (regsL 1) dst, nmF (regsL 1) a])) := by
  have hdl : (nameF 1 dst).length ≤ 3 := nameF_len 1 dst
  have hal : (nameF 1 a).length ≤ 3 := nameF_len 1 a
  refine Ctr.enterV tabOkF (fn := Tryz.f76) rfl rfl rfl rfl rfl rfl ?_
  refine OpC.callV rfl rfl rfl rfl rfl rfl rfl (fun _ => rname_ok 1 dst) ?_
  refine OpC.callV rfl rfl rfl rfl rfl rfl rfl (fun _ => rname_ok 1 a) ?_
  refine ⟨fun h => no_ft h, fun _ => ?_⟩
  refine ⟨fun _ => ?_, fun h => no_tf h⟩
  refine ⟨fun h => no_ft h, fun _ => ?_⟩
  refine ⟨fun _ => by show (([77, 79, 86, 32] : List UInt8)).length + (nameF 1 dst).length ≤ 9223372036854775807; simp; omega, ?_⟩
  refine ⟨fun _ => by show ((([77, 79, 86, 32] : List UInt8) ++ nameF 1 dst)).length + (([44] : List UInt8)).length ≤ 9223372036854775807; simp; omega, ?_⟩
  refine ⟨fun _ => by show (((([77, 79, 86, 32] : List UInt8) ++ nameF 1 dst) ++ ([44] : List UInt8))).length + (nameF 1 a).length ≤ 9223372036854775807; simp; omega, ?_⟩
  refine s_cg ?_
  show (((([77, 79, 86, 32] : List UInt8) ++ nameF 1 dst) ++ ([44] : List UInt8)) ++ nameF 1 a) = _
  simp [lineF, join2, regT_eq, hL, nm_name]
set_option maxHeartbeats 800000 in
theorem tx_3n (dst a b imm loc off ix sz fn pr su to : Int) (acq wk rel ze : Bool) (lb : List UInt8) (hl : lb.length ≤ 90000) (hf : fn = 1 ∨ fn = 2 ∨ fn = 3 ∨ fn = 4 ∨ fn = 5) (hd : ¬ dst = a) : CtrV Tryz.prog 76 [.i .i64 1, .agg (ienc ⟨3, dst, a, b, imm, loc, off, ix, sz, fn, acq, wk, rel, pr, su, to, ze⟩), .s lb] (.s ([])) := by
  have hdl : (nameF 1 dst).length ≤ 3 := nameF_len 1 dst
  have hal : (nameF 1 a).length ≤ 3 := nameF_len 1 a
  refine Ctr.enterV tabOkF (fn := Tryz.f76) rfl rfl rfl rfl rfl rfl ?_
  refine OpC.callV rfl rfl rfl rfl rfl rfl rfl (fun _ => rname_ok 1 dst) ?_
  refine OpC.callV rfl rfl rfl rfl rfl rfl rfl (fun _ => rname_ok 1 a) ?_
  refine ⟨fun h => no_ft h, fun _ => ?_⟩
  refine ⟨fun h => no_ft h, fun _ => ?_⟩
  refine ⟨fun _ => ?_, fun h => no_tf h⟩
  refine OpC.callV rfl rfl rfl rfl rfl rfl rfl (fun _ => fn5_ok 1 fn (by decide) hf) ?_
  refine ⟨fun _ => ?_, fun h => no_tf h⟩
  refine ⟨fun _ => ?_, fun h => ?_⟩
  rotate_left
  · have h : (!decide (dst = a)) = false := h
    rw [decide_eq_false hd] at h; exact no_tf h
  exact rfl
set_option maxHeartbeats 800000 in
theorem tx_3 (dst a b imm loc off ix sz fn pr su to : Int) (acq wk rel ze : Bool) (lb : List UInt8) (hl : lb.length ≤ 90000) (hf : fn = 1 ∨ fn = 2 ∨ fn = 3 ∨ fn = 4 ∨ fn = 5) (hd : dst = a) (hi : in64 imm) : CtrV Tryz.prog 76 [.i .i64 1, .agg (ienc ⟨3, dst, a, b, imm, loc, off, ix, sz, fn, acq, wk, rel, pr, su, to, ze⟩), .s lb] (.s (lineF (fnT 1 fn) [nmF (regsL 1) dst, orF (regsL 1) (hL 1) b imm])) := by
  have hdl : (nameF 1 dst).length ≤ 3 := nameF_len 1 dst
  have hal : (nameF 1 a).length ≤ 3 := nameF_len 1 a
  refine Ctr.enterV tabOkF (fn := Tryz.f76) rfl rfl rfl rfl rfl rfl ?_
  refine OpC.callV rfl rfl rfl rfl rfl rfl rfl (fun _ => rname_ok 1 dst) ?_
  refine OpC.callV rfl rfl rfl rfl rfl rfl rfl (fun _ => rname_ok 1 a) ?_
  have hfl : (fnT 1 fn).length ≤ 3 := by rcases hf with rfl | rfl | rfl | rfl | rfl <;> decide
  have hrl := regT_len (a := 1) (r := b) hi
  refine ⟨fun h => no_ft h, fun _ => ?_⟩
  refine ⟨fun h => no_ft h, fun _ => ?_⟩
  refine ⟨fun _ => ?_, fun h => no_tf h⟩
  refine OpC.callV rfl rfl rfl rfl rfl rfl rfl (fun _ => fn5_ok 1 fn (by decide) hf) ?_
  refine ⟨fun _ => ?_, fun h => no_tf h⟩
  refine ⟨fun h => ?_, fun _ => ?_⟩
  · have h : (!decide (dst = a)) = true := h
    rw [decide_eq_true hd] at h; exact no_ft h
  refine ⟨fun _ => by show (fnT 1 fn).length + (([32] : List UInt8)).length ≤ 9223372036854775807; simp; omega, ?_⟩
  refine ⟨fun _ => by show ((fnT 1 fn ++ ([32] : List UInt8))).length + (nameF 1 dst).length ≤ 9223372036854775807; simp; omega, ?_⟩
  refine ⟨fun _ => by show (((fnT 1 fn ++ ([32] : List UInt8)) ++ nameF 1 dst)).length + (([44] : List UInt8)).length ≤ 9223372036854775807; simp; omega, ?_⟩
  refine OpC.callV rfl rfl rfl rfl rfl rfl rfl (fun _ => regOr5_ok 1 b imm hi) ?_
  refine ⟨fun _ => by show ((((fnT 1 fn ++ ([32] : List UInt8)) ++ nameF 1 dst) ++ ([44] : List UInt8))).length + (regT 1 b imm).length ≤ 9223372036854775807; simp; omega, ?_⟩
  refine s_cg ?_
  show ((((fnT 1 fn ++ ([32] : List UInt8)) ++ nameF 1 dst) ++ ([44] : List UInt8)) ++ regT 1 b imm) = _
  simp [lineF, join2, regT_eq, hL, nm_name]
set_option maxHeartbeats 800000 in
theorem tx_9 (dst a b imm loc off ix sz fn pr su to : Int) (acq wk rel ze : Bool) (lb : List UInt8) (hl : lb.length ≤ 90000)  : CtrV Tryz.prog 76 [.i .i64 1, .agg (ienc ⟨9, dst, a, b, imm, loc, off, ix, sz, fn, acq, wk, rel, pr, su, to, ze⟩), .s lb] (.s (lineF (brT 1 ze) [nmF (regsL 1) a, lb])) := by
  have hdl : (nameF 1 dst).length ≤ 3 := nameF_len 1 dst
  have hal : (nameF 1 a).length ≤ 3 := nameF_len 1 a
  refine Ctr.enterV tabOkF (fn := Tryz.f76) rfl rfl rfl rfl rfl rfl ?_
  refine OpC.callV rfl rfl rfl rfl rfl rfl rfl (fun _ => rname_ok 1 dst) ?_
  refine OpC.callV rfl rfl rfl rfl rfl rfl rfl (fun _ => rname_ok 1 a) ?_
  have hbl : (brT 1 ze).length ≤ 4 := by cases ze <;> decide
  refine ⟨fun h => no_ft h, fun _ => ?_⟩
  refine ⟨fun h => no_ft h, fun _ => ?_⟩
  refine ⟨fun h => no_ft h, fun _ => ?_⟩
  refine ⟨fun _ => ?_, fun h => no_tf h⟩
  refine OpC.callV rfl rfl rfl rfl rfl rfl rfl (fun _ => br5_ok 1 ze (by decide)) ?_
  refine ⟨fun _ => by show (brT 1 ze).length + (([32] : List UInt8)).length ≤ 9223372036854775807; simp; omega, ?_⟩
  refine ⟨fun _ => by show ((brT 1 ze ++ ([32] : List UInt8))).length + (nameF 1 a).length ≤ 9223372036854775807; simp; omega, ?_⟩
  refine ⟨fun _ => by show (((brT 1 ze ++ ([32] : List UInt8)) ++ nameF 1 a)).length + (([44] : List UInt8)).length ≤ 9223372036854775807; simp; omega, ?_⟩
  refine ⟨fun _ => by show ((((brT 1 ze ++ ([32] : List UInt8)) ++ nameF 1 a) ++ ([44] : List UInt8))).length + (lb).length ≤ 9223372036854775807; simp; omega, ?_⟩
  refine s_cg ?_
  show ((((brT 1 ze ++ ([32] : List UInt8)) ++ nameF 1 a) ++ ([44] : List UInt8)) ++ lb) = _
  simp [lineF, join2, regT_eq, hL, nm_name]
set_option maxHeartbeats 800000 in
theorem tx_7 (dst a b imm loc off ix sz fn pr su to : Int) (acq wk rel ze : Bool) (lb : List UInt8) (hl : lb.length ≤ 90000)  : CtrV Tryz.prog 76 [.i .i64 1, .agg (ienc ⟨7, dst, a, b, imm, loc, off, ix, sz, fn, acq, wk, rel, pr, su, to, ze⟩), .s lb] (.s (if pr = 3 ∧ su = 3 then ([77, 70, 69, 78, 67, 69] : List UInt8) else [])) := by
  have hdl : (nameF 1 dst).length ≤ 3 := nameF_len 1 dst
  have hal : (nameF 1 a).length ≤ 3 := nameF_len 1 a
  refine Ctr.enterV tabOkF (fn := Tryz.f76) rfl rfl rfl rfl rfl rfl ?_
  refine OpC.callV rfl rfl rfl rfl rfl rfl rfl (fun _ => rname_ok 1 dst) ?_
  refine OpC.callV rfl rfl rfl rfl rfl rfl rfl (fun _ => rname_ok 1 a) ?_
  refine ⟨fun h => no_ft h, fun _ => ?_⟩
  refine ⟨fun h => no_ft h, fun _ => ?_⟩
  refine ⟨fun h => no_ft h, fun _ => ?_⟩
  refine ⟨fun h => no_ft h, fun _ => ?_⟩
  refine ⟨fun _ => ?_, fun h => no_tf h⟩
  refine ⟨fun _ => ?_, fun h => no_tf h⟩
  refine OpC.callV rfl rfl rfl rfl rfl rfl rfl (fun _ => fen_7 dst a b imm loc off ix sz fn pr su to acq wk rel ze) ?_
  exact rfl
set_option maxHeartbeats 800000 in
theorem tx_8 (dst a b imm loc off ix sz fn pr su to : Int) (acq wk rel ze : Bool) (lb : List UInt8) (hl : lb.length ≤ 90000)  : CtrV Tryz.prog 76 [.i .i64 1, .agg (ienc ⟨8, dst, a, b, imm, loc, off, ix, sz, fn, acq, wk, rel, pr, su, to, ze⟩), .s lb] (.s ([])) := by
  have hdl : (nameF 1 dst).length ≤ 3 := nameF_len 1 dst
  have hal : (nameF 1 a).length ≤ 3 := nameF_len 1 a
  refine Ctr.enterV tabOkF (fn := Tryz.f76) rfl rfl rfl rfl rfl rfl ?_
  refine OpC.callV rfl rfl rfl rfl rfl rfl rfl (fun _ => rname_ok 1 dst) ?_
  refine OpC.callV rfl rfl rfl rfl rfl rfl rfl (fun _ => rname_ok 1 a) ?_
  refine ⟨fun h => no_ft h, fun _ => ?_⟩
  refine ⟨fun h => no_ft h, fun _ => ?_⟩
  refine ⟨fun h => no_ft h, fun _ => ?_⟩
  refine ⟨fun h => no_ft h, fun _ => ?_⟩
  refine ⟨fun h => no_ft h, fun _ => ?_⟩
  refine ⟨fun _ => ?_, fun h => no_tf h⟩
  refine OpC.callV rfl rfl rfl rfl rfl rfl rfl (fun _ => fen_8 dst a b imm loc off ix sz fn pr su to acq wk rel ze) ?_
  exact rfl
set_option maxHeartbeats 800000 in
theorem tx_4a (dst a b imm loc off ix sz fn pr su to : Int) (wk rel ze : Bool) (lb : List UInt8) (hl : lb.length ≤ 90000) (ha : accB ⟨4, dst, a, b, imm, loc, off, ix, sz, fn, true, wk, rel, pr, su, to, ze⟩ = true)  : CtrV Tryz.prog 76 [.i .i64 1, .agg (ienc ⟨4, dst, a, b, imm, loc, off, ix, sz, fn, true, wk, rel, pr, su, to, ze⟩), .s lb] (.s ([])) := by
  have hdl : (nameF 1 dst).length ≤ 3 := nameF_len 1 dst
  have hal : (nameF 1 a).length ≤ 3 := nameF_len 1 a
  refine Ctr.enterV tabOkF (fn := Tryz.f76) rfl rfl rfl rfl rfl rfl ?_
  refine OpC.callV rfl rfl rfl rfl rfl rfl rfl (fun _ => rname_ok 1 dst) ?_
  refine OpC.callV rfl rfl rfl rfl rfl rfl rfl (fun _ => rname_ok 1 a) ?_
  refine ⟨fun h => no_ft h, fun _ => ?_⟩
  refine ⟨fun h => no_ft h, fun _ => ?_⟩
  refine ⟨fun h => no_ft h, fun _ => ?_⟩
  refine ⟨fun h => no_ft h, fun _ => ?_⟩
  refine ⟨fun h => no_ft h, fun _ => ?_⟩
  refine ⟨fun h => no_ft h, fun _ => ?_⟩
  refine OpC.callV rfl rfl rfl rfl rfl rfl rfl (fun _ => acc_4a dst a b imm loc off ix sz fn pr su to wk rel ze (nameF 1 dst) (nameF 1 a) hdl hal ha ) ?_
  exact rfl
set_option maxHeartbeats 800000 in
theorem tx_4w (dst a b imm loc off ix sz fn pr su to : Int) (rel ze : Bool) (lb : List UInt8) (hl : lb.length ≤ 90000) (ha : accB ⟨4, dst, a, b, imm, loc, off, ix, sz, fn, false, true, rel, pr, su, to, ze⟩ = true)  : CtrV Tryz.prog 76 [.i .i64 1, .agg (ienc ⟨4, dst, a, b, imm, loc, off, ix, sz, fn, false, true, rel, pr, su, to, ze⟩), .s lb] (.s ([])) := by
  have hdl : (nameF 1 dst).length ≤ 3 := nameF_len 1 dst
  have hal : (nameF 1 a).length ≤ 3 := nameF_len 1 a
  refine Ctr.enterV tabOkF (fn := Tryz.f76) rfl rfl rfl rfl rfl rfl ?_
  refine OpC.callV rfl rfl rfl rfl rfl rfl rfl (fun _ => rname_ok 1 dst) ?_
  refine OpC.callV rfl rfl rfl rfl rfl rfl rfl (fun _ => rname_ok 1 a) ?_
  refine ⟨fun h => no_ft h, fun _ => ?_⟩
  refine ⟨fun h => no_ft h, fun _ => ?_⟩
  refine ⟨fun h => no_ft h, fun _ => ?_⟩
  refine ⟨fun h => no_ft h, fun _ => ?_⟩
  refine ⟨fun h => no_ft h, fun _ => ?_⟩
  refine ⟨fun h => no_ft h, fun _ => ?_⟩
  refine OpC.callV rfl rfl rfl rfl rfl rfl rfl (fun _ => acc_4w dst a b imm loc off ix sz fn pr su to rel ze (nameF 1 dst) (nameF 1 a) hdl hal ha ) ?_
  exact rfl
set_option maxHeartbeats 800000 in
theorem tx_4 (dst a b imm loc off ix sz fn pr su to : Int) (rel ze : Bool) (lb : List UInt8) (hl : lb.length ≤ 90000) (ha : accB ⟨4, dst, a, b, imm, loc, off, ix, sz, fn, false, false, rel, pr, su, to, ze⟩ = true)  : CtrV Tryz.prog 76 [.i .i64 1, .agg (ienc ⟨4, dst, a, b, imm, loc, off, ix, sz, fn, false, false, rel, pr, su, to, ze⟩), .s lb] (.s (lineF (([77, 79, 86] : List UInt8) ++ szT 1 sz) [nmF (regsL 1) dst, atF (regsL 1) ⟨4, dst, a, b, imm, loc, off, ix, sz, fn, false, false, rel, pr, su, to, ze⟩])) := by
  have hdl : (nameF 1 dst).length ≤ 3 := nameF_len 1 dst
  have hal : (nameF 1 a).length ≤ 3 := nameF_len 1 a
  refine Ctr.enterV tabOkF (fn := Tryz.f76) rfl rfl rfl rfl rfl rfl ?_
  refine OpC.callV rfl rfl rfl rfl rfl rfl rfl (fun _ => rname_ok 1 dst) ?_
  refine OpC.callV rfl rfl rfl rfl rfl rfl rfl (fun _ => rname_ok 1 a) ?_
  refine ⟨fun h => no_ft h, fun _ => ?_⟩
  refine ⟨fun h => no_ft h, fun _ => ?_⟩
  refine ⟨fun h => no_ft h, fun _ => ?_⟩
  refine ⟨fun h => no_ft h, fun _ => ?_⟩
  refine ⟨fun h => no_ft h, fun _ => ?_⟩
  refine ⟨fun h => no_ft h, fun _ => ?_⟩
  refine OpC.callV rfl rfl rfl rfl rfl rfl rfl (fun _ => acc_4 dst a b imm loc off ix sz fn pr su to rel ze (nameF 1 dst) (nameF 1 a) hdl hal ha ) ?_
  exact rfl
set_option maxHeartbeats 800000 in
theorem tx_5r (dst a b imm loc off ix sz fn pr su to : Int) (acq wk ze : Bool) (lb : List UInt8) (hl : lb.length ≤ 90000) (ha : accB ⟨5, dst, a, b, imm, loc, off, ix, sz, fn, acq, wk, true, pr, su, to, ze⟩ = true)  : CtrV Tryz.prog 76 [.i .i64 1, .agg (ienc ⟨5, dst, a, b, imm, loc, off, ix, sz, fn, acq, wk, true, pr, su, to, ze⟩), .s lb] (.s ([])) := by
  have hdl : (nameF 1 dst).length ≤ 3 := nameF_len 1 dst
  have hal : (nameF 1 a).length ≤ 3 := nameF_len 1 a
  refine Ctr.enterV tabOkF (fn := Tryz.f76) rfl rfl rfl rfl rfl rfl ?_
  refine OpC.callV rfl rfl rfl rfl rfl rfl rfl (fun _ => rname_ok 1 dst) ?_
  refine OpC.callV rfl rfl rfl rfl rfl rfl rfl (fun _ => rname_ok 1 a) ?_
  refine ⟨fun h => no_ft h, fun _ => ?_⟩
  refine ⟨fun h => no_ft h, fun _ => ?_⟩
  refine ⟨fun h => no_ft h, fun _ => ?_⟩
  refine ⟨fun h => no_ft h, fun _ => ?_⟩
  refine ⟨fun h => no_ft h, fun _ => ?_⟩
  refine ⟨fun h => no_ft h, fun _ => ?_⟩
  refine OpC.callV rfl rfl rfl rfl rfl rfl rfl (fun _ => acc_5r dst a b imm loc off ix sz fn pr su to acq wk ze (nameF 1 dst) (nameF 1 a) hdl hal ha ) ?_
  exact rfl
set_option maxHeartbeats 800000 in
theorem tx_5 (dst a b imm loc off ix sz fn pr su to : Int) (acq wk ze : Bool) (lb : List UInt8) (hl : lb.length ≤ 90000) (ha : accB ⟨5, dst, a, b, imm, loc, off, ix, sz, fn, acq, wk, false, pr, su, to, ze⟩ = true) (hi : in64 imm) : CtrV Tryz.prog 76 [.i .i64 1, .agg (ienc ⟨5, dst, a, b, imm, loc, off, ix, sz, fn, acq, wk, false, pr, su, to, ze⟩), .s lb] (.s (lineF (([77, 79, 86] : List UInt8) ++ szT 1 sz) [atF (regsL 1) ⟨5, dst, a, b, imm, loc, off, ix, sz, fn, acq, wk, false, pr, su, to, ze⟩, orF (regsL 1) (hL 1) a imm])) := by
  have hdl : (nameF 1 dst).length ≤ 3 := nameF_len 1 dst
  have hal : (nameF 1 a).length ≤ 3 := nameF_len 1 a
  refine Ctr.enterV tabOkF (fn := Tryz.f76) rfl rfl rfl rfl rfl rfl ?_
  refine OpC.callV rfl rfl rfl rfl rfl rfl rfl (fun _ => rname_ok 1 dst) ?_
  refine OpC.callV rfl rfl rfl rfl rfl rfl rfl (fun _ => rname_ok 1 a) ?_
  refine ⟨fun h => no_ft h, fun _ => ?_⟩
  refine ⟨fun h => no_ft h, fun _ => ?_⟩
  refine ⟨fun h => no_ft h, fun _ => ?_⟩
  refine ⟨fun h => no_ft h, fun _ => ?_⟩
  refine ⟨fun h => no_ft h, fun _ => ?_⟩
  refine ⟨fun h => no_ft h, fun _ => ?_⟩
  refine OpC.callV rfl rfl rfl rfl rfl rfl rfl (fun _ => acc_5 dst a b imm loc off ix sz fn pr su to acq wk ze (nameF 1 dst) (nameF 1 a) hdl hal ha hi) ?_
  exact rfl
set_option maxHeartbeats 800000 in
theorem tx_6d (dst a b imm loc off ix sz fn pr su to : Int) (acq wk rel ze : Bool) (lb : List UInt8) (hl : lb.length ≤ 90000) (ha : accB ⟨6, dst, a, b, imm, loc, off, ix, sz, fn, acq, wk, rel, pr, su, to, ze⟩ = true) (hq : ¬ dst = a) : CtrV Tryz.prog 76 [.i .i64 1, .agg (ienc ⟨6, dst, a, b, imm, loc, off, ix, sz, fn, acq, wk, rel, pr, su, to, ze⟩), .s lb] (.s ([])) := by
  have hdl : (nameF 1 dst).length ≤ 3 := nameF_len 1 dst
  have hal : (nameF 1 a).length ≤ 3 := nameF_len 1 a
  refine Ctr.enterV tabOkF (fn := Tryz.f76) rfl rfl rfl rfl rfl rfl ?_
  refine OpC.callV rfl rfl rfl rfl rfl rfl rfl (fun _ => rname_ok 1 dst) ?_
  refine OpC.callV rfl rfl rfl rfl rfl rfl rfl (fun _ => rname_ok 1 a) ?_
  refine ⟨fun h => no_ft h, fun _ => ?_⟩
  refine ⟨fun h => no_ft h, fun _ => ?_⟩
  refine ⟨fun h => no_ft h, fun _ => ?_⟩
  refine ⟨fun h => no_ft h, fun _ => ?_⟩
  refine ⟨fun h => no_ft h, fun _ => ?_⟩
  refine ⟨fun h => no_ft h, fun _ => ?_⟩
  refine OpC.callV rfl rfl rfl rfl rfl rfl rfl (fun _ => acc_6d dst a b imm loc off ix sz fn pr su to acq wk rel ze (nameF 1 dst) (nameF 1 a) hdl hal ha hq) ?_
  exact rfl
set_option maxHeartbeats 800000 in
theorem tx_6a (dst a b imm loc off ix sz fn pr su to : Int) (wk rel ze : Bool) (lb : List UInt8) (hl : lb.length ≤ 90000) (ha : accB ⟨6, dst, a, b, imm, loc, off, ix, sz, fn, false, wk, rel, pr, su, to, ze⟩ = true)  : CtrV Tryz.prog 76 [.i .i64 1, .agg (ienc ⟨6, dst, a, b, imm, loc, off, ix, sz, fn, false, wk, rel, pr, su, to, ze⟩), .s lb] (.s ([])) := by
  have hdl : (nameF 1 dst).length ≤ 3 := nameF_len 1 dst
  have hal : (nameF 1 a).length ≤ 3 := nameF_len 1 a
  refine Ctr.enterV tabOkF (fn := Tryz.f76) rfl rfl rfl rfl rfl rfl ?_
  refine OpC.callV rfl rfl rfl rfl rfl rfl rfl (fun _ => rname_ok 1 dst) ?_
  refine OpC.callV rfl rfl rfl rfl rfl rfl rfl (fun _ => rname_ok 1 a) ?_
  refine ⟨fun h => no_ft h, fun _ => ?_⟩
  refine ⟨fun h => no_ft h, fun _ => ?_⟩
  refine ⟨fun h => no_ft h, fun _ => ?_⟩
  refine ⟨fun h => no_ft h, fun _ => ?_⟩
  refine ⟨fun h => no_ft h, fun _ => ?_⟩
  refine ⟨fun h => no_ft h, fun _ => ?_⟩
  refine OpC.callV rfl rfl rfl rfl rfl rfl rfl (fun _ => acc_6a dst a b imm loc off ix sz fn pr su to wk rel ze (nameF 1 dst) (nameF 1 a) hdl hal ha ) ?_
  exact rfl
set_option maxHeartbeats 800000 in
theorem tx_6r (dst a b imm loc off ix sz fn pr su to : Int) (wk ze : Bool) (lb : List UInt8) (hl : lb.length ≤ 90000) (ha : accB ⟨6, dst, a, b, imm, loc, off, ix, sz, fn, true, wk, false, pr, su, to, ze⟩ = true)  : CtrV Tryz.prog 76 [.i .i64 1, .agg (ienc ⟨6, dst, a, b, imm, loc, off, ix, sz, fn, true, wk, false, pr, su, to, ze⟩), .s lb] (.s ([])) := by
  have hdl : (nameF 1 dst).length ≤ 3 := nameF_len 1 dst
  have hal : (nameF 1 a).length ≤ 3 := nameF_len 1 a
  refine Ctr.enterV tabOkF (fn := Tryz.f76) rfl rfl rfl rfl rfl rfl ?_
  refine OpC.callV rfl rfl rfl rfl rfl rfl rfl (fun _ => rname_ok 1 dst) ?_
  refine OpC.callV rfl rfl rfl rfl rfl rfl rfl (fun _ => rname_ok 1 a) ?_
  refine ⟨fun h => no_ft h, fun _ => ?_⟩
  refine ⟨fun h => no_ft h, fun _ => ?_⟩
  refine ⟨fun h => no_ft h, fun _ => ?_⟩
  refine ⟨fun h => no_ft h, fun _ => ?_⟩
  refine ⟨fun h => no_ft h, fun _ => ?_⟩
  refine ⟨fun h => no_ft h, fun _ => ?_⟩
  refine OpC.callV rfl rfl rfl rfl rfl rfl rfl (fun _ => acc_6r dst a b imm loc off ix sz fn pr su to wk ze (nameF 1 dst) (nameF 1 a) hdl hal ha ) ?_
  exact rfl
set_option maxHeartbeats 800000 in
theorem tx_6y (dst a b imm loc off ix sz pr su to : Int) (wk ze : Bool) (lb : List UInt8) (hl : lb.length ≤ 90000) (ha : accB ⟨6, dst, a, b, imm, loc, off, ix, sz, 1, true, wk, true, pr, su, to, ze⟩ = true) (hq : dst = a) : CtrV Tryz.prog 76 [.i .i64 1, .agg (ienc ⟨6, dst, a, b, imm, loc, off, ix, sz, 1, true, wk, true, pr, su, to, ze⟩), .s lb] (.s (lineF (([88, 65, 68, 68] : List UInt8) ++ szT 1 sz) [atF (regsL 1) ⟨6, dst, a, b, imm, loc, off, ix, sz, 1, true, wk, true, pr, su, to, ze⟩, nmF (regsL 1) dst])) := by
  have hdl : (nameF 1 dst).length ≤ 3 := nameF_len 1 dst
  have hal : (nameF 1 a).length ≤ 3 := nameF_len 1 a
  refine Ctr.enterV tabOkF (fn := Tryz.f76) rfl rfl rfl rfl rfl rfl ?_
  refine OpC.callV rfl rfl rfl rfl rfl rfl rfl (fun _ => rname_ok 1 dst) ?_
  refine OpC.callV rfl rfl rfl rfl rfl rfl rfl (fun _ => rname_ok 1 a) ?_
  refine ⟨fun h => no_ft h, fun _ => ?_⟩
  refine ⟨fun h => no_ft h, fun _ => ?_⟩
  refine ⟨fun h => no_ft h, fun _ => ?_⟩
  refine ⟨fun h => no_ft h, fun _ => ?_⟩
  refine ⟨fun h => no_ft h, fun _ => ?_⟩
  refine ⟨fun h => no_ft h, fun _ => ?_⟩
  refine OpC.callV rfl rfl rfl rfl rfl rfl rfl (fun _ => acc_6y dst a b imm loc off ix sz pr su to wk ze (nameF 1 dst) (nameF 1 a) hdl hal ha hq) ?_
  exact rfl
set_option maxHeartbeats 800000 in
theorem tx_6x (dst a b imm loc off ix sz pr su to : Int) (wk ze : Bool) (lb : List UInt8) (hl : lb.length ≤ 90000) (ha : accB ⟨6, dst, a, b, imm, loc, off, ix, sz, 6, true, wk, true, pr, su, to, ze⟩ = true) (hq : dst = a) : CtrV Tryz.prog 76 [.i .i64 1, .agg (ienc ⟨6, dst, a, b, imm, loc, off, ix, sz, 6, true, wk, true, pr, su, to, ze⟩), .s lb] (.s (lineF (([88, 67, 72, 71] : List UInt8) ++ szT 1 sz) [nmF (regsL 1) dst, atF (regsL 1) ⟨6, dst, a, b, imm, loc, off, ix, sz, 6, true, wk, true, pr, su, to, ze⟩])) := by
  have hdl : (nameF 1 dst).length ≤ 3 := nameF_len 1 dst
  have hal : (nameF 1 a).length ≤ 3 := nameF_len 1 a
  refine Ctr.enterV tabOkF (fn := Tryz.f76) rfl rfl rfl rfl rfl rfl ?_
  refine OpC.callV rfl rfl rfl rfl rfl rfl rfl (fun _ => rname_ok 1 dst) ?_
  refine OpC.callV rfl rfl rfl rfl rfl rfl rfl (fun _ => rname_ok 1 a) ?_
  refine ⟨fun h => no_ft h, fun _ => ?_⟩
  refine ⟨fun h => no_ft h, fun _ => ?_⟩
  refine ⟨fun h => no_ft h, fun _ => ?_⟩
  refine ⟨fun h => no_ft h, fun _ => ?_⟩
  refine ⟨fun h => no_ft h, fun _ => ?_⟩
  refine ⟨fun h => no_ft h, fun _ => ?_⟩
  refine OpC.callV rfl rfl rfl rfl rfl rfl rfl (fun _ => acc_6x dst a b imm loc off ix sz pr su to wk ze (nameF 1 dst) (nameF 1 a) hdl hal ha hq) ?_
  exact rfl
end SX
end Go.Proofs.YtlgjjklikbpcoaaGreatDoor

/- x86: the program's and the reference's text are one. Printed by xtx.py. -/
set_option linter.unusedVariables false
set_option maxRecDepth 100000
namespace Go.Proofs.YtlgjjklikbpcoaaGreatDoor
namespace SX
open Go Go.Proofs
def xH : List SB := [rowS [82, 65, 88] [82, 66, 88] [82, 67, 88] [82, 68, 88] [82, 83, 73] [82, 68, 73] [82, 56] [82, 57], langB [36] 129 130]
/-- A text that both give. -/
def XBoth (i : In) (lb t : List UInt8) : Prop :=
  Ctr Tryz.prog 130 [.ptr 1 1 0 [], .agg (ienc i), .s lb] xH (fun r h' => r = .tup [.s t, .b (!decide (t = []))] ∧ h' = xH) ∧ CtrV Tryz.prog 76 [.i .i64 1, .agg (ienc i), .s lb] (.s t) ∧ t.length ≤ 100000
theorem XBoth.line {i : In} {lb n : List UInt8} {xs : List (List UInt8)} (hl : (lineF n xs).length ≤ 100000)
    (h1 : Ctr Tryz.prog 130 [.ptr 1 1 0 [], .agg (ienc i), .s lb] xH (fun r h' => r = .tup [.s (lineF n xs), .b true] ∧ h' = xH)) (h2 : CtrV Tryz.prog 76 [.i .i64 1, .agg (ienc i), .s lb] (.s (lineF n xs))) : ∃ t, XBoth i lb t := by
  refine ⟨lineF n xs, ?_, h2, hl⟩
  have hne : lineF n xs ≠ [] := by unfold lineF; simp
  rw [decide_eq_false hne]
  exact h1
theorem XBoth.none {i : In} {lb : List UInt8} (h1 : Ctr Tryz.prog 130 [.ptr 1 1 0 [], .agg (ienc i), .s lb] xH (fun r h' => r = .tup [.s [], .b false] ∧ h' = xH)) (h2 : CtrV Tryz.prog 76 [.i .i64 1, .agg (ienc i), .s lb] (.s [])) : ∃ t, XBoth i lb t :=
  ⟨[], h1, h2, by decide⟩
theorem line_len {n x y : List UInt8} {p q r : Nat} (h1 : n.length ≤ p) (h2 : x.length ≤ q) (h3 : y.length ≤ r) (h4 : p + q + r ≤ 99000) : (lineF n [x, y]).length ≤ 100000 := by
  unfold lineF; rw [join2]; simp; omega
theorem ro_len (r n : Int) (hn : in64 n) : (orF (regsL 1) [36] r n).length ≤ 40 := orF_len (fun n => name_len 1 n) hn (by decide)
theorem x86_both (i : In) (lb : List UInt8) (hf : formP i = true) (hi : in64 i.imm) (hl : lb.length ≤ 90000) : ∃ t, XBoth i lb t := by
  obtain ⟨op, dst, a, b, imm, loc, off, ix, sz, fn, acq, wk, rel, pr, su, to, ze⟩ := i
  have hi : in64 imm := hi
  by_cases h1 : op = 1
  · subst h1
    exact XBoth.line (line_len (p := 8) (by decide) (name_len 1 dst) (ro_len (-1) imm hi) (by decide)) (xp_1 [82, 65, 88] [82, 66, 88] [82, 67, 88] [82, 68, 88] [82, 83, 73] [82, 68, 73] [82, 56] [82, 57] [36] 129 130 (fun n => name_len 1 n) (by decide) dst a b imm loc off ix sz fn pr su to acq wk rel ze lb hi) (tx_1 dst a b imm loc off ix sz fn pr su to acq wk rel ze lb hl hi)
  by_cases h2 : op = 2
  · subst h2
    exact XBoth.line (line_len (p := 8) (by decide) (name_len 1 dst) (name_len 1 a) (by decide)) (xp_2 [82, 65, 88] [82, 66, 88] [82, 67, 88] [82, 68, 88] [82, 83, 73] [82, 68, 73] [82, 56] [82, 57] [36] 129 130 (fun n => name_len 1 n) (by decide) dst a b imm loc off ix sz fn pr su to acq wk rel ze lb ) (tx_2 dst a b imm loc off ix sz fn pr su to acq wk rel ze lb hl )
  by_cases h3 : op = 3
  · subst h3
    have hq : form3 ⟨3, dst, a, b, imm, loc, off, ix, sz, fn, acq, wk, rel, pr, su, to, ze⟩ = true := hf
    have hfn : fn = 1 ∨ fn = 2 ∨ fn = 3 ∨ fn = 4 ∨ fn = 5 := by
      unfold form3 at hq
      split at hq <;> simp only [Bool.and_eq_true, decide_eq_true_eq] at hq <;> omega
    by_cases hd : dst = a
    · rcases hfn with rfl | rfl | rfl | rfl | rfl
      · exact XBoth.line (line_len (p := 8) (by decide) (name_len 1 dst) (ro_len b imm hi) (by decide)) (xp_31 [82, 65, 88] [82, 66, 88] [82, 67, 88] [82, 68, 88] [82, 83, 73] [82, 68, 73] [82, 56] [82, 57] [36] 129 130 (fun n => name_len 1 n) (by decide) dst a b imm loc off ix sz pr su to acq wk rel ze lb hd hi) (tx_3 dst a b imm loc off ix sz 1 pr su to acq wk rel ze lb hl (by decide) hd hi)
      · exact XBoth.line (line_len (p := 8) (by decide) (name_len 1 dst) (ro_len b imm hi) (by decide)) (xp_32 [82, 65, 88] [82, 66, 88] [82, 67, 88] [82, 68, 88] [82, 83, 73] [82, 68, 73] [82, 56] [82, 57] [36] 129 130 (fun n => name_len 1 n) (by decide) dst a b imm loc off ix sz pr su to acq wk rel ze lb hd hi) (tx_3 dst a b imm loc off ix sz 2 pr su to acq wk rel ze lb hl (by decide) hd hi)
      · exact XBoth.line (line_len (p := 8) (by decide) (name_len 1 dst) (ro_len b imm hi) (by decide)) (xp_33 [82, 65, 88] [82, 66, 88] [82, 67, 88] [82, 68, 88] [82, 83, 73] [82, 68, 73] [82, 56] [82, 57] [36] 129 130 (fun n => name_len 1 n) (by decide) dst a b imm loc off ix sz pr su to acq wk rel ze lb hd hi) (tx_3 dst a b imm loc off ix sz 3 pr su to acq wk rel ze lb hl (by decide) hd hi)
      · exact XBoth.line (line_len (p := 8) (by decide) (name_len 1 dst) (ro_len b imm hi) (by decide)) (xp_34 [82, 65, 88] [82, 66, 88] [82, 67, 88] [82, 68, 88] [82, 83, 73] [82, 68, 73] [82, 56] [82, 57] [36] 129 130 (fun n => name_len 1 n) (by decide) dst a b imm loc off ix sz pr su to acq wk rel ze lb hd hi) (tx_3 dst a b imm loc off ix sz 4 pr su to acq wk rel ze lb hl (by decide) hd hi)
      · exact XBoth.line (line_len (p := 8) (by decide) (name_len 1 dst) (ro_len b imm hi) (by decide)) (xp_35 [82, 65, 88] [82, 66, 88] [82, 67, 88] [82, 68, 88] [82, 83, 73] [82, 68, 73] [82, 56] [82, 57] [36] 129 130 (fun n => name_len 1 n) (by decide) dst a b imm loc off ix sz pr su to acq wk rel ze lb hd hi) (tx_3 dst a b imm loc off ix sz 5 pr su to acq wk rel ze lb hl (by decide) hd hi)
    · exact XBoth.none (xp_3n [82, 65, 88] [82, 66, 88] [82, 67, 88] [82, 68, 88] [82, 83, 73] [82, 68, 73] [82, 56] [82, 57] [36] 129 130 (fun n => name_len 1 n) (by decide) dst a b imm loc off ix sz fn pr su to acq wk rel ze lb hd) (tx_3n dst a b imm loc off ix sz fn pr su to acq wk rel ze lb hl hfn hd)
  by_cases h4 : op = 4
  · subst h4
    have hq : form4 ⟨4, dst, a, b, imm, loc, off, ix, sz, fn, acq, wk, rel, pr, su, to, ze⟩ = true := hf
    have ha : accB ⟨4, dst, a, b, imm, loc, off, ix, sz, fn, acq, wk, rel, pr, su, to, ze⟩ = true := by
      unfold form4 at hq
      simp only [Bool.and_eq_true] at hq; exact hq.1.1.2
    cases acq with
    | true => exact XBoth.none (xp_4a [82, 65, 88] [82, 66, 88] [82, 67, 88] [82, 68, 88] [82, 83, 73] [82, 68, 73] [82, 56] [82, 57] [36] 129 130 (fun n => name_len 1 n) (by decide) dst a b imm loc off ix sz fn pr su to wk rel ze lb ) (tx_4a dst a b imm loc off ix sz fn pr su to wk rel ze lb hl ha)
    | false =>
      cases wk with
      | true => exact XBoth.none (xp_4w [82, 65, 88] [82, 66, 88] [82, 67, 88] [82, 68, 88] [82, 83, 73] [82, 68, 73] [82, 56] [82, 57] [36] 129 130 (fun n => name_len 1 n) (by decide) dst a b imm loc off ix sz fn pr su to rel ze lb ) (tx_4w dst a b imm loc off ix sz fn pr su to rel ze lb hl ha)
      | false => exact XBoth.line (line_len (p := 10) (by have := xEnd_len sz; simp; omega) (name_len 1 dst) (atR_len (a := 1) ha) (by decide)) (xp_4 [82, 65, 88] [82, 66, 88] [82, 67, 88] [82, 68, 88] [82, 83, 73] [82, 68, 73] [82, 56] [82, 57] [36] 129 130 (fun n => name_len 1 n) (by decide) dst a b imm loc off ix sz fn pr su to rel ze lb ha) (tx_4 dst a b imm loc off ix sz fn pr su to rel ze lb hl ha)
  by_cases h5 : op = 5
  · subst h5
    have hq : form5 ⟨5, dst, a, b, imm, loc, off, ix, sz, fn, acq, wk, rel, pr, su, to, ze⟩ = true := hf
    have ha : accB ⟨5, dst, a, b, imm, loc, off, ix, sz, fn, acq, wk, rel, pr, su, to, ze⟩ = true := by
      unfold form5 at hq
      split at hq <;> simp only [Bool.and_eq_true] at hq
      · exact hq.1
      · exact hq.1.1
    cases rel with
    | true => exact XBoth.none (xp_5r [82, 65, 88] [82, 66, 88] [82, 67, 88] [82, 68, 88] [82, 83, 73] [82, 68, 73] [82, 56] [82, 57] [36] 129 130 (fun n => name_len 1 n) (by decide) dst a b imm loc off ix sz fn pr su to acq wk ze lb ) (tx_5r dst a b imm loc off ix sz fn pr su to acq wk ze lb hl ha)
    | false => exact XBoth.line (line_len (p := 10) (by have := xEnd_len sz; simp; omega) (atR_len (a := 1) ha) (ro_len a imm hi) (by decide)) (xp_5 [82, 65, 88] [82, 66, 88] [82, 67, 88] [82, 68, 88] [82, 83, 73] [82, 68, 73] [82, 56] [82, 57] [36] 129 130 (fun n => name_len 1 n) (by decide) dst a b imm loc off ix sz fn pr su to acq wk ze lb hi ha) (tx_5 dst a b imm loc off ix sz fn pr su to acq wk ze lb hl ha hi)
  by_cases h6 : op = 6
  · subst h6
    have hq : form6 ⟨6, dst, a, b, imm, loc, off, ix, sz, fn, acq, wk, rel, pr, su, to, ze⟩ = true := hf
    have ha : accB ⟨6, dst, a, b, imm, loc, off, ix, sz, fn, acq, wk, rel, pr, su, to, ze⟩ = true := by
      unfold form6 at hq
      simp only [Bool.and_eq_true] at hq; exact hq.1.1.2
    have hfn : fn = 6 ∨ fn = 1 := by
      unfold form6 at hq
      simp only [Bool.and_eq_true, Bool.or_eq_true, decide_eq_true_eq] at hq
      exact hq.1.2
    by_cases hd : dst = a
    · cases acq with
      | false => exact XBoth.none (xp_6a [82, 65, 88] [82, 66, 88] [82, 67, 88] [82, 68, 88] [82, 83, 73] [82, 68, 73] [82, 56] [82, 57] [36] 129 130 (fun n => name_len 1 n) (by decide) dst a b imm loc off ix sz fn pr su to wk rel ze lb ) (tx_6a dst a b imm loc off ix sz fn pr su to wk rel ze lb hl ha)
      | true =>
        cases rel with
        | false => exact XBoth.none (xp_6r [82, 65, 88] [82, 66, 88] [82, 67, 88] [82, 68, 88] [82, 83, 73] [82, 68, 73] [82, 56] [82, 57] [36] 129 130 (fun n => name_len 1 n) (by decide) dst a b imm loc off ix sz fn pr su to wk ze lb ) (tx_6r dst a b imm loc off ix sz fn pr su to wk ze lb hl ha)
        | true =>
          subst hd
          rcases hfn with rfl | rfl
          · exact XBoth.line (line_len (p := 10) (by have := xEnd_len sz; simp; omega) (name_len 1 dst) (atR_len (a := 1) ha) (by decide)) (xp_6x [82, 65, 88] [82, 66, 88] [82, 67, 88] [82, 68, 88] [82, 83, 73] [82, 68, 73] [82, 56] [82, 57] [36] 129 130 (fun n => name_len 1 n) (by decide) dst dst b imm loc off ix sz pr su to wk ze lb rfl ha) (tx_6x dst dst b imm loc off ix sz pr su to wk ze lb hl ha rfl)
          · exact XBoth.line (line_len (p := 10) (by have := xEnd_len sz; simp; omega) (atR_len (a := 1) ha) (name_len 1 dst) (by decide)) (xp_6y [82, 65, 88] [82, 66, 88] [82, 67, 88] [82, 68, 88] [82, 83, 73] [82, 68, 73] [82, 56] [82, 57] [36] 129 130 (fun n => name_len 1 n) (by decide) dst dst b imm loc off ix sz pr su to wk ze lb rfl ha) (tx_6y dst dst b imm loc off ix sz pr su to wk ze lb hl ha rfl)
    · exact XBoth.none (xp_6d [82, 65, 88] [82, 66, 88] [82, 67, 88] [82, 68, 88] [82, 83, 73] [82, 68, 73] [82, 56] [82, 57] [36] 129 130 (fun n => name_len 1 n) (by decide) dst a b imm loc off ix sz fn pr su to acq wk rel ze lb hd) (tx_6d dst a b imm loc off ix sz fn pr su to acq wk rel ze lb hl ha hd)
  by_cases h7 : op = 7
  · subst h7
    have hq : form7 ⟨7, dst, a, b, imm, loc, off, ix, sz, fn, acq, wk, rel, pr, su, to, ze⟩ = true := hf
    have hps : (pr = 1 ∨ pr = 2 ∨ pr = 3) ∧ (su = 1 ∨ su = 2 ∨ su = 3) := by
      unfold form7 fnB at hq
      simp only [Bool.and_eq_true, decide_eq_true_eq] at hq
      omega
    obtain ⟨hp, hs⟩ := hps
    rcases hp with rfl | rfl | rfl <;> rcases hs with rfl | rfl | rfl
    · exact XBoth.none (xp_711 [82, 65, 88] [82, 66, 88] [82, 67, 88] [82, 68, 88] [82, 83, 73] [82, 68, 73] [82, 56] [82, 57] [36] 129 130 (fun n => name_len 1 n) (by decide) dst a b imm loc off ix sz fn to acq wk rel ze lb) (tx_7 dst a b imm loc off ix sz fn 1 1 to acq wk rel ze lb hl)
    · exact XBoth.none (xp_712 [82, 65, 88] [82, 66, 88] [82, 67, 88] [82, 68, 88] [82, 83, 73] [82, 68, 73] [82, 56] [82, 57] [36] 129 130 (fun n => name_len 1 n) (by decide) dst a b imm loc off ix sz fn to acq wk rel ze lb) (tx_7 dst a b imm loc off ix sz fn 1 2 to acq wk rel ze lb hl)
    · exact XBoth.none (xp_713 [82, 65, 88] [82, 66, 88] [82, 67, 88] [82, 68, 88] [82, 83, 73] [82, 68, 73] [82, 56] [82, 57] [36] 129 130 (fun n => name_len 1 n) (by decide) dst a b imm loc off ix sz fn to acq wk rel ze lb) (tx_7 dst a b imm loc off ix sz fn 1 3 to acq wk rel ze lb hl)
    · exact XBoth.none (xp_721 [82, 65, 88] [82, 66, 88] [82, 67, 88] [82, 68, 88] [82, 83, 73] [82, 68, 73] [82, 56] [82, 57] [36] 129 130 (fun n => name_len 1 n) (by decide) dst a b imm loc off ix sz fn to acq wk rel ze lb) (tx_7 dst a b imm loc off ix sz fn 2 1 to acq wk rel ze lb hl)
    · exact XBoth.none (xp_722 [82, 65, 88] [82, 66, 88] [82, 67, 88] [82, 68, 88] [82, 83, 73] [82, 68, 73] [82, 56] [82, 57] [36] 129 130 (fun n => name_len 1 n) (by decide) dst a b imm loc off ix sz fn to acq wk rel ze lb) (tx_7 dst a b imm loc off ix sz fn 2 2 to acq wk rel ze lb hl)
    · exact XBoth.none (xp_723 [82, 65, 88] [82, 66, 88] [82, 67, 88] [82, 68, 88] [82, 83, 73] [82, 68, 73] [82, 56] [82, 57] [36] 129 130 (fun n => name_len 1 n) (by decide) dst a b imm loc off ix sz fn to acq wk rel ze lb) (tx_7 dst a b imm loc off ix sz fn 2 3 to acq wk rel ze lb hl)
    · exact XBoth.none (xp_731 [82, 65, 88] [82, 66, 88] [82, 67, 88] [82, 68, 88] [82, 83, 73] [82, 68, 73] [82, 56] [82, 57] [36] 129 130 (fun n => name_len 1 n) (by decide) dst a b imm loc off ix sz fn to acq wk rel ze lb) (tx_7 dst a b imm loc off ix sz fn 3 1 to acq wk rel ze lb hl)
    · exact XBoth.none (xp_732 [82, 65, 88] [82, 66, 88] [82, 67, 88] [82, 68, 88] [82, 83, 73] [82, 68, 73] [82, 56] [82, 57] [36] 129 130 (fun n => name_len 1 n) (by decide) dst a b imm loc off ix sz fn to acq wk rel ze lb) (tx_7 dst a b imm loc off ix sz fn 3 2 to acq wk rel ze lb hl)
    · exact ⟨[77, 70, 69, 78, 67, 69], xp_733 [82, 65, 88] [82, 66, 88] [82, 67, 88] [82, 68, 88] [82, 83, 73] [82, 68, 73] [82, 56] [82, 57] [36] 129 130 (fun n => name_len 1 n) (by decide) dst a b imm loc off ix sz fn to acq wk rel ze lb, tx_7 dst a b imm loc off ix sz fn 3 3 to acq wk rel ze lb hl, by decide⟩
  by_cases h8 : op = 8
  · subst h8
    exact XBoth.none (xp_8 [82, 65, 88] [82, 66, 88] [82, 67, 88] [82, 68, 88] [82, 83, 73] [82, 68, 73] [82, 56] [82, 57] [36] 129 130 (fun n => name_len 1 n) (by decide) dst a b imm loc off ix sz fn pr su to acq wk rel ze lb ) (tx_8 dst a b imm loc off ix sz fn pr su to acq wk rel ze lb hl )
  by_cases h9 : op = 9
  · subst h9
    cases ze with
    | true => exact XBoth.line (line_len (p := 8) (by decide) (name_len 1 a) hl (by decide)) (xp_9z [82, 65, 88] [82, 66, 88] [82, 67, 88] [82, 68, 88] [82, 83, 73] [82, 68, 73] [82, 56] [82, 57] [36] 129 130 (fun n => name_len 1 n) (by decide) dst a b imm loc off ix sz fn pr su to acq wk rel lb hl) (tx_9 dst a b imm loc off ix sz fn pr su to acq wk rel true lb hl )
    | false => exact XBoth.line (line_len (p := 8) (by decide) (name_len 1 a) hl (by decide)) (xp_9n [82, 65, 88] [82, 66, 88] [82, 67, 88] [82, 68, 88] [82, 83, 73] [82, 68, 73] [82, 56] [82, 57] [36] 129 130 (fun n => name_len 1 n) (by decide) dst a b imm loc off ix sz fn pr su to acq wk rel lb hl) (tx_9 dst a b imm loc off ix sz fn pr su to acq wk rel false lb hl )
  unfold formP at hf
  simp only [if_neg h1, if_neg h2, if_neg h3, if_neg h4, if_neg h5, if_neg h6, if_neg h7, if_neg h8, if_neg h9] at hf
  cases hf
end SX
end Go.Proofs.YtlgjjklikbpcoaaGreatDoor

/- x86: print and its reference answer alike. -/
set_option linter.unusedVariables false
set_option maxRecDepth 100000
namespace Go.Proofs.YtlgjjklikbpcoaaGreatDoor
namespace SX
open Go Go.Proofs
theorem rgt_no {i : In} {lo hi : Int} (h : formP i = false) : rgtF i lo hi = 34 := by unfold rgtF; rw [h]; rfl
theorem rgt_yes {i : In} {lo hi : Int} (h : formP i = true) : rgtF i lo hi = if toX i lo hi = true then 35 else 0 := by unfold rgtF; rw [h]; rfl
/-- What is answered: a text, an error's number. -/
def ansF (i : In) (lb t : List UInt8) : SV :=
  if formP i = false then .tup [.s [], .i .i64 34] else if t = [] then .tup [.s [], .i .i64 36] else if i.op = 9 ∧ namedF lb = false then .tup [.s [], .i .i64 37] else .tup [.s t, .i .i64 0]
theorem ansF_any {p : SV → Prop} {i : In} {lb t : List UInt8} (h : ∀ (x : List UInt8) (n : Int), p (.tup [.s x, .i .i64 n])) : p (ansF i lb t) := by
  unfold ansF
  split
  · exact h _ _
  · split
    · exact h _ _
    · split <;> exact h _ _
set_option maxHeartbeats 1000000 in
theorem ltext_ok (i : In) (lb t : List UInt8) (hb : formP i = true → XBoth i lb t) : Ctr Tryz.prog 75 [.ptr 1 1 0 [], .agg (ienc i), .s lb] xH (fun r h' => r = ansF i lb t ∧ h' = xH) := by
  refine Ctr.enterG tabOkF (fn := Tryz.f75) rfl rfl rfl rfl rfl (ansF_any fun _ _ => rfl) bndLang ?_
  refine OpC.callV rfl rfl rfl rfl rfl rfl rfl (fun _ => uright_ok i 0 1) ?_
  unfold ansF
  cases hf : formP i with
  | false =>
    refine ⟨fun _ => ⟨rfl, _, rfl⟩, fun h => absurd (rgt_no hf) (of_decide_eq_false h)⟩
  | true =>
    have hb := hb hf
    refine ⟨fun h => ?_, fun _ => ?_⟩
    · have h : rgtF i 0 1 = 34 := of_decide_eq_true h
      rw [rgt_yes hf] at h
      split at h <;> omega
    refine WpC.dr tabOkF mixed 0 ?_
    refine OpD.callG [0, 1] rfl rfl rfl rfl rfl rfl (r := .tup [.s t, .b (!decide (t = []))]) (fun _ H1 hH => Ctr.spread hb.1 (fun ρ => rfl) H1 [0, 1] rfl rfl ⟨hH 0 (by simp), hH 1 (by simp), trivial⟩ rfl) ?_
    refine ⟨by kernel_rfl, ?_⟩
    rw [if_neg (by decide)]
    refine ⟨fun h => ?_, fun h => ?_⟩
    · have h : (!(!decide (t = []))) = true := h
      have h : t = [] := by simpa using h
      rw [if_pos h]
      exact ⟨rfl, _, rfl⟩
    · have h : (!(!decide (t = []))) = false := h
      have h : ¬ t = [] := by simpa using h
      rw [if_neg h]
      refine OpC.callV rfl rfl rfl rfl rfl rfl rfl (fun _ => named_ok lb) ?_
      refine ⟨fun h2 => ?_, fun h2 => ?_⟩
      · have h2 : (decide (i.op = 9) && !namedF lb) = true := h2
        rw [if_pos (by simpa using h2)]
        exact ⟨rfl, _, rfl⟩
      · have h2 : (decide (i.op = 9) && !namedF lb) = false := h2
        rw [if_neg (by intro hh; rw [hh.2, decide_eq_true hh.1] at h2; cases h2)]
        exact ⟨rfl, _, rfl⟩
set_option maxHeartbeats 1000000 in
theorem rprint_ok (i : In) (lb t : List UInt8) (hb : formP i = true → CtrV Tryz.prog 76 [.i .i64 1, .agg (ienc i), .s lb] (.s t)) (ho : CtrV Tryz.prog 77 [.s lb] (.b (namedF lb))) :
    CtrV Tryz.prog 24 [.i .i64 1, .agg (ienc i), .s lb] (ansF i lb t) := by
  have hend : ∀ j : In, formP j = formP i → (rgtF j 0 1 = 34 ∨ rgtF j 0 1 = 0) → rgtF j 0 1 = if formP i = true then 0 else 34 := by
    intro j hj hr
    cases hf : formP i with
    | false => exact rgt_no (hj.trans hf)
    | true =>
      rw [rgt_yes (hj.trans hf)] at hr ⊢
      split at hr
      · omega
      · rename_i h; rw [if_neg h]; rfl
  refine Ctr.enterV tabOkF (fn := Tryz.f24) rfl rfl rfl rfl rfl (ansF_any (p := fun r => nm r = true) fun _ _ => rfl) ?_
  refine ⟨fun h9 => ?_, fun h9 => ?_⟩
  · have h9 : i.op = 9 := of_decide_eq_true h9
    have hj : formP { i with to := 1 } = formP i := by
      obtain ⟨op, dst, a, b, imm, loc, off, ix, sz, fn, acq, wk, rel, pr, su, to, ze⟩ := i
      simp only at h9; subst h9
      show form9 _ = form9 _
      unfold form9 eqI
      simp
    have hr := hend { i with to := 1 } hj (by unfold rgtF toX; cases formP { i with to := 1 } <;> simp)
    refine OpC.callV rfl rfl rfl rfl rfl rfl rfl (fun _ => rright3_ok { i with to := 1 } 0 1) ?_
    unfold ansF
    cases hf : formP i with
    | false =>
      rw [hf] at hr
      refine ⟨fun _ => rfl, fun h => ?_⟩
      have h : (!decide (rgtF { i with to := 1 } 0 1 = 0)) = false := h
      rw [hr] at h
      exact absurd h (by decide)
    | true =>
      rw [hf] at hr
      have hb := hb hf
      refine ⟨fun h => ?_, fun _ => ?_⟩
      · have h : (!decide (rgtF { i with to := 1 } 0 1 = 0)) = true := h
        rw [hr] at h
        exact absurd h (by decide)
      refine OpC.callV rfl rfl rfl rfl rfl rfl rfl (fun _ => hb) ?_
      rw [if_neg (by decide)]
      refine ⟨fun h => ?_, fun h => ?_⟩
      · have h : t = [] := of_decide_eq_true h
        rw [if_pos h]
        exact rfl
      · have h : ¬ t = [] := of_decide_eq_false h
        rw [if_neg h]
        refine OpC.callV rfl rfl rfl rfl rfl rfl rfl (fun _ => ho) ?_
        refine ⟨fun h2 => ?_, fun h2 => ?_⟩
        · have h2 : (decide (i.op = 9) && !namedF lb) = true := h2
          rw [if_pos (by simpa using h2)]
          exact rfl
        · have h2 : (decide (i.op = 9) && !namedF lb) = false := h2
          rw [if_neg (by intro hh; rw [hh.2, decide_eq_true hh.1] at h2; cases h2)]
          exact rfl
  · have h9 : ¬ i.op = 9 := of_decide_eq_false h9
    have hr := hend i rfl (by unfold rgtF toX; rw [decide_eq_false h9]; cases formP i <;> simp)
    refine OpC.callV rfl rfl rfl rfl rfl rfl rfl (fun _ => rright3_ok i 0 1) ?_
    unfold ansF
    cases hf : formP i with
    | false =>
      rw [hf] at hr
      refine ⟨fun _ => rfl, fun h => ?_⟩
      have h : (!decide (rgtF i 0 1 = 0)) = false := h
      rw [hr] at h
      exact absurd h (by decide)
    | true =>
      rw [hf] at hr
      have hb := hb hf
      refine ⟨fun h => ?_, fun _ => ?_⟩
      · have h : (!decide (rgtF i 0 1 = 0)) = true := h
        rw [hr] at h
        exact absurd h (by decide)
      refine OpC.callV rfl rfl rfl rfl rfl rfl rfl (fun _ => hb) ?_
      rw [if_neg (by decide)]
      refine ⟨fun h => ?_, fun h => ?_⟩
      · have h : t = [] := of_decide_eq_true h
        rw [if_pos h]
        exact rfl
      · have h : ¬ t = [] := of_decide_eq_false h
        rw [if_neg h]
        refine OpC.callV rfl rfl rfl rfl rfl rfl rfl (fun _ => ho) ?_
        refine ⟨fun h2 => ?_, fun h2 => ?_⟩
        · have h2 : (decide (i.op = 9) && !namedF lb) = true := h2
          rw [if_pos (by simpa using h2)]
          exact rfl
        · have h2 : (decide (i.op = 9) && !namedF lb) = false := h2
          rw [if_neg (by intro hh; rw [hh.2, decide_eq_true hh.1] at h2; cases h2)]
          exact rfl
end SX
end Go.Proofs.YtlgjjklikbpcoaaGreatDoor
