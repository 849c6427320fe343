/- A part of SX: symbolic and concrete runs of the program, with contracts of functions; lemmas without further conditions. -/
import Derived.Lib.LaidTab
import Derived.Sort.Grow
import Derived.Deep.Draws
import Derived.Below
import Derived.Shelf.Strconv.Itoa3
import Derived.Lib.ItoaLen
import Derived.Lib.ConvBytes
import Derived.Test.YthkedcneehdinaaGreatDoorRows
import Derived.Shelf.Vars
import Derived.IntWalk
import Derived.Lib.Index
import Derived.Shelf.Strings.OnBuilder
import Derived.Shelf.Strings.Search3
import Derived.Shelf.Small.Strs
import Derived.Shelf.Pu.ToError
import Derived.Lib.IndexMore
import Derived.Lib.IndexBytes
import Derived.Test.YthkedcneehdinaaGreatDoorPF
set_option linter.unusedVariables false
set_option linter.unusedSimpArgs false
set_option linter.unusedSectionVars false
/- SX: append onto a row's first elements, so many as a number says. -/
set_option linter.unusedVariables false
set_option linter.unusedSimpArgs false
namespace Go.Proofs.YthkedcneehdinaaGreatDoor
namespace SX
open Go
section
variable {P : Program} {T : Tb} {ops : Array Oper} {o : Oper}
end
end SX
end Go.Proofs.YthkedcneehdinaaGreatDoor

/- SX: a contract of the kit's that lets the world grow, as one of SX. -/
set_option linter.unusedVariables false
set_option linter.unusedSimpArgs false
namespace Go.Proofs.YthkedcneehdinaaGreatDoor
namespace SX
open Go Go.Proofs Go.Sort
theorem Rel.tabs {E C m H w} (h : Rel E C m H w) : TabsIn w := h.mf.2.mono h.im
theorem Rel.grown {E C m w} (h : Rel E C m [] w) (k : Nat) (os : Array Obj) : Rel E C m [] (Sort.grow (w.drewN k) os) := by
  refine ⟨h.os, h.tape, ⟨h.output.1, h.output.2.trans (Nat.le_add_right _ _)⟩, fun b o hb => ?_, fun b o hb => ?_, h.mf, fun k B hB => by simp at hB, fun k v hv => (Vle_nil hv).elim, ?_, ?_⟩
  · have h1 := h.im b o hb
    show (w.heap ++ os)[b]? = some o
    rw [Array.getElem?_append_left (size_of_heap h1)]; exact h1
  · have h1 := h.fr b o hb
    show (w.heap ++ os)[b]? = some o
    rw [Array.getElem?_append_left (size_of_heap h1)]; exact h1
  · rintro k b ⟨B, hB, _⟩; simp at hB
  · rintro j k b ⟨B, hB, _⟩; simp at hB
/-- Below what was there the world is as it was. -/
theorem Rel.below {E C m H w w'} (hd : drKeep = false) (h : Rel E C m H w) (hb : Go.RowKit.Below w.heap.size w w') : Rel E C m H w' := by
  have hk : ∀ b o, w.heap[b]? = some o → w'.heap[b]? = some o := fun b o hbo => by rw [hb.block b (size_of_heap hbo)]; exact hbo
  refine ⟨hb.os.trans h.os, hb.tape.trans h.tape, ⟨hb.output.trans h.output.1, fun e => by rw [hd] at e; cases e⟩, fun b o hbo => hk b o (h.im b o hbo), fun b o hbo => hk b o (h.fr b o hbo), h.mf, fun k B hB => ?_, h.nn, h.sp, h.inj⟩
  refine (h.bl k B hB).mono (.refl ..) (fun _ _ => rfl) fun b hbk => ?_
  obtain ⟨o, ho⟩ := (h.bl k B hB).block hB b ⟨B, hB, hbk⟩
  rw [hk b o ho, ho]
theorem Ctr.of_below {P : Program} (hd : drKeep = false) {f : FuncId} {fn : Func} {c : Code} (hf : P.funcs[f]? = some fn) (hb : fn.body = some c) (hnm : (fn.name == "runtime.NumGoroutine") = false) {args : List SV} {H : List SB} {r : SV} (hok : ∀ m, Ok m (vers H) r) (hl : live r = true)
    (h : ∀ C E m w, Rel E C m H w → OkA m (vers H) args → Calls P f (denL E args).toArray w (fun e w' => e = .returned (den E r) ∧ Go.RowKit.Below w.heap.size w w')) : Ctr P f args H (fun r' h => r' = r ∧ h = H) := by
  refine ⟨fun C E m w hr ha => ?_⟩
  have hrun : (callFunc f (denL E args).toArray).run P w = .ok (.enter f (denL E args).toArray) w := by
    have h1 : fn.name ≠ "runtime.NumGoroutine" := by simpa using hnm
    simp [callFunc, hf, h1, hb]
  unfold callX
  rw [hrun]
  refine (h C E m w hr ha).mono ?_
  rintro e w' ⟨rfl, hw⟩
  exact ⟨_, rfl, r, H, E, m, rfl, ⟨rfl, rfl⟩, ⟨hok m, hl⟩, .refl .., hr.below hd hw⟩
theorem CtrV.of_grow {P : Program} {f : FuncId} {fn : Func} {c : Code} (hf : P.funcs[f]? = some fn) (hb : fn.body = some c) (hnm : (fn.name == "runtime.NumGoroutine") = false) {args : List SV} {r : SV} (hok : ∀ m, Ok m [] r) (hl : live r = true)
    (h : ∀ w, TabsIn w → ∀ E m, OkA m [] args → Calls P f (denL E args).toArray w (fun e w' => e = .returned (den E r) ∧ ∃ k os, w' = grow (w.drewN k) os)) : CtrV P f args r := by
  refine ⟨fun C E m w hr ha => ?_⟩
  have hrun : (callFunc f (denL E args).toArray).run P w = .ok (.enter f (denL E args).toArray) w := by
    have h1 : fn.name ≠ "runtime.NumGoroutine" := by simpa using hnm
    simp [callFunc, hf, h1, hb]
  unfold callX
  rw [hrun]
  refine (h w hr.tabs E m ha).mono ?_
  rintro e w' ⟨rfl, k, os, rfl⟩
  exact ⟨_, rfl, r, [], E, m, rfl, ⟨rfl, rfl⟩, ⟨hok m, hl⟩, .refl .., hr.grown k os⟩
end SX
end Go.Proofs.YthkedcneehdinaaGreatDoor

/- strconv.Itoa: its contract, and the reference's Digits. -/
set_option linter.unusedVariables false
set_option maxRecDepth 100000
namespace Go.Proofs.YthkedcneehdinaaGreatDoor
namespace SX
open Go Go.Proofs
end SX
end Go.Proofs.YthkedcneehdinaaGreatDoor

/- SX: []byte(string): a row that stays. -/
set_option linter.unusedVariables false
set_option linter.unusedSimpArgs false
namespace Go.Proofs.YthkedcneehdinaaGreatDoor
namespace SX
open Go
def byE (c : UInt8) : List SV := [.i .u8 (c.toNat : Int)]
section
variable {P : Program} {T : Tb} {ops : Array Oper} {o : Oper}
theorem OpC.bytes (hT : TabOk P T) {K : St → Prop} {t : List SV} {h : List SB} {src dst : TypeId} {x : Operand} (hop : o.op = .convert src dst x) (hg : guardOf ops t o = some []) {s : List UInt8} (hx : evG [] t x = .s s) {ts td te : TI} {e : TypeId}
    (h1 : T src = some ts) (h2 : ts.k = .str) (h3 : T dst = some td) (h4 : td.k = .slice e) (h5 : T e = some te) (h6 : te.k = .int .u8) (hK : ∀ ad cap, putK t h o.dst (.imm UInt8 0 1 byE s (some ad) cap) K) : OpC P T ops o K ⟨t, h⟩ := by
  refine ⟨fun C E m a w hr => ?_⟩
  have hwant : Region.wanted o (yielded ops a.tmps) = true := by simp [Region.wanted, guard_none hg]
  unfold opW
  rw [hwant, if_pos rfl]
  obtain ⟨g1, g2⟩ := (hr.evs .nil).live (o := x) (by rw [hx]; rfl)
  rw [hx] at g2
  have hxv : a.eval x = .string ⟨⟨s⟩⟩ := by rw [g2]; simp [den_v]
  have hs := (hT.ti src ts h1).str h2
  have hd := (hT.ti dst td h3).slice h4
  have he := TiOk.int_und (hT.ti e te h5) h6
  have hrun := Lib.run_convert_string_bytes w src dst e ⟨⟨s⟩⟩ hs hd he
  simp only [Oper.wp, execOp, hop, hxv, Sem.run_bind, hrun, Result.andThen_ok, Sem.run_pure, Oper.upon]
  have hfresh : ∀ b o', w.heap[b]? = some o' → b < w.heap.size := fun b o' hb => size_of_heap hb
  have hmn : m w.heap.size = none := by
    cases hm : m w.heap.size with
    | none => rfl
    | some o' => have := hfresh _ _ (hr.rel.im _ _ hm); omega
  have hFn : C.F w.heap.size = none := by
    cases hm : C.F w.heap.size with
    | none => rfl
    | some o' => have := hfresh _ _ (hr.rel.fr _ _ hm); omega
  have hm1 : ∀ b o', m b = some o' → (fun b => if b = w.heap.size then some (.cells (Lib.bytesCells w e ⟨⟨s⟩⟩) e ((Lib.bytesCells w e ⟨⟨s⟩⟩).size, (Lib.bytesCells w e ⟨⟨s⟩⟩).size + 1)) else m b) b = some o' := fun b o' hb => by
    have : b ≠ w.heap.size := fun e => by subst e; rw [hmn] at hb; cases hb
    simp only [if_neg this]; exact hb
  have hx' : Ext E m (vers h) E (fun b => if b = w.heap.size then some (.cells (Lib.bytesCells w e ⟨⟨s⟩⟩) e ((Lib.bytesCells w e ⟨⟨s⟩⟩).size, (Lib.bytesCells w e ⟨⟨s⟩⟩).size + 1)) else m b) (vers h) := ⟨hm1, fun _ _ h => h, fun _ _ _ => rfl⟩
  have hold : ∀ b o', w.heap[b]? = some o' → (Lib.bytesWorld w e ⟨⟨s⟩⟩).heap[b]? = some o' := fun b o' hb => by rw [Lib.bytesWorld_at_old _ _ _ _ (hfresh _ _ hb)]; exact hb
  have hos : (Lib.bytesWorld w e ⟨⟨s⟩⟩).os = w.os ∧ (Lib.bytesWorld w e ⟨⟨s⟩⟩).tape = w.tape ∧ (Lib.bytesWorld w e ⟨⟨s⟩⟩).output = w.output ∧ w.drawn ≤ (Lib.bytesWorld w e ⟨⟨s⟩⟩).drawn := by
    simp [Lib.bytesWorld, World.freeze, World.alloc, World.drew, -World.alloc_eq, -World.drew_eq]
  have hrel : Rel E C (fun b => if b = w.heap.size then some (.cells (Lib.bytesCells w e ⟨⟨s⟩⟩) e ((Lib.bytesCells w e ⟨⟨s⟩⟩).size, (Lib.bytesCells w e ⟨⟨s⟩⟩).size + 1)) else m b) h (Lib.bytesWorld w e ⟨⟨s⟩⟩) := by
    refine ⟨hos.1.trans hr.rel.os, hos.2.1.trans hr.rel.tape, ⟨hos.2.2.1.trans hr.rel.output.1, hr.rel.output.2.trans hos.2.2.2⟩, fun b o' hb => ?_, fun b o' hb => hold b o' (hr.rel.fr b o' hb), ⟨fun b o' hb => ?_, hr.rel.mf.2.mono hm1⟩, fun k B hB => ?_, hr.rel.nn, fun k b hb => ?_, hr.rel.inj⟩
    · by_cases hbs : b = w.heap.size
      · subst hbs; simp only [if_true] at hb; cases hb; exact Lib.bytesWorld_at_new w e ⟨⟨s⟩⟩
      · simp only [if_neg hbs] at hb; exact hold b o' (hr.rel.im b o' hb)
    · have : b ≠ w.heap.size := fun e => by subst e; rw [hFn] at hb; cases hb
      simp only [if_neg this]; exact hr.rel.mf.1 b o' hb
    · refine (hr.rel.bl k B hB).mono hx' (fun _ _ => rfl) fun b hb => ?_
      obtain ⟨o', ho'⟩ := (hr.rel.bl k B hB).block hB b ⟨B, hB, hb⟩
      rw [hold b o' ho', ho']
    · have := hr.rel.sp k b hb
      obtain ⟨B, hB, hb'⟩ := id hb
      obtain ⟨o', ho'⟩ := (hr.rel.bl k B hB).block hB b hb
      have hne : b ≠ w.heap.size := fun e => by have := hfresh _ _ ho'; omega
      simp only [if_neg hne]; exact this
  have hcap : s.length ≤ grownCap w (⟨⟨s⟩⟩ : ByteArray).size 0 e := by
    have := grownCap_ge w (⟨⟨s⟩⟩ : ByteArray).size 0 e
    exact this
  have hk := hK ⟨w.heap.size, 0, none⟩ (grownCap w (⟨⟨s⟩⟩ : ByteArray).size 0 e)
  rw [putK_eq] at hk
  refine ⟨E, _, _, hk, hx', ?_⟩
  refine (hr.up hx' hrel).putG (o := o) (p := []) .nil (x := .imm UInt8 0 1 byE s (some ⟨w.heap.size, 0, none⟩) (grownCap w (⟨⟨s⟩⟩ : ByteArray).size 0 e)) (v := .slice (some ⟨w.heap.size, 0, none⟩) s.length (grownCap w (⟨⟨s⟩⟩ : ByteArray).size 0 e)) (fun _ => .inr ⟨⟨?_, rfl⟩, by simp [den, wrapV, cells]⟩) (fun h => by cases h)
  simp only [Ok]
  refine ⟨hcap, fun hne => ⟨_, Lib.bytesCells w e ⟨⟨s⟩⟩, e, _, rfl, rfl, if_pos rfl, fun j hj u c hu => ?_⟩, fun _ => rfl, fun j hj => by simp [byE, OkL, Ok, isUnit]⟩
  have hu0 : u = 0 := by
    cases u with
    | zero => rfl
    | succ u => simp [byE, cellsL, cells] at hu
  subst hu0
  have hc : c = .int .u8 ((s.getD j 0).toNat : Int) := by simpa [byE, cellsL, cells] using hu.symm
  subst hc
  simp only [Nat.zero_add, Nat.mul_one, Nat.add_zero]
  unfold Lib.bytesCells
  rw [Array.getElem?_append_left (by simpa using hj)]
  simp [List.getD_eq_getElem?_getD, List.getElem?_eq_getElem hj, hj]
end
end SX
end Go.Proofs.YthkedcneehdinaaGreatDoor

/- SX: from what a row lists to the tables in the world. -/
set_option maxRecDepth 100000
namespace Go.Proofs.YthkedcneehdinaaGreatDoor
namespace SX
open Go Go.Proofs
theorem tabsIn_row {laid : List (String × DataW Unit)} {W : World} (h : laidMetH Tryz.prog laid W) (hf : (laid.filter fun x => x.2.handleName?.isSome) = []) (hsh : W.ShapedOpen Tryz.prog)
    {n6 n7 n5 n4 n3 n0 : String} (h6 : (n6, Rows.laid_math_bits_deBruijn32tab) ∈ laid) (h7 : (n7, Rows.laid_math_bits_deBruijn64tab) ∈ laid) (h5 : (n5, Rows.laid_internal_strconv_uint64pow10) ∈ laid) (h4 : (n4, Rows.laid_strconv_ErrRange) ∈ laid) (h3 : (n3, Rows.laid_strconv_ErrSyntax) ∈ laid) (h0 : (n0, Rows.laid_strings_asciiSpace) ∈ laid) (g6 : Tryz.prog.globalNamed n6 = some 6) (g7 : Tryz.prog.globalNamed n7 = some 7) (g5 : Tryz.prog.globalNamed n5 = some 5) (g4 : Tryz.prog.globalNamed n4 = some 4) (g3 : Tryz.prog.globalNamed n3 = some 3) (g0 : Tryz.prog.globalNamed n0 = some 0) : TabsIn W := by
  refine tabsIn_of hf h fun g v hg => ?_
  unfold tabs at hg
  cases c0 : Nat.beq g 6 with
  | true =>
    rw [c0] at hg
    cases hg
    obtain rfl := Nat.eq_of_beq_eq_true c0
    exact .inl ⟨_, 277, _, 5, h6, g6, by kernel_rfl, Tryz.underlying277, Tryz.underlying5, by kernel_rfl, by kernel_rfl⟩
  | false =>
  rw [c0] at hg
  simp only [cond_false] at hg
  cases c1 : Nat.beq g 7 with
  | true =>
    rw [c1] at hg
    cases hg
    obtain rfl := Nat.eq_of_beq_eq_true c1
    exact .inl ⟨_, 278, _, 5, h7, g7, by kernel_rfl, Tryz.underlying278, Tryz.underlying5, by kernel_rfl, by kernel_rfl⟩
  | false =>
  rw [c1] at hg
  simp only [cond_false] at hg
  cases c2 : Nat.beq g 5 with
  | true =>
    rw [c2] at hg
    cases hg
    obtain rfl := Nat.eq_of_beq_eq_true c2
    exact .inl ⟨_, 259, _, 125, h5, g5, by kernel_rfl, Tryz.underlying259, Tryz.underlying125, by kernel_rfl, by kernel_rfl⟩
  | false =>
  rw [c2] at hg
  simp only [cond_false] at hg
  cases c3 : Nat.beq g 4 with
  | true =>
    rw [c3] at hg
    cases hg
    obtain rfl := Nat.eq_of_beq_eq_true c3
    exact .inl ⟨_, 127, _, _, _, h4, g4, by kernel_rfl, Tryz.underlying127⟩
  | false =>
  rw [c3] at hg
  simp only [cond_false] at hg
  cases c4 : Nat.beq g 3 with
  | true =>
    rw [c4] at hg
    cases hg
    obtain rfl := Nat.eq_of_beq_eq_true c4
    exact .inl ⟨_, 127, _, _, _, h3, g3, by kernel_rfl, Tryz.underlying127⟩
  | false =>
  rw [c4] at hg
  simp only [cond_false] at hg
  cases c5 : Nat.beq g 0 with
  | true =>
    rw [c5] at hg
    cases hg
    obtain rfl := Nat.eq_of_beq_eq_true c5
    exact .inl ⟨_, 163, _, 5, h0, g0, by kernel_rfl, Tryz.underlying163, Tryz.underlying5, by kernel_rfl, by kernel_rfl⟩
  | false =>
  rw [c5] at hg
  simp only [cond_false] at hg
  cases c6 : Nat.beq g 1 with
  | true =>
    rw [c6] at hg
    cases hg
    obtain rfl := Nat.eq_of_beq_eq_true c6
    exact .inr (anyI_at (cell_of_shapedOpen_int (zero := #[.int .i64 0]) (t := 3) hsh (of_decide_eq_true (by kernel_rfl)) (by kernel_rfl) rfl (by kernel_rfl) (by kernel_rfl) Tryz.underlying3))
  | false =>
  rw [c6] at hg
  simp only [cond_false] at hg
  cases hg
end SX
end Go.Proofs.YthkedcneehdinaaGreatDoor

/- Words of a text, plain. -/
set_option linter.unusedVariables false
namespace Go.Proofs.YthkedcneehdinaaGreatDoor
namespace SX
open Go Go.Proofs
def letB (n : Int) : Bool := (decide (97 ≤ n) && decide (n ≤ 122)) || (decide (65 ≤ n) && decide (n ≤ 90))
def digB (n : Int) : Bool := decide (48 ≤ n) && decide (n ≤ 57)
def numB (n : Int) : Bool := letB n || digB n
def namB (n : Int) : Bool := ((letB n || digB n) || decide (n = 95)) || decide (n = 46)
def cd (s : List UInt8) (k : Nat) : Int := ((s.getD k 0).toNat : Int)
/-- How many of the first bytes are of a kind. -/
def rowF (p : Int → Bool) : List UInt8 → Nat
  | [] => 0
  | c :: r => if p (c.toNat : Int) then rowF p r + 1 else 0
theorem rowF_le (p : Int → Bool) : ∀ s : List UInt8, rowF p s ≤ s.length
  | [] => Nat.le_refl _
  | c :: r => by
    have := rowF_le p r
    simp only [rowF, List.length_cons]
    split <;> omega
theorem rowF_at (p : Int → Bool) : ∀ (k : Nat) (s : List UInt8), k ≤ s.length → (∀ j, j < k → p (cd s j) = true) → (k = s.length ∨ p (cd s k) = false) → rowF p s = k
  | 0, [], _, _, _ => rfl
  | 0, c :: r, _, _, h => by
    rcases h with h | h
    · simp at h
    · have h : p (c.toNat : Int) = false := h
      simp only [rowF, h]; rfl
  | k + 1, [], h, _, _ => by simp at h
  | k + 1, c :: r, h1, h2, h3 => by
    have h0 : p (c.toNat : Int) = true := h2 0 (by omega)
    simp only [rowF, h0, if_true]
    congr 1
    refine rowF_at p k r (by simpa using h1) (fun j hj => h2 (j + 1) (by omega)) ?_
    rcases h3 with h3 | h3
    · left; simpa using h3
    · right; exact h3
theorem rowF_all (p : Int → Bool) : ∀ (s : List UInt8), ∀ c ∈ s.take (rowF p s), p (c.toNat : Int) = true
  | [], c, h => by simp at h
  | x :: r, c, h => by
    simp only [rowF] at h
    split at h
    · rename_i hx
      rw [List.take_succ_cons] at h
      rcases List.mem_cons.1 h with rfl | h
      · exact hx
      · exact rowF_all p r c h
    · simp at h
theorem rowF_pos {p : Int → Bool} {s : List UInt8} (h : s ≠ []) (h0 : p (cd s 0) = true) : 0 < rowF p s := by
  match s, h with
  | c :: r, _ =>
    have h0 : p (c.toNat : Int) = true := h0
    simp only [rowF, h0, if_true]; omega
/-- Begins a text with another one? -/
def pre (s p : List UInt8) : Bool := decide ((p.length : Int) ≤ s.length) && decide ((s.take p.length).drop 0 = p)
/-- A word. -/
structure Tk where
  k : Int
  s : List UInt8
  n : Int
  a : Int
  deriving DecidableEq
def tk0 : Tk := ⟨0, [], 0, 0⟩
def tkenc (t : Tk) : List SV := [.i .i64 t.k, .s t.s, .i .i64 t.n, .i .i64 t.a]
/-- A digit's value. -/
def digV (c : Nat) : Nat := if 48 ≤ c ∧ c ≤ 57 then c - 48 else if 97 ≤ c ∧ c ≤ 122 then c - 87 else if 65 ≤ c ∧ c ≤ 90 then c - 55 else 99
/-- The value of digits of a base; none: one is no digit of it. -/
def valB (b : Nat) : List UInt8 → Nat → Option Nat
  | [], n => some n
  | c :: r, n => if digV c.toNat < b then valB b r (n * b + digV c.toNat) else none
def hexB (w : List UInt8) : Bool := pre w [48, 120]
def numDs (w : List UInt8) : List UInt8 := if hexB w then w.drop 2 else w
def numBase (w : List UInt8) : Nat := if hexB w then 16 else 10
def numMost (w : List UInt8) : Nat := if hexB w then 16 else 19
/-- The value of a number's text. -/
def numF (w : List UInt8) : Option Nat :=
  if numMost w < (numDs w).length then none else if numDs w = [] then none else
    match valB (numBase w) (numDs w) 0 with
    | none => none
    | some n => if n ≤ 9223372036854775808 then some n else none
def marksL : List UInt8 := [123, 125, 40, 41, 91, 93, 59, 124, 44, 58, 61, 43, 45, 35, 36, 126, 42, 47, 92, 38, 63, 94]
inductive Sp where
  | skip (n : Nat)
  | tok (t : Tk)
  | err (e : Int)
/-- What stands at the beginning of a text. -/
def stepF (s : List UInt8) (at' : Nat) : Sp :=
  if decide (cd s 0 = 32) || decide (cd s 0 = 9) || decide (cd s 0 = 10) then .skip 1
  else if pre s [40, 42] then (if Lib.index (s.drop 2) [42, 41] < 0 then .err 24 else .skip ((Lib.index (s.drop 2) [42, 41]).toNat + 4))
  else if digB (cd s 0) then (match numF (s.take (rowF numB s)) with
    | none => .err 23
    | some n => .tok ⟨2, s.take (rowF numB s), IntKind.i64.wrap n, at'⟩)
  else if letB (cd s 0) || decide (cd s 0 = 95) then .tok ⟨1, s.take (rowF namB s), 0, at'⟩
  else if pre s [47, 92] || pre s [92, 47] then .tok ⟨3, s.take 2, 0, at'⟩
  else if s.getD 0 0 ∈ marksL then .tok ⟨3, s.take 1, 0, at'⟩
  else .err 20
/-- The words from a place on, so many behind what stands there. -/
def tokC (s : List UInt8) : Nat → Nat → List Tk → List Tk × Int × Int
  | 0, _, out => (out, 0, 0)
  | f + 1, at', out => if s.length ≤ at' then (out, 0, 0) else
    match stepF (s.drop at') at' with
    | .skip n => tokC s f (at' + n) out
    | .tok t => tokC s f (at' + t.s.length) (out ++ [t])
    | .err e => ([], e, at')
def tokF (s : List UInt8) : List Tk × Int × Int := if 8192 < s.length then ([], 2, 0) else tokC s (s.length + 1) 0 []
theorem tokC_end {s : List UInt8} {f at' : Nat} {out : List Tk} (h : s.length ≤ at') : tokC s f at' out = (out, 0, 0) := by
  cases f with
  | zero => rfl
  | succ f => simp only [tokC, if_pos h]
theorem tokC_step {s : List UInt8} {f at' : Nat} {out : List Tk} (h : at' < s.length) (hf : s.length < at' + f) :
    ∃ f', f = f' + 1 ∧ tokC s f at' out = (match stepF (s.drop at') at' with
    | .skip n => tokC s f' (at' + n) out
    | .tok t => tokC s f' (at' + t.s.length) (out ++ [t])
    | .err e => ([], e, at')) := by
  cases f with
  | zero => omega
  | succ f => exact ⟨f, rfl, by simp only [tokC, if_neg (Nat.not_le.2 h)]⟩
end SX
end Go.Proofs.YthkedcneehdinaaGreatDoor

/- Words of a text: the program's small functions. -/
set_option linter.unusedVariables false
set_option maxRecDepth 100000
namespace Go.Proofs.YthkedcneehdinaaGreatDoor
namespace SX
open Go Go.Proofs
theorem w64 {x : Int} (h1 : -9223372036854775808 ≤ x) (h2 : x ≤ 9223372036854775807) : IntKind.i64.wrap x = x := IntWalk.i64_in x ⟨h1, h2⟩
theorem b_cg {x y : Bool} (h : x = y) : SV.b x = SV.b y := congrArg SV.b h
theorem i_cg {x y : Int} (h : x = y) : SV.i .i64 x = SV.i .i64 y := congrArg (SV.i .i64) h
theorem digit_ok (n : Int) : CtrV Tryz.prog 41 [.i .u8 n] (.b (digB n)) := by
  refine Ctr.enterV tabOkF (fn := Tryz.f41) rfl rfl rfl rfl rfl rfl ?_
  exact rfl
theorem letter_ok (n : Int) : CtrV Tryz.prog 44 [.i .u8 n] (.b (letB n)) := by
  refine Ctr.enterV tabOkF (fn := Tryz.f44) rfl rfl rfl rfl rfl rfl ?_
  exact rfl
theorem isnum_ok (n : Int) : CtrV Tryz.prog 43 [.i .u8 n] (.b (numB n)) := by
  refine Ctr.enterV tabOkF (fn := Tryz.f43) rfl rfl rfl rfl rfl rfl ?_
  refine OpC.callV rfl rfl rfl rfl rfl rfl rfl (fun _ => letter_ok n) ?_
  refine OpC.callV rfl rfl rfl rfl rfl rfl rfl (fun _ => digit_ok n) ?_
  exact rfl
theorem isnam_ok (n : Int) : CtrV Tryz.prog 46 [.i .u8 n] (.b (namB n)) := by
  refine Ctr.enterV tabOkF (fn := Tryz.f46) rfl rfl rfl rfl rfl rfl ?_
  refine OpC.callV rfl rfl rfl rfl rfl rfl rfl (fun _ => letter_ok n) ?_
  refine OpC.callV rfl rfl rfl rfl rfl rfl rfl (fun _ => digit_ok n) ?_
  exact rfl
theorem row_ok (f : Nat) (p : Int → Bool) (hf : ∀ n, CtrV Tryz.prog f [.i .u8 n] (.b (p n))) (s : List UInt8) (hs : s.length ≤ 100000) : CtrV Tryz.prog 42 [.s s, .fn f []] (.i .i64 (rowF p s)) := by
  refine Ctr.enterV tabOkF (fn := Tryz.f42) rfl rfl rfl rfl rfl rfl ?_
  refine WpC.loop tabOkF (β := Nat) (fun k => k ≤ s.length ∧ ∀ j, j < k → p (cd s j) = true) (fun k => [(5, .i .i64 k)]) (fun _ => []) (fun k => s.length - k) 0 524256 ⟨Nat.zero_le _, fun j hj => by omega⟩ ?_ ?_
  · exact ⟨rfl, ⟨⟨rfl, rfl, rfl⟩, trivial⟩, ⟨[], rfl⟩, trivial, rfl⟩
  · rintro k ⟨hk, ho⟩
    refine ⟨fun hg => ?_, ?_⟩
    · have hg : (decide ((k : Int) < s.length) == true) = true := hg
      have hg : k < s.length := by simpa using hg
      exact ⟨by omega, by omega⟩
    refine OpC.callV rfl rfl rfl rfl rfl rfl rfl (fun _ => hf (cd s k)) ?_
    refine ⟨fun h2 => ?_, fun h2 => ?_⟩
    · have h2 : (decide ((k : Int) < s.length) && p (cd s k)) = true := h2
      simp only [Bool.and_eq_true, decide_eq_true_eq] at h2
      refine ⟨k + 1, ⟨by omega, fun j hj => ?_⟩, by omega, rfl, ⟨⟨?_, rfl, rfl⟩, trivial⟩, ⟨[], rfl⟩, trivial, rfl⟩
      · rcases Nat.lt_succ_iff_lt_or_eq.1 hj with hj | rfl
        · exact ho j hj
        · exact h2.2
      · show SV.i .i64 (IntKind.i64.wrap ((k : Int) + 1)) = SV.i .i64 ((k + 1 : Nat) : Int)
        rw [w64 (by omega) (by omega)]; rfl
    · have h2 : (decide ((k : Int) < s.length) && p (cd s k)) = false := h2
      refine i_cg ?_
      rw [rowF_at p k s hk ho]
      by_cases h3 : k = s.length
      · exact .inl h3
      · have h4 : decide ((k : Int) < s.length) = true := by simp; omega
        rw [h4] at h2
        exact .inr h2
theorem pre_ok (s p : List UInt8) : CtrV Tryz.prog 84 [.s s, .s p] (.b (pre s p)) := by
  refine Ctr.enterV tabOkF (fn := Tryz.f84) rfl rfl rfl rfl rfl rfl ?_
  refine ⟨fun hg => ?_, rfl⟩
  have hg : (decide ((p.length : Int) ≤ s.length) == true) = true := hg
  have hg : p.length ≤ s.length := by simpa using hg
  exact ⟨by omega, by omega⟩
theorem hasPrefix_ok (s p : List UInt8) : CtrV Tryz.prog 39 [.s s, .s p] (.b (pre s p)) := by
  refine Ctr.enterV tabOkF (fn := Tryz.f39) rfl rfl rfl rfl rfl rfl ?_
  refine OpC.callV rfl rfl rfl rfl rfl rfl rfl (fun _ => pre_ok s p) ?_
  exact rfl
theorem pre_len {s p : List UInt8} (h : pre s p = true) : p.length ≤ s.length := by
  unfold pre at h; simp only [Bool.and_eq_true, decide_eq_true_eq] at h; omega
def cutP (s p : List UInt8) : List UInt8 := if pre s p then (s.take s.length).drop p.length else s
theorem cutPre_ok (s p : List UInt8) : CtrV Tryz.prog 150 [.s s, .s p] (.tup [.s (cutP s p), .b (pre s p)]) := by
  refine Ctr.enterV tabOkF (fn := Tryz.f150) rfl rfl rfl rfl rfl rfl ?_
  refine OpC.callV rfl rfl rfl rfl rfl rfl rfl (fun _ => pre_ok s p) ?_
  refine ⟨fun h => ?_, fun h => ?_⟩
  · have h : (!pre s p) = true := h
    have h : pre s p = false := by simpa using h
    show _ = SV.tup [.s (cutP s p), .b (pre s p)]
    unfold cutP
    rw [h]; rfl
  · have h : (!pre s p) = false := h
    have h : pre s p = true := by simpa using h
    refine ⟨fun _ => ?_, ?_⟩
    · have := pre_len h
      exact ⟨by omega, by omega⟩
    · show _ = SV.tup [.s (cutP s p), .b (pre s p)]
      unfold cutP
      rw [h]; rfl
theorem cutPrefix_ok (s p : List UInt8) : CtrV Tryz.prog 86 [.s s, .s p] (.tup [.s (cutP s p), .b (pre s p)]) := by
  refine Ctr.enterV tabOkF (fn := Tryz.f86) rfl rfl rfl rfl rfl rfl ?_
  refine OpC.callV rfl rfl rfl rfl rfl rfl rfl (fun _ => cutPre_ok s p) ?_
  exact rfl
end SX
end Go.Proofs.YthkedcneehdinaaGreatDoor

/- Instructions: what they are; small functions. -/
set_option linter.unusedVariables false
set_option maxRecDepth 100000
namespace Go.Proofs.YthkedcneehdinaaGreatDoor
namespace SX
open Go Go.Proofs
structure In where
  op : Int
  dst : Int
  a : Int
  b : Int
  imm : Int
  loc : Int
  off : Int
  ix : Int
  sz : Int
  fn : Int
  acq : Bool
  wk : Bool
  rel : Bool
  pr : Int
  su : Int
  to : Int
  ze : Bool
  deriving DecidableEq
def ienc (i : In) : List SV := [.i .i64 i.op, .i .i64 i.dst, .i .i64 i.a, .i .i64 i.b, .i .i64 i.imm, .i .i64 i.loc, .i .i64 i.off, .i .i64 i.ix, .i .i64 i.sz, .i .i64 i.fn, .b i.acq, .b i.wk, .b i.rel, .i .i64 i.pr, .i .i64 i.su, .i .i64 i.to, .b i.ze]
def rgB (r : Int) : Bool := decide (0 ≤ r) && decide (r < 8)
def szB (n : Int) : Bool := ((decide (n = 1) || decide (n = 2)) || decide (n = 4)) || decide (n = 8)
/-- Is there no access so? -/
def mskX (off n : Int) : Bool := ((!szB n || decide (off < 0)) || decide (IntKind.i64.wrap (8 - n) < off)) || !decide (off.tmod n = 0)
def mskV (off n : Int) : Int := (2 ^ n.toNat - 1) * 2 ^ off.toNat
def mskF (off n : Int) : Int := if mskX off n then 0 else mskV off n
theorem register_ok (n : Int) : CtrV Tryz.prog 200 [.i .i64 n] (.b (rgB n)) := by
  refine Ctr.enterV tabOkF (fn := Tryz.f200) rfl rfl rfl rfl rfl rfl ?_
  exact rfl
theorem rrg_ok (n : Int) : CtrV Tryz.prog 162 [.i .i64 n] (.b (rgB n)) := by
  refine Ctr.enterV tabOkF (fn := Tryz.f162) rfl rfl rfl rfl rfl rfl ?_
  exact rfl
theorem sized_ok (n : Int) : CtrV Tryz.prog 254 [.i .i64 n] (.b (szB n)) := by
  refine Ctr.enterV tabOkF (fn := Tryz.f254) rfl rfl rfl rfl rfl rfl ?_
  exact rfl
theorem rsize_ok (n : Int) : CtrV Tryz.prog 236 [.i .i64 n] (.b (szB n)) := by
  refine Ctr.enterV tabOkF (fn := Tryz.f236) rfl rfl rfl rfl rfl rfl ?_
  exact rfl
def fnB (n : Int) : Bool := decide (1 ≤ n) && decide (n ≤ 3)
theorem msk_cases {off n : Int} (h : mskX off n = false) : (n = 1 ∧ (off = 0 ∨ off = 1 ∨ off = 2 ∨ off = 3 ∨ off = 4 ∨ off = 5 ∨ off = 6 ∨ off = 7)) ∨ (n = 2 ∧ (off = 0 ∨ off = 2 ∨ off = 4 ∨ off = 6)) ∨ (n = 4 ∧ (off = 0 ∨ off = 4)) ∨ (n = 8 ∧ off = 0) := by
  unfold mskX szB at h
  simp only [Bool.or_eq_false_iff, Bool.not_eq_false', Bool.or_eq_true, decide_eq_true_eq, decide_eq_false_iff_not, Int.not_lt] at h
  obtain ⟨⟨⟨h1, h2⟩, h3⟩, h4⟩ := h
  rcases h1 with ((rfl | rfl) | rfl) | rfl
  · have h3 : off ≤ 7 := h3
    left; exact ⟨rfl, by omega⟩
  · have h3 : off ≤ 6 := h3
    right; left
    refine ⟨rfl, ?_⟩
    rcases (by omega : off = 0 ∨ off = 1 ∨ off = 2 ∨ off = 3 ∨ off = 4 ∨ off = 5 ∨ off = 6) with rfl | rfl | rfl | rfl | rfl | rfl | rfl <;> first | (simp; done) | exact absurd h4 (by decide)
  · have h3 : off ≤ 4 := h3
    right; right; left
    refine ⟨rfl, ?_⟩
    rcases (by omega : off = 0 ∨ off = 1 ∨ off = 2 ∨ off = 3 ∨ off = 4) with rfl | rfl | rfl | rfl | rfl <;> first | (simp; done) | exact absurd h4 (by decide)
  · have h3 : off ≤ 0 := h3
    right; right; right
    exact ⟨rfl, by omega⟩
theorem call_of {f : Nat} {args : List SV} {r : SV} (h : (Memo.mk f args [] r []).runs (runM treeF ftree [] 40) = true) : CtrV Tryz.prog f args r :=
  memo_of (tr := treeF) (ft := ftree) (ms := []) (n := 40) (m := Memo.mk f args [] r []) tabOkF ftOk mixed (by intro m hm; cases hm) h
theorem msk_ne {off n : Int} (h : mskX off n = true) {x y z : Bool} (hx : ((!szB n || decide (off < 0)) || decide (IntKind.i64.wrap (8 - n) < off)) = false) : n ≠ 0 := by
  intro e
  subst e
  simp [szB] at hx
theorem mask_no {off n : Int} (h : mskX off n = true) : CtrV Tryz.prog 232 [.i .i64 off, .i .i64 n] (.i .i64 0) := by
  refine Ctr.enterV tabOkF (fn := Tryz.f232) rfl rfl rfl rfl rfl rfl ?_
  refine OpC.callV rfl rfl rfl rfl rfl rfl rfl (fun _ => sized_ok n) ?_
  refine ⟨fun hg => ?_, ⟨fun _ => rfl, fun h2 => ?_⟩⟩
  · have hg : ((((!szB n || decide (off < 0)) || decide (IntKind.i64.wrap (8 - n) < off)) == false)) = true := hg
    exact msk_ne (x := true) (y := true) (z := true) h (by simpa using hg)
  · have h2 : mskX off n = false := h2
    rw [h] at h2; cases h2
theorem rmask_no {off n : Int} (h : mskX off n = true) : CtrV Tryz.prog 214 [.i .i64 off, .i .i64 n] (.i .i64 0) := by
  refine Ctr.enterV tabOkF (fn := Tryz.f214) rfl rfl rfl rfl rfl rfl ?_
  refine OpC.callV rfl rfl rfl rfl rfl rfl rfl (fun _ => rsize_ok n) ?_
  refine ⟨fun hg => ?_, ⟨fun _ => rfl, fun h2 => ?_⟩⟩
  · have hg : ((((!szB n || decide (off < 0)) || decide (IntKind.i64.wrap (8 - n) < off)) == false)) = true := hg
    exact msk_ne (x := true) (y := true) (z := true) h (by simpa using hg)
  · have h2 : mskX off n = false := h2
    rw [h] at h2; cases h2
theorem mask_ok (off n : Int) : CtrV Tryz.prog 232 [.i .i64 off, .i .i64 n] (.i .i64 (mskF off n)) := by
  unfold mskF
  cases h : mskX off n with
  | true => exact mask_no h
  | false =>
    rcases msk_cases h with ⟨rfl, rfl | rfl | rfl | rfl | rfl | rfl | rfl | rfl⟩ | ⟨rfl, rfl | rfl | rfl | rfl⟩ | ⟨rfl, rfl | rfl⟩ | ⟨rfl, rfl⟩
    all_goals exact call_of (by decide +kernel)
theorem rmask_ok (off n : Int) : CtrV Tryz.prog 214 [.i .i64 off, .i .i64 n] (.i .i64 (mskF off n)) := by
  unfold mskF
  cases h : mskX off n with
  | true => exact rmask_no h
  | false =>
    rcases msk_cases h with ⟨rfl, rfl | rfl | rfl | rfl | rfl | rfl | rfl | rfl⟩ | ⟨rfl, rfl | rfl | rfl | rfl⟩ | ⟨rfl, rfl | rfl⟩ | ⟨rfl, rfl⟩
    all_goals exact call_of (by decide +kernel)
theorem msk_nz (off n : Int) : (!decide (mskF off n = 0)) = !mskX off n := by
  unfold mskF
  cases h : mskX off n with
  | true => rfl
  | false =>
    rcases msk_cases h with ⟨rfl, rfl | rfl | rfl | rfl | rfl | rfl | rfl | rfl⟩ | ⟨rfl, rfl | rfl | rfl | rfl⟩ | ⟨rfl, rfl | rfl⟩ | ⟨rfl, rfl⟩ <;> rfl
def ixB (x : Int) : Bool := decide (x = -1) || rgB x
def accB (i : In) : Bool := ((decide (0 ≤ i.loc) && decide (i.loc < 3)) && !mskX i.off i.sz) && ixB i.ix
theorem access_ok (i : In) : CtrV Tryz.prog 201 [.agg (ienc i)] (.b (accB i)) := by
  refine Ctr.enterV tabOkF (fn := Tryz.f201) rfl rfl rfl rfl rfl rfl ?_
  refine OpC.callV rfl rfl rfl rfl rfl rfl rfl (fun _ => mask_ok i.off i.sz) ?_
  refine OpC.callV rfl rfl rfl rfl rfl rfl rfl (fun _ => register_ok i.ix) ?_
  refine b_cg ?_
  show (((decide (0 ≤ i.loc) && decide (i.loc < 3)) && !decide (mskF i.off i.sz = 0)) && (decide (i.ix = -1) || rgB i.ix)) = accB i
  rw [msk_nz]; rfl
theorem rplace_ok (i : In) : CtrV Tryz.prog 163 [.agg (ienc i)] (.b (accB i)) := by
  refine Ctr.enterV tabOkF (fn := Tryz.f163) rfl rfl rfl rfl rfl rfl ?_
  refine OpC.callV rfl rfl rfl rfl rfl rfl rfl (fun _ => rmask_ok i.off i.sz) ?_
  refine OpC.callV rfl rfl rfl rfl rfl rfl rfl (fun _ => rrg_ok i.ix) ?_
  refine b_cg ?_
  show (((decide (0 ≤ i.loc) && decide (i.loc < 3)) && !decide (mskF i.off i.sz = 0)) && (decide (i.ix = -1) || rgB i.ix)) = accB i
  rw [msk_nz]; rfl
theorem reads_ok (i : In) : CtrV Tryz.prog 203 [.agg (ienc i)] (.b (decide (i.op = 4) || decide (i.op = 6))) := by
  refine Ctr.enterV tabOkF (fn := Tryz.f203) rfl rfl rfl rfl rfl rfl ?_
  exact rfl
theorem writes_ok (i : In) : CtrV Tryz.prog 204 [.agg (ienc i)] (.b (decide (i.op = 5) || decide (i.op = 6))) := by
  refine Ctr.enterV tabOkF (fn := Tryz.f204) rfl rfl rfl rfl rfl rfl ?_
  exact rfl
end SX
end Go.Proofs.YthkedcneehdinaaGreatDoor

/- Conditions as text, plain: trees, their texts, and the rows of both. -/
set_option linter.unusedVariables false
namespace Go.Proofs.YthkedcneehdinaaGreatDoor
namespace SX
open Go Go.Proofs
end SX
end Go.Proofs.YthkedcneehdinaaGreatDoor

/- Texts of instructions: lines of operands. -/
set_option linter.unusedVariables false
set_option maxRecDepth 100000
namespace Go.Proofs.YthkedcneehdinaaGreatDoor
open Go.Shelf in
theorem Tryz.joinX : Builder.Extra Tryz.prog Tryz.TJoin_ren := ⟨⟨by kernel_rfl, by kernel_rfl⟩, Tryz.underlying5, Tryz.isAgg5, Tryz.sizeOf5, Tryz.zeroValue5, by kernel_rfl, by kernel_rfl, by kernel_rfl, by decide⟩
namespace SX
open Go Go.Proofs
theorem drNo : drKeep = false := rfl
def strB (xs : List (List UInt8)) : SB := .mem 9 (xs.map .s) 1 0
theorem cells_s (E : Env) : ∀ xs : List (List UInt8), cellsL E (xs.map .s) = xs.map fun x => Value.string ⟨⟨x⟩⟩
  | [] => rfl
  | x :: r => by simp [cellsL, cells, cells_s E r]
theorem join_ok (xs : List (List UInt8)) (n : Nat) (hn : xs.length = n) (hn2 : n ≤ 1000) (sep : List UInt8) (hl : (Lib.join xs sep).length ≤ 140737488355328) :
    Ctr Tryz.prog 199 [.sl 0 1 0 n (some n) 0, .s sep] [strB xs] (fun r h => r = .s (Lib.join xs sep) ∧ h = [strB xs]) :=
  Ctr.of_below drNo (fn := Tryz.f199) Tryz.func199 rfl rfl (fun m => trivial) rfl fun C E m w hr ha => by
    obtain ⟨_, b, c, e1, e2, _⟩ := hr.bl 0 _ rfl
    have hbs : b < w.heap.size := size_of_heap e2
    have hargs : (denL E [.sl 0 1 0 n (some n) 0, .s sep]).toArray = #[.slice (some ⟨b, 0, none⟩) (xs.map fun x => (⟨⟨x⟩⟩ : ByteArray)).length n, .string ⟨⟨sep⟩⟩] := by
      simp [denL, wrapV, cells, e1, hn]
    have hmm : (xs.map fun x => (⟨⟨x⟩⟩ : ByteArray)).map (·.data.toList) = xs := by simp [Function.comp_def]
    rw [hargs]
    have := Any.strings_Join Tryz.TJoin Tryz.joinX b 0 n (xs.map fun x => (⟨⟨x⟩⟩ : ByteArray)) ⟨⟨sep⟩⟩ w (fun j x hx => by
      rw [cell_of_heap e2, Nat.zero_add, cells_s]
      simp only [List.getElem?_map, Option.map_eq_some_iff] at hx ⊢
      obtain ⟨y, hy, rfl⟩ := hx
      exact ⟨y, hy, rfl⟩) hbs (by simp; omega) (by simp; omega) (by rw [hmm]; exact hl)
    rw [hmm] at this
    exact this
end SX
end Go.Proofs.YthkedcneehdinaaGreatDoor

/- Which instructions are well formed: the program's answer. Printed by uib.py. -/
set_option linter.unusedVariables false
set_option maxRecDepth 100000
namespace Go.Proofs.YthkedcneehdinaaGreatDoor
namespace SX
open Go Go.Proofs
def eqI (x y : In) : Bool := (decide (x.op = y.op) && (decide (x.dst = y.dst) && (decide (x.a = y.a) && (decide (x.b = y.b) && (decide (x.imm = y.imm) && (decide (x.loc = y.loc) && (decide (x.off = y.off) && (decide (x.ix = y.ix) && (decide (x.sz = y.sz) && (decide (x.fn = y.fn) && ((x.acq == y.acq) && ((x.wk == y.wk) && ((x.rel == y.rel) && (decide (x.pr = y.pr) && (decide (x.su = y.su) && (decide (x.to = y.to) && (x.ze == y.ze)))))))))))))))))
theorem no_tf {P : Prop} (h : true = false) : P := nomatch h
theorem no_ft {P : Prop} (h : false = true) : P := nomatch h
theorem ufence_ok (n : Int) : CtrV Tryz.prog 202 [.i .i64 n] (.b (fnB n)) := by
  refine Ctr.enterV tabOkF (fn := Tryz.f202) rfl rfl rfl rfl rfl rfl ?_
  exact rfl
theorem formed_1 (dst a b imm loc off ix sz fn pr su to : Int) (acq wk rel ze : Bool)  : CtrV Tryz.prog 146 [.agg (ienc ⟨1, dst, a, b, imm, loc, off, ix, sz, fn, acq, wk, rel, pr, su, to, ze⟩)] (.b (rgB dst && eqI ⟨1, dst, (-1), (-1), imm, 0, 0, (-1), 0, 0, false, false, false, 0, 0, 0, false⟩ ⟨1, dst, a, b, imm, loc, off, ix, sz, fn, acq, wk, rel, pr, su, to, ze⟩)) := by
  refine Ctr.enterV tabOkF (fn := Tryz.f146) rfl rfl rfl rfl rfl rfl ?_
  refine ⟨fun _ => ?_, fun h => no_tf h⟩
  refine WpC.dr tabOkF mixed 0 ⟨by kernel_rfl, ?_⟩
  refine OpC.callV rfl rfl rfl rfl rfl rfl rfl (fun _ => register_ok dst) ?_
  refine OpC.callV rfl rfl rfl rfl rfl rfl rfl (fun _ => reads_ok ⟨1, dst, a, b, imm, loc, off, ix, sz, fn, acq, wk, rel, pr, su, to, ze⟩) ?_
  refine OpC.callV rfl rfl rfl rfl rfl rfl rfl (fun _ => writes_ok ⟨1, dst, a, b, imm, loc, off, ix, sz, fn, acq, wk, rel, pr, su, to, ze⟩) ?_
  refine ⟨fun h => no_ft h, fun _ => ?_⟩
  exact rfl
theorem formed_2 (dst a b imm loc off ix sz fn pr su to : Int) (acq wk rel ze : Bool)  : CtrV Tryz.prog 146 [.agg (ienc ⟨2, dst, a, b, imm, loc, off, ix, sz, fn, acq, wk, rel, pr, su, to, ze⟩)] (.b ((rgB dst && rgB a) && eqI ⟨2, dst, a, (-1), 0, 0, 0, (-1), 0, 0, false, false, false, 0, 0, 0, false⟩ ⟨2, dst, a, b, imm, loc, off, ix, sz, fn, acq, wk, rel, pr, su, to, ze⟩)) := by
  refine Ctr.enterV tabOkF (fn := Tryz.f146) rfl rfl rfl rfl rfl rfl ?_
  refine ⟨fun h => no_ft h, fun _ => ?_⟩
  refine ⟨fun _ => ?_, fun h => no_tf h⟩
  refine WpC.dr tabOkF mixed 0 ⟨by kernel_rfl, ?_⟩
  refine OpC.callV rfl rfl rfl rfl rfl rfl rfl (fun _ => register_ok dst) ?_
  refine OpC.callV rfl rfl rfl rfl rfl rfl rfl (fun _ => register_ok a) ?_
  refine OpC.callV rfl rfl rfl rfl rfl rfl rfl (fun _ => reads_ok ⟨2, dst, a, b, imm, loc, off, ix, sz, fn, acq, wk, rel, pr, su, to, ze⟩) ?_
  refine OpC.callV rfl rfl rfl rfl rfl rfl rfl (fun _ => writes_ok ⟨2, dst, a, b, imm, loc, off, ix, sz, fn, acq, wk, rel, pr, su, to, ze⟩) ?_
  refine ⟨fun h => no_ft h, fun _ => ?_⟩
  exact rfl
theorem formed_3i (dst a b imm loc off ix sz fn pr su to : Int) (acq wk rel ze : Bool) (hb : b = -1) : CtrV Tryz.prog 146 [.agg (ienc ⟨3, dst, a, b, imm, loc, off, ix, sz, fn, acq, wk, rel, pr, su, to, ze⟩)] (.b ((((rgB dst && rgB a) && decide (1 ≤ fn)) && decide (fn ≤ 5)) && eqI ⟨3, dst, a, b, imm, 0, 0, (-1), 0, fn, false, false, false, 0, 0, 0, false⟩ ⟨3, dst, a, b, imm, loc, off, ix, sz, fn, acq, wk, rel, pr, su, to, ze⟩)) := by
  refine Ctr.enterV tabOkF (fn := Tryz.f146) rfl rfl rfl rfl rfl rfl ?_
  refine ⟨fun h => no_ft h, fun _ => ?_⟩
  refine ⟨fun h => no_ft h, fun _ => ?_⟩
  refine ⟨fun _ => ?_, fun h => no_tf h⟩
  refine WpC.dr tabOkF mixed 0 ⟨by kernel_rfl, ?_⟩
  refine OpC.callV rfl rfl rfl rfl rfl rfl rfl (fun _ => register_ok dst) ?_
  refine OpC.callV rfl rfl rfl rfl rfl rfl rfl (fun _ => register_ok a) ?_
  refine ⟨fun _ => ?_, fun h => absurd hb (of_decide_eq_false h)⟩
  refine OpC.callV rfl rfl rfl rfl rfl rfl rfl (fun _ => reads_ok ⟨3, dst, a, b, imm, loc, off, ix, sz, fn, acq, wk, rel, pr, su, to, ze⟩) ?_
  refine OpC.callV rfl rfl rfl rfl rfl rfl rfl (fun _ => writes_ok ⟨3, dst, a, b, imm, loc, off, ix, sz, fn, acq, wk, rel, pr, su, to, ze⟩) ?_
  refine ⟨fun h => no_ft h, fun _ => ?_⟩
  exact rfl
theorem formed_3r (dst a b imm loc off ix sz fn pr su to : Int) (acq wk rel ze : Bool) (hb : ¬ b = -1) : CtrV Tryz.prog 146 [.agg (ienc ⟨3, dst, a, b, imm, loc, off, ix, sz, fn, acq, wk, rel, pr, su, to, ze⟩)] (.b (((((rgB dst && rgB a) && decide (1 ≤ fn)) && decide (fn ≤ 5)) && rgB b) && eqI ⟨3, dst, a, b, 0, 0, 0, (-1), 0, fn, false, false, false, 0, 0, 0, false⟩ ⟨3, dst, a, b, imm, loc, off, ix, sz, fn, acq, wk, rel, pr, su, to, ze⟩)) := by
  refine Ctr.enterV tabOkF (fn := Tryz.f146) rfl rfl rfl rfl rfl rfl ?_
  refine ⟨fun h => no_ft h, fun _ => ?_⟩
  refine ⟨fun h => no_ft h, fun _ => ?_⟩
  refine ⟨fun _ => ?_, fun h => no_tf h⟩
  refine WpC.dr tabOkF mixed 0 ⟨by kernel_rfl, ?_⟩
  refine OpC.callV rfl rfl rfl rfl rfl rfl rfl (fun _ => register_ok dst) ?_
  refine OpC.callV rfl rfl rfl rfl rfl rfl rfl (fun _ => register_ok a) ?_
  refine ⟨fun h => absurd (of_decide_eq_true h) hb, fun _ => ?_⟩
  refine OpC.callV rfl rfl rfl rfl rfl rfl rfl (fun _ => register_ok b) ?_
  refine OpC.callV rfl rfl rfl rfl rfl rfl rfl (fun _ => reads_ok ⟨3, dst, a, b, imm, loc, off, ix, sz, fn, acq, wk, rel, pr, su, to, ze⟩) ?_
  refine OpC.callV rfl rfl rfl rfl rfl rfl rfl (fun _ => writes_ok ⟨3, dst, a, b, imm, loc, off, ix, sz, fn, acq, wk, rel, pr, su, to, ze⟩) ?_
  refine ⟨fun h => no_ft h, fun _ => ?_⟩
  exact rfl
theorem formed_4 (dst a b imm loc off ix sz fn pr su to : Int) (acq wk rel ze : Bool)  : CtrV Tryz.prog 146 [.agg (ienc ⟨4, dst, a, b, imm, loc, off, ix, sz, fn, acq, wk, rel, pr, su, to, ze⟩)] (.b (((rgB dst && accB ⟨4, dst, a, b, imm, loc, off, ix, sz, fn, acq, wk, rel, pr, su, to, ze⟩) && !(acq && wk)) && eqI ⟨4, dst, (-1), (-1), 0, loc, off, ix, sz, 0, acq, wk, false, 0, 0, 0, false⟩ ⟨4, dst, a, b, imm, loc, off, ix, sz, fn, acq, wk, rel, pr, su, to, ze⟩)) := by
  refine Ctr.enterV tabOkF (fn := Tryz.f146) rfl rfl rfl rfl rfl rfl ?_
  refine ⟨fun h => no_ft h, fun _ => ?_⟩
  refine ⟨fun h => no_ft h, fun _ => ?_⟩
  refine ⟨fun h => no_ft h, fun _ => ?_⟩
  refine ⟨fun _ => ?_, fun h => no_tf h⟩
  refine WpC.dr tabOkF mixed 0 ⟨by kernel_rfl, ?_⟩
  refine OpC.callV rfl rfl rfl rfl rfl rfl rfl (fun _ => register_ok dst) ?_
  refine OpC.callV rfl rfl rfl rfl rfl rfl rfl (fun _ => access_ok ⟨4, dst, a, b, imm, loc, off, ix, sz, fn, acq, wk, rel, pr, su, to, ze⟩) ?_
  refine OpC.callV rfl rfl rfl rfl rfl rfl rfl (fun _ => reads_ok ⟨4, dst, a, b, imm, loc, off, ix, sz, fn, acq, wk, rel, pr, su, to, ze⟩) ?_
  refine OpC.callV rfl rfl rfl rfl rfl rfl rfl (fun _ => writes_ok ⟨4, dst, a, b, imm, loc, off, ix, sz, fn, acq, wk, rel, pr, su, to, ze⟩) ?_
  refine ⟨fun _ => ?_, fun h => no_tf h⟩
  refine WpC.dr tabOkF mixed 0 ⟨by kernel_rfl, ?_⟩
  exact rfl
theorem formed_5i (dst a b imm loc off ix sz fn pr su to : Int) (acq wk rel ze : Bool) (hb : a = -1) : CtrV Tryz.prog 146 [.agg (ienc ⟨5, dst, a, b, imm, loc, off, ix, sz, fn, acq, wk, rel, pr, su, to, ze⟩)] (.b (accB ⟨5, dst, a, b, imm, loc, off, ix, sz, fn, acq, wk, rel, pr, su, to, ze⟩ && eqI ⟨5, (-1), a, (-1), imm, loc, off, ix, sz, 0, false, false, rel, 0, 0, 0, false⟩ ⟨5, dst, a, b, imm, loc, off, ix, sz, fn, acq, wk, rel, pr, su, to, ze⟩)) := by
  refine Ctr.enterV tabOkF (fn := Tryz.f146) rfl rfl rfl rfl rfl rfl ?_
  refine ⟨fun h => no_ft h, fun _ => ?_⟩
  refine ⟨fun h => no_ft h, fun _ => ?_⟩
  refine ⟨fun h => no_ft h, fun _ => ?_⟩
  refine ⟨fun h => no_ft h, fun _ => ?_⟩
  refine ⟨fun _ => ?_, fun h => no_tf h⟩
  refine WpC.dr tabOkF mixed 0 ⟨by kernel_rfl, ?_⟩
  refine OpC.callV rfl rfl rfl rfl rfl rfl rfl (fun _ => access_ok ⟨5, dst, a, b, imm, loc, off, ix, sz, fn, acq, wk, rel, pr, su, to, ze⟩) ?_
  refine ⟨fun _ => ?_, fun h => absurd hb (of_decide_eq_false h)⟩
  refine OpC.callV rfl rfl rfl rfl rfl rfl rfl (fun _ => reads_ok ⟨5, dst, a, b, imm, loc, off, ix, sz, fn, acq, wk, rel, pr, su, to, ze⟩) ?_
  refine OpC.callV rfl rfl rfl rfl rfl rfl rfl (fun _ => writes_ok ⟨5, dst, a, b, imm, loc, off, ix, sz, fn, acq, wk, rel, pr, su, to, ze⟩) ?_
  refine ⟨fun _ => ?_, fun h => no_tf h⟩
  refine WpC.dr tabOkF mixed 0 ⟨by kernel_rfl, ?_⟩
  exact rfl
theorem formed_5r (dst a b imm loc off ix sz fn pr su to : Int) (acq wk rel ze : Bool) (hb : ¬ a = -1) : CtrV Tryz.prog 146 [.agg (ienc ⟨5, dst, a, b, imm, loc, off, ix, sz, fn, acq, wk, rel, pr, su, to, ze⟩)] (.b ((accB ⟨5, dst, a, b, imm, loc, off, ix, sz, fn, acq, wk, rel, pr, su, to, ze⟩ && rgB a) && eqI ⟨5, (-1), a, (-1), 0, loc, off, ix, sz, 0, false, false, rel, 0, 0, 0, false⟩ ⟨5, dst, a, b, imm, loc, off, ix, sz, fn, acq, wk, rel, pr, su, to, ze⟩)) := by
  refine Ctr.enterV tabOkF (fn := Tryz.f146) rfl rfl rfl rfl rfl rfl ?_
  refine ⟨fun h => no_ft h, fun _ => ?_⟩
  refine ⟨fun h => no_ft h, fun _ => ?_⟩
  refine ⟨fun h => no_ft h, fun _ => ?_⟩
  refine ⟨fun h => no_ft h, fun _ => ?_⟩
  refine ⟨fun _ => ?_, fun h => no_tf h⟩
  refine WpC.dr tabOkF mixed 0 ⟨by kernel_rfl, ?_⟩
  refine OpC.callV rfl rfl rfl rfl rfl rfl rfl (fun _ => access_ok ⟨5, dst, a, b, imm, loc, off, ix, sz, fn, acq, wk, rel, pr, su, to, ze⟩) ?_
  refine ⟨fun h => absurd (of_decide_eq_true h) hb, fun _ => ?_⟩
  refine OpC.callV rfl rfl rfl rfl rfl rfl rfl (fun _ => register_ok a) ?_
  refine OpC.callV rfl rfl rfl rfl rfl rfl rfl (fun _ => reads_ok ⟨5, dst, a, b, imm, loc, off, ix, sz, fn, acq, wk, rel, pr, su, to, ze⟩) ?_
  refine OpC.callV rfl rfl rfl rfl rfl rfl rfl (fun _ => writes_ok ⟨5, dst, a, b, imm, loc, off, ix, sz, fn, acq, wk, rel, pr, su, to, ze⟩) ?_
  refine ⟨fun _ => ?_, fun h => no_tf h⟩
  refine WpC.dr tabOkF mixed 0 ⟨by kernel_rfl, ?_⟩
  exact rfl
set_option maxHeartbeats 2000000 in
theorem formed_6 (dst a b imm loc off ix sz fn pr su to : Int) (acq wk rel ze : Bool)  : CtrV Tryz.prog 146 [.agg (ienc ⟨6, dst, a, b, imm, loc, off, ix, sz, fn, acq, wk, rel, pr, su, to, ze⟩)] (.b ((((rgB dst && rgB a) && accB ⟨6, dst, a, b, imm, loc, off, ix, sz, fn, acq, wk, rel, pr, su, to, ze⟩) && (decide (fn = 6) || decide (fn = 1))) && eqI ⟨6, dst, a, (-1), 0, loc, off, ix, sz, fn, acq, false, rel, 0, 0, 0, false⟩ ⟨6, dst, a, b, imm, loc, off, ix, sz, fn, acq, wk, rel, pr, su, to, ze⟩)) := by
  refine Ctr.enterV tabOkF (fn := Tryz.f146) rfl rfl rfl rfl rfl rfl ?_
  refine ⟨fun h => no_ft h, fun _ => ?_⟩
  refine ⟨fun h => no_ft h, fun _ => ?_⟩
  refine ⟨fun h => no_ft h, fun _ => ?_⟩
  refine ⟨fun h => no_ft h, fun _ => ?_⟩
  refine ⟨fun h => no_ft h, fun _ => ?_⟩
  refine ⟨fun _ => ?_, fun h => no_tf h⟩
  refine WpC.dr tabOkF mixed 0 ⟨by kernel_rfl, ?_⟩
  refine OpC.callV rfl rfl rfl rfl rfl rfl rfl (fun _ => register_ok dst) ?_
  refine OpC.callV rfl rfl rfl rfl rfl rfl rfl (fun _ => register_ok a) ?_
  refine OpC.callV rfl rfl rfl rfl rfl rfl rfl (fun _ => access_ok ⟨6, dst, a, b, imm, loc, off, ix, sz, fn, acq, wk, rel, pr, su, to, ze⟩) ?_
  refine OpC.callV rfl rfl rfl rfl rfl rfl rfl (fun _ => reads_ok ⟨6, dst, a, b, imm, loc, off, ix, sz, fn, acq, wk, rel, pr, su, to, ze⟩) ?_
  refine OpC.callV rfl rfl rfl rfl rfl rfl rfl (fun _ => writes_ok ⟨6, dst, a, b, imm, loc, off, ix, sz, fn, acq, wk, rel, pr, su, to, ze⟩) ?_
  refine ⟨fun _ => ?_, fun h => no_tf h⟩
  refine WpC.dr tabOkF mixed 0 ⟨by kernel_rfl, ?_⟩
  exact rfl
theorem formed_7 (dst a b imm loc off ix sz fn pr su to : Int) (acq wk rel ze : Bool)  : CtrV Tryz.prog 146 [.agg (ienc ⟨7, dst, a, b, imm, loc, off, ix, sz, fn, acq, wk, rel, pr, su, to, ze⟩)] (.b ((fnB pr && fnB su) && eqI ⟨7, (-1), (-1), (-1), 0, 0, 0, (-1), 0, 0, false, false, false, pr, su, 0, false⟩ ⟨7, dst, a, b, imm, loc, off, ix, sz, fn, acq, wk, rel, pr, su, to, ze⟩)) := by
  refine Ctr.enterV tabOkF (fn := Tryz.f146) rfl rfl rfl rfl rfl rfl ?_
  refine ⟨fun h => no_ft h, fun _ => ?_⟩
  refine ⟨fun h => no_ft h, fun _ => ?_⟩
  refine ⟨fun h => no_ft h, fun _ => ?_⟩
  refine ⟨fun h => no_ft h, fun _ => ?_⟩
  refine ⟨fun h => no_ft h, fun _ => ?_⟩
  refine ⟨fun h => no_ft h, fun _ => ?_⟩
  refine ⟨fun _ => ?_, fun h => no_tf h⟩
  refine WpC.dr tabOkF mixed 0 ⟨by kernel_rfl, ?_⟩
  refine OpC.callV rfl rfl rfl rfl rfl rfl rfl (fun _ => ufence_ok pr) ?_
  refine OpC.callV rfl rfl rfl rfl rfl rfl rfl (fun _ => ufence_ok su) ?_
  refine OpC.callV rfl rfl rfl rfl rfl rfl rfl (fun _ => reads_ok ⟨7, dst, a, b, imm, loc, off, ix, sz, fn, acq, wk, rel, pr, su, to, ze⟩) ?_
  refine OpC.callV rfl rfl rfl rfl rfl rfl rfl (fun _ => writes_ok ⟨7, dst, a, b, imm, loc, off, ix, sz, fn, acq, wk, rel, pr, su, to, ze⟩) ?_
  refine ⟨fun h => no_ft h, fun _ => ?_⟩
  exact rfl
theorem formed_8 (dst a b imm loc off ix sz fn pr su to : Int) (acq wk rel ze : Bool)  : CtrV Tryz.prog 146 [.agg (ienc ⟨8, dst, a, b, imm, loc, off, ix, sz, fn, acq, wk, rel, pr, su, to, ze⟩)] (.b (true && eqI ⟨8, (-1), (-1), (-1), 0, 0, 0, (-1), 0, 0, false, false, false, 0, 0, 0, false⟩ ⟨8, dst, a, b, imm, loc, off, ix, sz, fn, acq, wk, rel, pr, su, to, ze⟩)) := by
  refine Ctr.enterV tabOkF (fn := Tryz.f146) rfl rfl rfl rfl rfl rfl ?_
  refine ⟨fun h => no_ft h, fun _ => ?_⟩
  refine ⟨fun h => no_ft h, fun _ => ?_⟩
  refine ⟨fun h => no_ft h, fun _ => ?_⟩
  refine ⟨fun h => no_ft h, fun _ => ?_⟩
  refine ⟨fun h => no_ft h, fun _ => ?_⟩
  refine ⟨fun h => no_ft h, fun _ => ?_⟩
  refine ⟨fun h => no_ft h, fun _ => ?_⟩
  refine ⟨fun _ => ?_, fun h => no_tf h⟩
  refine OpC.callV rfl rfl rfl rfl rfl rfl rfl (fun _ => reads_ok ⟨8, dst, a, b, imm, loc, off, ix, sz, fn, acq, wk, rel, pr, su, to, ze⟩) ?_
  refine OpC.callV rfl rfl rfl rfl rfl rfl rfl (fun _ => writes_ok ⟨8, dst, a, b, imm, loc, off, ix, sz, fn, acq, wk, rel, pr, su, to, ze⟩) ?_
  refine ⟨fun h => no_ft h, fun _ => ?_⟩
  exact rfl
theorem formed_9 (dst a b imm loc off ix sz fn pr su to : Int) (acq wk rel ze : Bool)  : CtrV Tryz.prog 146 [.agg (ienc ⟨9, dst, a, b, imm, loc, off, ix, sz, fn, acq, wk, rel, pr, su, to, ze⟩)] (.b (rgB a && eqI ⟨9, (-1), a, (-1), 0, 0, 0, (-1), 0, 0, false, false, false, 0, 0, to, ze⟩ ⟨9, dst, a, b, imm, loc, off, ix, sz, fn, acq, wk, rel, pr, su, to, ze⟩)) := by
  refine Ctr.enterV tabOkF (fn := Tryz.f146) rfl rfl rfl rfl rfl rfl ?_
  refine ⟨fun h => no_ft h, fun _ => ?_⟩
  refine ⟨fun h => no_ft h, fun _ => ?_⟩
  refine ⟨fun h => no_ft h, fun _ => ?_⟩
  refine ⟨fun h => no_ft h, fun _ => ?_⟩
  refine ⟨fun h => no_ft h, fun _ => ?_⟩
  refine ⟨fun h => no_ft h, fun _ => ?_⟩
  refine ⟨fun h => no_ft h, fun _ => ?_⟩
  refine ⟨fun h => no_ft h, fun _ => ?_⟩
  refine ⟨fun _ => ?_, fun h => no_tf h⟩
  refine WpC.dr tabOkF mixed 0 ⟨by kernel_rfl, ?_⟩
  refine OpC.callV rfl rfl rfl rfl rfl rfl rfl (fun _ => register_ok a) ?_
  refine OpC.callV rfl rfl rfl rfl rfl rfl rfl (fun _ => reads_ok ⟨9, dst, a, b, imm, loc, off, ix, sz, fn, acq, wk, rel, pr, su, to, ze⟩) ?_
  refine OpC.callV rfl rfl rfl rfl rfl rfl rfl (fun _ => writes_ok ⟨9, dst, a, b, imm, loc, off, ix, sz, fn, acq, wk, rel, pr, su, to, ze⟩) ?_
  refine ⟨fun h => no_ft h, fun _ => ?_⟩
  exact rfl
end SX
end Go.Proofs.YthkedcneehdinaaGreatDoor

/- Which instructions are well formed: the reference's answer, by op. Printed by uic.py. -/
set_option linter.unusedVariables false
set_option maxRecDepth 100000
namespace Go.Proofs.YthkedcneehdinaaGreatDoor
namespace SX
open Go Go.Proofs
theorem formed_0 (op dst a b imm loc off ix sz fn pr su to : Int) (acq wk rel ze : Bool) (h1 : ¬ op = 1) (h2 : ¬ op = 2) (h3 : ¬ op = 3) (h4 : ¬ op = 4) (h5 : ¬ op = 5) (h6 : ¬ op = 6) (h7 : ¬ op = 7) (h8 : ¬ op = 8) (h9 : ¬ op = 9) : CtrV Tryz.prog 146 [.agg (ienc ⟨op, dst, a, b, imm, loc, off, ix, sz, fn, acq, wk, rel, pr, su, to, ze⟩)] (.b false) := by
  refine Ctr.enterV tabOkF (fn := Tryz.f146) rfl rfl rfl rfl rfl rfl ?_
  refine ⟨fun h => absurd (of_decide_eq_true h) h1, fun _ => ?_⟩
  refine ⟨fun h => absurd (of_decide_eq_true h) h2, fun _ => ?_⟩
  refine ⟨fun h => absurd (of_decide_eq_true h) h3, fun _ => ?_⟩
  refine ⟨fun h => absurd (of_decide_eq_true h) h4, fun _ => ?_⟩
  refine ⟨fun h => absurd (of_decide_eq_true h) h5, fun _ => ?_⟩
  refine ⟨fun h => absurd (of_decide_eq_true h) h6, fun _ => ?_⟩
  refine ⟨fun h => absurd (of_decide_eq_true h) h7, fun _ => ?_⟩
  refine ⟨fun h => absurd (of_decide_eq_true h) h8, fun _ => ?_⟩
  refine ⟨fun h => absurd (of_decide_eq_true h) h9, fun _ => ?_⟩
  refine OpC.callV rfl rfl rfl rfl rfl rfl rfl (fun _ => reads_ok ⟨op, dst, a, b, imm, loc, off, ix, sz, fn, acq, wk, rel, pr, su, to, ze⟩) ?_
  refine OpC.callV rfl rfl rfl rfl rfl rfl rfl (fun _ => writes_ok ⟨op, dst, a, b, imm, loc, off, ix, sz, fn, acq, wk, rel, pr, su, to, ze⟩) ?_
  refine ⟨fun h => ?_, fun _ => ?_⟩
  · have h : ((decide (op = 4) || decide (op = 6)) || (decide (op = 5) || decide (op = 6))) = true := h
    rw [decide_eq_false h4, decide_eq_false h5, decide_eq_false h6] at h
    cases h
  exact rfl
theorem bare_1 (dst a b imm loc off ix sz fn pr su to : Int) (acq wk rel ze : Bool) : CtrV Tryz.prog 93 [.agg (ienc ⟨1, dst, a, b, imm, loc, off, ix, sz, fn, acq, wk, rel, pr, su, to, ze⟩)] (.tup [.agg (ienc ⟨0, (-1), a, b, 0, loc, off, ix, sz, fn, acq, wk, rel, pr, su, to, ze⟩), .b (rgB dst)]) := by
  refine Ctr.enterV tabOkF (fn := Tryz.f93) rfl rfl rfl rfl rfl rfl ?_
  refine ⟨fun _ => ?_, fun h => no_tf h⟩
  refine OpC.callV rfl rfl rfl rfl rfl rfl rfl (fun _ => rrg_ok dst) ?_
  refine ⟨fun h => no_ft h, fun _ => ?_⟩
  exact rfl
theorem bare_2 (dst a b imm loc off ix sz fn pr su to : Int) (acq wk rel ze : Bool) : CtrV Tryz.prog 93 [.agg (ienc ⟨2, dst, a, b, imm, loc, off, ix, sz, fn, acq, wk, rel, pr, su, to, ze⟩)] (.tup [.agg (ienc ⟨0, (-1), (-1), b, imm, loc, off, ix, sz, fn, acq, wk, rel, pr, su, to, ze⟩), .b (rgB dst && rgB a)]) := by
  refine Ctr.enterV tabOkF (fn := Tryz.f93) rfl rfl rfl rfl rfl rfl ?_
  refine ⟨fun h => no_ft h, fun _ => ?_⟩
  refine ⟨fun _ => ?_, fun h => no_tf h⟩
  refine OpC.callV rfl rfl rfl rfl rfl rfl rfl (fun _ => rrg_ok dst) ?_
  refine OpC.callV rfl rfl rfl rfl rfl rfl rfl (fun _ => rrg_ok a) ?_
  refine ⟨fun h => no_ft h, fun _ => ?_⟩
  exact rfl
theorem bare_3 (dst a b imm loc off ix sz fn pr su to : Int) (acq wk rel ze : Bool) : CtrV Tryz.prog 93 [.agg (ienc ⟨3, dst, a, b, imm, loc, off, ix, sz, fn, acq, wk, rel, pr, su, to, ze⟩)] (.tup [.agg (ienc ⟨0, (-1), (-1), (-1), 0, loc, off, ix, sz, 0, acq, wk, rel, pr, su, to, ze⟩), .b ((((rgB dst && rgB a) && decide (1 ≤ fn)) && decide (fn ≤ 5)) && (decide (b = -1) || (rgB b && decide (imm = 0))))]) := by
  refine Ctr.enterV tabOkF (fn := Tryz.f93) rfl rfl rfl rfl rfl rfl ?_
  refine ⟨fun h => no_ft h, fun _ => ?_⟩
  refine ⟨fun h => no_ft h, fun _ => ?_⟩
  refine ⟨fun _ => ?_, fun h => no_tf h⟩
  refine OpC.callV rfl rfl rfl rfl rfl rfl rfl (fun _ => rrg_ok dst) ?_
  refine OpC.callV rfl rfl rfl rfl rfl rfl rfl (fun _ => rrg_ok a) ?_
  refine OpC.callV rfl rfl rfl rfl rfl rfl rfl (fun _ => rrg_ok b) ?_
  refine ⟨fun h => no_ft h, fun _ => ?_⟩
  exact rfl
theorem bare_4 (dst a b imm loc off ix sz fn pr su to : Int) (acq wk rel ze : Bool) : CtrV Tryz.prog 93 [.agg (ienc ⟨4, dst, a, b, imm, loc, off, ix, sz, fn, acq, wk, rel, pr, su, to, ze⟩)] (.tup [.agg (ienc ⟨0, (-1), a, b, imm, 0, 0, (-1), 0, fn, false, false, rel, pr, su, to, ze⟩), .b ((rgB dst && accB ⟨4, dst, a, b, imm, loc, off, ix, sz, fn, acq, wk, rel, pr, su, to, ze⟩) && !(acq && wk))]) := by
  refine Ctr.enterV tabOkF (fn := Tryz.f93) rfl rfl rfl rfl rfl rfl ?_
  refine ⟨fun h => no_ft h, fun _ => ?_⟩
  refine ⟨fun h => no_ft h, fun _ => ?_⟩
  refine ⟨fun h => no_ft h, fun _ => ?_⟩
  refine ⟨fun _ => ?_, fun h => no_tf h⟩
  refine OpC.callV rfl rfl rfl rfl rfl rfl rfl (fun _ => rrg_ok dst) ?_
  refine OpC.callV rfl rfl rfl rfl rfl rfl rfl (fun _ => rplace_ok ⟨4, dst, a, b, imm, loc, off, ix, sz, fn, acq, wk, rel, pr, su, to, ze⟩) ?_
  refine ⟨fun _ => ?_, fun h => no_tf h⟩
  exact rfl
theorem bare_5 (dst a b imm loc off ix sz fn pr su to : Int) (acq wk rel ze : Bool) : CtrV Tryz.prog 93 [.agg (ienc ⟨5, dst, a, b, imm, loc, off, ix, sz, fn, acq, wk, rel, pr, su, to, ze⟩)] (.tup [.agg (ienc ⟨0, dst, (-1), b, 0, 0, 0, (-1), 0, fn, acq, wk, false, pr, su, to, ze⟩), .b (accB ⟨5, dst, a, b, imm, loc, off, ix, sz, fn, acq, wk, rel, pr, su, to, ze⟩ && (decide (a = -1) || (rgB a && decide (imm = 0))))]) := by
  refine Ctr.enterV tabOkF (fn := Tryz.f93) rfl rfl rfl rfl rfl rfl ?_
  refine ⟨fun h => no_ft h, fun _ => ?_⟩
  refine ⟨fun h => no_ft h, fun _ => ?_⟩
  refine ⟨fun h => no_ft h, fun _ => ?_⟩
  refine ⟨fun h => no_ft h, fun _ => ?_⟩
  refine ⟨fun _ => ?_, fun h => no_tf h⟩
  refine OpC.callV rfl rfl rfl rfl rfl rfl rfl (fun _ => rplace_ok ⟨5, dst, a, b, imm, loc, off, ix, sz, fn, acq, wk, rel, pr, su, to, ze⟩) ?_
  refine OpC.callV rfl rfl rfl rfl rfl rfl rfl (fun _ => rrg_ok a) ?_
  refine ⟨fun _ => ?_, fun h => no_tf h⟩
  exact rfl
theorem bare_6 (dst a b imm loc off ix sz fn pr su to : Int) (acq wk rel ze : Bool) : CtrV Tryz.prog 93 [.agg (ienc ⟨6, dst, a, b, imm, loc, off, ix, sz, fn, acq, wk, rel, pr, su, to, ze⟩)] (.tup [.agg (ienc ⟨0, (-1), (-1), b, imm, 0, 0, (-1), 0, 0, false, wk, false, pr, su, to, ze⟩), .b (((rgB dst && rgB a) && accB ⟨6, dst, a, b, imm, loc, off, ix, sz, fn, acq, wk, rel, pr, su, to, ze⟩) && (decide (fn = 6) || decide (fn = 1)))]) := by
  refine Ctr.enterV tabOkF (fn := Tryz.f93) rfl rfl rfl rfl rfl rfl ?_
  refine ⟨fun h => no_ft h, fun _ => ?_⟩
  refine ⟨fun h => no_ft h, fun _ => ?_⟩
  refine ⟨fun h => no_ft h, fun _ => ?_⟩
  refine ⟨fun h => no_ft h, fun _ => ?_⟩
  refine ⟨fun h => no_ft h, fun _ => ?_⟩
  refine ⟨fun _ => ?_, fun h => no_tf h⟩
  refine OpC.callV rfl rfl rfl rfl rfl rfl rfl (fun _ => rrg_ok dst) ?_
  refine OpC.callV rfl rfl rfl rfl rfl rfl rfl (fun _ => rrg_ok a) ?_
  refine OpC.callV rfl rfl rfl rfl rfl rfl rfl (fun _ => rplace_ok ⟨6, dst, a, b, imm, loc, off, ix, sz, fn, acq, wk, rel, pr, su, to, ze⟩) ?_
  refine ⟨fun _ => ?_, fun h => no_tf h⟩
  exact rfl
theorem bare_7 (dst a b imm loc off ix sz fn pr su to : Int) (acq wk rel ze : Bool) : CtrV Tryz.prog 93 [.agg (ienc ⟨7, dst, a, b, imm, loc, off, ix, sz, fn, acq, wk, rel, pr, su, to, ze⟩)] (.tup [.agg (ienc ⟨0, dst, a, b, imm, loc, off, ix, sz, fn, acq, wk, rel, 0, 0, to, ze⟩), .b (((decide (1 ≤ pr) && decide (pr ≤ 3)) && decide (1 ≤ su)) && decide (su ≤ 3))]) := by
  refine Ctr.enterV tabOkF (fn := Tryz.f93) rfl rfl rfl rfl rfl rfl ?_
  refine ⟨fun h => no_ft h, fun _ => ?_⟩
  refine ⟨fun h => no_ft h, fun _ => ?_⟩
  refine ⟨fun h => no_ft h, fun _ => ?_⟩
  refine ⟨fun h => no_ft h, fun _ => ?_⟩
  refine ⟨fun h => no_ft h, fun _ => ?_⟩
  refine ⟨fun h => no_ft h, fun _ => ?_⟩
  refine ⟨fun _ => ?_, fun h => no_tf h⟩
  refine ⟨fun h => no_ft h, fun _ => ?_⟩
  exact rfl
theorem bare_8 (dst a b imm loc off ix sz fn pr su to : Int) (acq wk rel ze : Bool) : CtrV Tryz.prog 93 [.agg (ienc ⟨8, dst, a, b, imm, loc, off, ix, sz, fn, acq, wk, rel, pr, su, to, ze⟩)] (.tup [.agg (ienc ⟨0, dst, a, b, imm, loc, off, ix, sz, fn, acq, wk, rel, pr, su, to, ze⟩), .b (true)]) := by
  refine Ctr.enterV tabOkF (fn := Tryz.f93) rfl rfl rfl rfl rfl rfl ?_
  refine ⟨fun h => no_ft h, fun _ => ?_⟩
  refine ⟨fun h => no_ft h, fun _ => ?_⟩
  refine ⟨fun h => no_ft h, fun _ => ?_⟩
  refine ⟨fun h => no_ft h, fun _ => ?_⟩
  refine ⟨fun h => no_ft h, fun _ => ?_⟩
  refine ⟨fun h => no_ft h, fun _ => ?_⟩
  refine ⟨fun h => no_ft h, fun _ => ?_⟩
  refine ⟨fun _ => ?_, fun h => no_tf h⟩
  refine ⟨fun h => no_ft h, fun _ => ?_⟩
  exact rfl
theorem bare_9 (dst a b imm loc off ix sz fn pr su to : Int) (acq wk rel ze : Bool) : CtrV Tryz.prog 93 [.agg (ienc ⟨9, dst, a, b, imm, loc, off, ix, sz, fn, acq, wk, rel, pr, su, to, ze⟩)] (.tup [.agg (ienc ⟨0, dst, (-1), b, imm, loc, off, ix, sz, fn, acq, wk, rel, pr, su, 0, false⟩), .b (rgB a)]) := by
  refine Ctr.enterV tabOkF (fn := Tryz.f93) rfl rfl rfl rfl rfl rfl ?_
  refine ⟨fun h => no_ft h, fun _ => ?_⟩
  refine ⟨fun h => no_ft h, fun _ => ?_⟩
  refine ⟨fun h => no_ft h, fun _ => ?_⟩
  refine ⟨fun h => no_ft h, fun _ => ?_⟩
  refine ⟨fun h => no_ft h, fun _ => ?_⟩
  refine ⟨fun h => no_ft h, fun _ => ?_⟩
  refine ⟨fun h => no_ft h, fun _ => ?_⟩
  refine ⟨fun h => no_ft h, fun _ => ?_⟩
  refine ⟨fun _ => ?_, fun h => no_tf h⟩
  refine OpC.callV rfl rfl rfl rfl rfl rfl rfl (fun _ => rrg_ok a) ?_
  refine ⟨fun h => no_ft h, fun _ => ?_⟩
  exact rfl
theorem bare_0 (op dst a b imm loc off ix sz fn pr su to : Int) (acq wk rel ze : Bool) (h1 : ¬ op = 1) (h2 : ¬ op = 2) (h3 : ¬ op = 3) (h4 : ¬ op = 4) (h5 : ¬ op = 5) (h6 : ¬ op = 6) (h7 : ¬ op = 7) (h8 : ¬ op = 8) (h9 : ¬ op = 9) : CtrV Tryz.prog 93 [.agg (ienc ⟨op, dst, a, b, imm, loc, off, ix, sz, fn, acq, wk, rel, pr, su, to, ze⟩)] (.tup [.agg (ienc ⟨0, dst, a, b, imm, loc, off, ix, sz, fn, acq, wk, rel, pr, su, to, ze⟩), .b false]) := by
  refine Ctr.enterV tabOkF (fn := Tryz.f93) rfl rfl rfl rfl rfl rfl ?_
  refine ⟨fun h => absurd (of_decide_eq_true h) h1, fun _ => ?_⟩
  refine ⟨fun h => absurd (of_decide_eq_true h) h2, fun _ => ?_⟩
  refine ⟨fun h => absurd (of_decide_eq_true h) h3, fun _ => ?_⟩
  refine ⟨fun h => absurd (of_decide_eq_true h) h4, fun _ => ?_⟩
  refine ⟨fun h => absurd (of_decide_eq_true h) h5, fun _ => ?_⟩
  refine ⟨fun h => absurd (of_decide_eq_true h) h6, fun _ => ?_⟩
  refine ⟨fun h => absurd (of_decide_eq_true h) h7, fun _ => ?_⟩
  refine ⟨fun h => absurd (of_decide_eq_true h) h8, fun _ => ?_⟩
  refine ⟨fun h => absurd (of_decide_eq_true h) h9, fun _ => ?_⟩
  refine ⟨fun h => ?_, fun _ => ?_⟩
  · have h : ((decide (op = 4) || decide (op = 5)) || decide (op = 6)) = true := h
    rw [decide_eq_false h4, decide_eq_false h5, decide_eq_false h6] at h
    cases h
  exact rfl
end SX
end Go.Proofs.YthkedcneehdinaaGreatDoor

/- Which instructions are well formed: one plain law for the program's and the reference's answer. Printed by uid.py. -/
set_option linter.unusedVariables false
set_option maxRecDepth 100000
namespace Go.Proofs.YthkedcneehdinaaGreatDoor
namespace SX
open Go Go.Proofs
def form1 (i : In) : Bool := (rgB i.dst && eqI ⟨1, i.dst, (-1), (-1), i.imm, 0, 0, (-1), 0, 0, false, false, false, 0, 0, 0, false⟩ i)
def form2 (i : In) : Bool := ((rgB i.dst && rgB i.a) && eqI ⟨2, i.dst, i.a, (-1), 0, 0, 0, (-1), 0, 0, false, false, false, 0, 0, 0, false⟩ i)
def form3 (i : In) : Bool := (if i.b = -1 then ((((rgB i.dst && rgB i.a) && decide (1 ≤ i.fn)) && decide (i.fn ≤ 5)) && eqI ⟨3, i.dst, i.a, i.b, i.imm, 0, 0, (-1), 0, i.fn, false, false, false, 0, 0, 0, false⟩ i) else (((((rgB i.dst && rgB i.a) && decide (1 ≤ i.fn)) && decide (i.fn ≤ 5)) && rgB i.b) && eqI ⟨3, i.dst, i.a, i.b, 0, 0, 0, (-1), 0, i.fn, false, false, false, 0, 0, 0, false⟩ i))
def form4 (i : In) : Bool := (((rgB i.dst && accB i) && !(i.acq && i.wk)) && eqI ⟨4, i.dst, (-1), (-1), 0, i.loc, i.off, i.ix, i.sz, 0, i.acq, i.wk, false, 0, 0, 0, false⟩ i)
def form5 (i : In) : Bool := (if i.a = -1 then (accB i && eqI ⟨5, (-1), i.a, (-1), i.imm, i.loc, i.off, i.ix, i.sz, 0, false, false, i.rel, 0, 0, 0, false⟩ i) else ((accB i && rgB i.a) && eqI ⟨5, (-1), i.a, (-1), 0, i.loc, i.off, i.ix, i.sz, 0, false, false, i.rel, 0, 0, 0, false⟩ i))
def form6 (i : In) : Bool := ((((rgB i.dst && rgB i.a) && accB i) && (decide (i.fn = 6) || decide (i.fn = 1))) && eqI ⟨6, i.dst, i.a, (-1), 0, i.loc, i.off, i.ix, i.sz, i.fn, i.acq, false, i.rel, 0, 0, 0, false⟩ i)
def form7 (i : In) : Bool := ((fnB i.pr && fnB i.su) && eqI ⟨7, (-1), (-1), (-1), 0, 0, 0, (-1), 0, 0, false, false, false, i.pr, i.su, 0, false⟩ i)
def form8 (i : In) : Bool := (true && eqI ⟨8, (-1), (-1), (-1), 0, 0, 0, (-1), 0, 0, false, false, false, 0, 0, 0, false⟩ i)
def form9 (i : In) : Bool := (rgB i.a && eqI ⟨9, (-1), i.a, (-1), 0, 0, 0, (-1), 0, 0, false, false, false, 0, 0, i.to, i.ze⟩ i)
def formP (i : In) : Bool :=
  if i.op = 1 then form1 i else
  if i.op = 2 then form2 i else
  if i.op = 3 then form3 i else
  if i.op = 4 then form4 i else
  if i.op = 5 then form5 i else
  if i.op = 6 then form6 i else
  if i.op = 7 then form7 i else
  if i.op = 8 then form8 i else
  if i.op = 9 then form9 i else
  false
theorem formed_ok (i : In) : CtrV Tryz.prog 146 [.agg (ienc i)] (.b (formP i)) := by
  obtain ⟨op, dst, a, b, imm, loc, off, ix, sz, fn, acq, wk, rel, pr, su, to, ze⟩ := i
  by_cases h1 : op = 1
  · subst h1
    exact formed_1 dst a b imm loc off ix sz fn pr su to acq wk rel ze
  by_cases h2 : op = 2
  · subst h2
    exact formed_2 dst a b imm loc off ix sz fn pr su to acq wk rel ze
  by_cases h3 : op = 3
  · subst h3
    by_cases hb : b = -1
    · have := formed_3i dst a b imm loc off ix sz fn pr su to acq wk rel ze hb
      show CtrV _ _ _ (.b (form3 ⟨3, dst, a, b, imm, loc, off, ix, sz, fn, acq, wk, rel, pr, su, to, ze⟩))
      unfold form3
      rw [if_pos (show b = -1 from hb)]; exact this
    · have := formed_3r dst a b imm loc off ix sz fn pr su to acq wk rel ze hb
      show CtrV _ _ _ (.b (form3 ⟨3, dst, a, b, imm, loc, off, ix, sz, fn, acq, wk, rel, pr, su, to, ze⟩))
      unfold form3
      rw [if_neg (show ¬ b = -1 from hb)]; exact this
  by_cases h4 : op = 4
  · subst h4
    exact formed_4 dst a b imm loc off ix sz fn pr su to acq wk rel ze
  by_cases h5 : op = 5
  · subst h5
    by_cases hb : a = -1
    · have := formed_5i dst a b imm loc off ix sz fn pr su to acq wk rel ze hb
      show CtrV _ _ _ (.b (form5 ⟨5, dst, a, b, imm, loc, off, ix, sz, fn, acq, wk, rel, pr, su, to, ze⟩))
      unfold form5
      rw [if_pos (show a = -1 from hb)]; exact this
    · have := formed_5r dst a b imm loc off ix sz fn pr su to acq wk rel ze hb
      show CtrV _ _ _ (.b (form5 ⟨5, dst, a, b, imm, loc, off, ix, sz, fn, acq, wk, rel, pr, su, to, ze⟩))
      unfold form5
      rw [if_neg (show ¬ a = -1 from hb)]; exact this
  by_cases h6 : op = 6
  · subst h6
    exact formed_6 dst a b imm loc off ix sz fn pr su to acq wk rel ze
  by_cases h7 : op = 7
  · subst h7
    exact formed_7 dst a b imm loc off ix sz fn pr su to acq wk rel ze
  by_cases h8 : op = 8
  · subst h8
    exact formed_8 dst a b imm loc off ix sz fn pr su to acq wk rel ze
  by_cases h9 : op = 9
  · subst h9
    exact formed_9 dst a b imm loc off ix sz fn pr su to acq wk rel ze
  have := formed_0 op dst a b imm loc off ix sz fn pr su to acq wk rel ze h1 h2 h3 h4 h5 h6 h7 h8 h9
  unfold formP
  simp only [if_neg h1, if_neg h2, if_neg h3, if_neg h4, if_neg h5, if_neg h6, if_neg h7, if_neg h8, if_neg h9]
  exact this
def z0 : In := ⟨0, (-1), (-1), (-1), 0, 0, 0, (-1), 0, 0, false, false, false, 0, 0, 0, false⟩
theorem bf_1 (dst a b imm loc off ix sz fn pr su to : Int) (acq wk rel ze : Bool) : ((rgB dst) && eqI ⟨0, (-1), a, b, 0, loc, off, ix, sz, fn, acq, wk, rel, pr, su, to, ze⟩ z0) = formP ⟨1, dst, a, b, imm, loc, off, ix, sz, fn, acq, wk, rel, pr, su, to, ze⟩ := by
  show _ = form1 ⟨1, dst, a, b, imm, loc, off, ix, sz, fn, acq, wk, rel, pr, su, to, ze⟩
  unfold form1
  rw [Bool.eq_iff_iff]
  simp only [eqI, z0, fnB, Bool.and_eq_true, Bool.or_eq_true, decide_eq_true_eq, beq_iff_eq]
  grind
theorem bf_2 (dst a b imm loc off ix sz fn pr su to : Int) (acq wk rel ze : Bool) : ((rgB dst && rgB a) && eqI ⟨0, (-1), (-1), b, imm, loc, off, ix, sz, fn, acq, wk, rel, pr, su, to, ze⟩ z0) = formP ⟨2, dst, a, b, imm, loc, off, ix, sz, fn, acq, wk, rel, pr, su, to, ze⟩ := by
  show _ = form2 ⟨2, dst, a, b, imm, loc, off, ix, sz, fn, acq, wk, rel, pr, su, to, ze⟩
  unfold form2
  rw [Bool.eq_iff_iff]
  simp only [eqI, z0, fnB, Bool.and_eq_true, Bool.or_eq_true, decide_eq_true_eq, beq_iff_eq]
  grind
theorem bf_3 (dst a b imm loc off ix sz fn pr su to : Int) (acq wk rel ze : Bool) : ((((((rgB dst && rgB a) && decide (1 ≤ fn)) && decide (fn ≤ 5))) && (decide (b = -1) || (rgB b && decide (imm = 0)))) && eqI ⟨0, (-1), (-1), (-1), 0, loc, off, ix, sz, 0, acq, wk, rel, pr, su, to, ze⟩ z0) = formP ⟨3, dst, a, b, imm, loc, off, ix, sz, fn, acq, wk, rel, pr, su, to, ze⟩ := by
  show _ = form3 ⟨3, dst, a, b, imm, loc, off, ix, sz, fn, acq, wk, rel, pr, su, to, ze⟩
  unfold form3
  by_cases hb : b = -1
  · subst hb
    rw [if_pos (show (-1 : Int) = -1 from rfl)]
    rw [Bool.eq_iff_iff]
    simp only [eqI, z0, Bool.and_eq_true, Bool.or_eq_true, decide_eq_true_eq, beq_iff_eq]
    grind
  · rw [if_neg (show ¬ b = -1 from hb)]
    rw [Bool.eq_iff_iff]
    simp only [eqI, z0, Bool.and_eq_true, Bool.or_eq_true, decide_eq_true_eq, beq_iff_eq]
    grind
theorem bf_4 (dst a b imm loc off ix sz fn pr su to : Int) (acq wk rel ze : Bool) : (((rgB dst && accB ⟨4, dst, a, b, imm, loc, off, ix, sz, fn, acq, wk, rel, pr, su, to, ze⟩) && !(acq && wk)) && eqI ⟨0, (-1), a, b, imm, 0, 0, (-1), 0, fn, false, false, rel, pr, su, to, ze⟩ z0) = formP ⟨4, dst, a, b, imm, loc, off, ix, sz, fn, acq, wk, rel, pr, su, to, ze⟩ := by
  show _ = form4 ⟨4, dst, a, b, imm, loc, off, ix, sz, fn, acq, wk, rel, pr, su, to, ze⟩
  unfold form4
  generalize accB ⟨4, dst, a, b, imm, loc, off, ix, sz, fn, acq, wk, rel, pr, su, to, ze⟩ = ac
  rw [Bool.eq_iff_iff]
  simp only [eqI, z0, fnB, Bool.and_eq_true, Bool.or_eq_true, decide_eq_true_eq, beq_iff_eq]
  grind
theorem bf_5 (dst a b imm loc off ix sz fn pr su to : Int) (acq wk rel ze : Bool) : ((accB ⟨5, dst, a, b, imm, loc, off, ix, sz, fn, acq, wk, rel, pr, su, to, ze⟩ && (decide (a = -1) || (rgB a && decide (imm = 0)))) && eqI ⟨0, dst, (-1), b, 0, 0, 0, (-1), 0, fn, acq, wk, false, pr, su, to, ze⟩ z0) = formP ⟨5, dst, a, b, imm, loc, off, ix, sz, fn, acq, wk, rel, pr, su, to, ze⟩ := by
  show _ = form5 ⟨5, dst, a, b, imm, loc, off, ix, sz, fn, acq, wk, rel, pr, su, to, ze⟩
  unfold form5
  generalize accB ⟨5, dst, a, b, imm, loc, off, ix, sz, fn, acq, wk, rel, pr, su, to, ze⟩ = ac
  by_cases hb : a = -1
  · subst hb
    rw [if_pos (show (-1 : Int) = -1 from rfl)]
    rw [Bool.eq_iff_iff]
    simp only [eqI, z0, Bool.and_eq_true, Bool.or_eq_true, decide_eq_true_eq, beq_iff_eq]
    grind
  · rw [if_neg (show ¬ a = -1 from hb)]
    rw [Bool.eq_iff_iff]
    simp only [eqI, z0, Bool.and_eq_true, Bool.or_eq_true, decide_eq_true_eq, beq_iff_eq]
    grind
theorem bf_6 (dst a b imm loc off ix sz fn pr su to : Int) (acq wk rel ze : Bool) : ((((rgB dst && rgB a) && accB ⟨6, dst, a, b, imm, loc, off, ix, sz, fn, acq, wk, rel, pr, su, to, ze⟩) && (decide (fn = 6) || decide (fn = 1))) && eqI ⟨0, (-1), (-1), b, imm, 0, 0, (-1), 0, 0, false, wk, false, pr, su, to, ze⟩ z0) = formP ⟨6, dst, a, b, imm, loc, off, ix, sz, fn, acq, wk, rel, pr, su, to, ze⟩ := by
  show _ = form6 ⟨6, dst, a, b, imm, loc, off, ix, sz, fn, acq, wk, rel, pr, su, to, ze⟩
  unfold form6
  generalize accB ⟨6, dst, a, b, imm, loc, off, ix, sz, fn, acq, wk, rel, pr, su, to, ze⟩ = ac
  rw [Bool.eq_iff_iff]
  simp only [eqI, z0, fnB, Bool.and_eq_true, Bool.or_eq_true, decide_eq_true_eq, beq_iff_eq]
  grind
theorem bf_7 (dst a b imm loc off ix sz fn pr su to : Int) (acq wk rel ze : Bool) : ((((decide (1 ≤ pr) && decide (pr ≤ 3)) && decide (1 ≤ su)) && decide (su ≤ 3)) && eqI ⟨0, dst, a, b, imm, loc, off, ix, sz, fn, acq, wk, rel, 0, 0, to, ze⟩ z0) = formP ⟨7, dst, a, b, imm, loc, off, ix, sz, fn, acq, wk, rel, pr, su, to, ze⟩ := by
  show _ = form7 ⟨7, dst, a, b, imm, loc, off, ix, sz, fn, acq, wk, rel, pr, su, to, ze⟩
  unfold form7
  rw [Bool.eq_iff_iff]
  simp only [eqI, z0, fnB, Bool.and_eq_true, Bool.or_eq_true, decide_eq_true_eq, beq_iff_eq]
  grind
theorem bf_8 (dst a b imm loc off ix sz fn pr su to : Int) (acq wk rel ze : Bool) : ((true) && eqI ⟨0, dst, a, b, imm, loc, off, ix, sz, fn, acq, wk, rel, pr, su, to, ze⟩ z0) = formP ⟨8, dst, a, b, imm, loc, off, ix, sz, fn, acq, wk, rel, pr, su, to, ze⟩ := by
  show _ = form8 ⟨8, dst, a, b, imm, loc, off, ix, sz, fn, acq, wk, rel, pr, su, to, ze⟩
  unfold form8
  rw [Bool.eq_iff_iff]
  simp only [eqI, z0, fnB, Bool.and_eq_true, Bool.or_eq_true, decide_eq_true_eq, beq_iff_eq]
  grind
theorem bf_9 (dst a b imm loc off ix sz fn pr su to : Int) (acq wk rel ze : Bool) : ((rgB a) && eqI ⟨0, dst, (-1), b, imm, loc, off, ix, sz, fn, acq, wk, rel, pr, su, 0, false⟩ z0) = formP ⟨9, dst, a, b, imm, loc, off, ix, sz, fn, acq, wk, rel, pr, su, to, ze⟩ := by
  show _ = form9 ⟨9, dst, a, b, imm, loc, off, ix, sz, fn, acq, wk, rel, pr, su, to, ze⟩
  unfold form9
  rw [Bool.eq_iff_iff]
  simp only [eqI, z0, fnB, Bool.and_eq_true, Bool.or_eq_true, decide_eq_true_eq, beq_iff_eq]
  grind
end SX
end Go.Proofs.YthkedcneehdinaaGreatDoor

/- Right: is an instruction good between two places? Printed by uie.py. -/
set_option linter.unusedVariables false
set_option maxRecDepth 100000
namespace Go.Proofs.YthkedcneehdinaaGreatDoor
namespace SX
open Go Go.Proofs
theorem bare_ok (i : In) : ∃ c o, CtrV Tryz.prog 93 [.agg (ienc i)] (.tup [.agg (ienc c), .b o]) ∧ (o && eqI c z0) = formP i := by
  obtain ⟨op, dst, a, b, imm, loc, off, ix, sz, fn, acq, wk, rel, pr, su, to, ze⟩ := i
  by_cases h1 : op = 1
  · subst h1
    exact ⟨_, _, bare_1 dst a b imm loc off ix sz fn pr su to acq wk rel ze, bf_1 dst a b imm loc off ix sz fn pr su to acq wk rel ze⟩
  by_cases h2 : op = 2
  · subst h2
    exact ⟨_, _, bare_2 dst a b imm loc off ix sz fn pr su to acq wk rel ze, bf_2 dst a b imm loc off ix sz fn pr su to acq wk rel ze⟩
  by_cases h3 : op = 3
  · subst h3
    exact ⟨_, _, bare_3 dst a b imm loc off ix sz fn pr su to acq wk rel ze, bf_3 dst a b imm loc off ix sz fn pr su to acq wk rel ze⟩
  by_cases h4 : op = 4
  · subst h4
    exact ⟨_, _, bare_4 dst a b imm loc off ix sz fn pr su to acq wk rel ze, bf_4 dst a b imm loc off ix sz fn pr su to acq wk rel ze⟩
  by_cases h5 : op = 5
  · subst h5
    exact ⟨_, _, bare_5 dst a b imm loc off ix sz fn pr su to acq wk rel ze, bf_5 dst a b imm loc off ix sz fn pr su to acq wk rel ze⟩
  by_cases h6 : op = 6
  · subst h6
    exact ⟨_, _, bare_6 dst a b imm loc off ix sz fn pr su to acq wk rel ze, bf_6 dst a b imm loc off ix sz fn pr su to acq wk rel ze⟩
  by_cases h7 : op = 7
  · subst h7
    exact ⟨_, _, bare_7 dst a b imm loc off ix sz fn pr su to acq wk rel ze, bf_7 dst a b imm loc off ix sz fn pr su to acq wk rel ze⟩
  by_cases h8 : op = 8
  · subst h8
    exact ⟨_, _, bare_8 dst a b imm loc off ix sz fn pr su to acq wk rel ze, bf_8 dst a b imm loc off ix sz fn pr su to acq wk rel ze⟩
  by_cases h9 : op = 9
  · subst h9
    exact ⟨_, _, bare_9 dst a b imm loc off ix sz fn pr su to acq wk rel ze, bf_9 dst a b imm loc off ix sz fn pr su to acq wk rel ze⟩
  refine ⟨_, _, bare_0 op dst a b imm loc off ix sz fn pr su to acq wk rel ze h1 h2 h3 h4 h5 h6 h7 h8 h9, ?_⟩
  unfold formP
  simp only [if_neg h1, if_neg h2, if_neg h3, if_neg h4, if_neg h5, if_neg h6, if_neg h7, if_neg h8, if_neg h9, Bool.false_and]
def toX (i : In) (lo hi : Int) : Bool := decide (i.op = 9) && (decide (i.to ≤ lo) || decide (hi < i.to))
def rgtF (i : In) (lo hi : Int) : Int := if formP i = true then (if toX i lo hi = true then 35 else 0) else 34
theorem uright_ok (i : In) (lo hi : Int) : CtrV Tryz.prog 82 [.agg (ienc i), .i .i64 lo, .i .i64 hi] (.i .i64 (rgtF i lo hi)) := by
  refine Ctr.enterV tabOkF (fn := Tryz.f82) rfl rfl rfl rfl rfl rfl ?_
  refine OpC.callV rfl rfl rfl rfl rfl rfl rfl (fun _ => formed_ok i) ?_
  unfold rgtF
  cases formP i with
  | false =>
    refine ⟨fun _ => ?_, fun h => no_tf h⟩
    exact rfl
  | true =>
    refine ⟨fun h => no_ft h, fun _ => ?_⟩
    refine ⟨fun h => ?_, fun h => ?_⟩
    · have h : toX i lo hi = true := h
      rw [if_pos rfl, if_pos h]
      exact rfl
    · have h : toX i lo hi = false := h
      rw [if_pos rfl, if_neg (by rw [h]; decide)]
      exact rfl
theorem rright3_ok (i : In) (lo hi : Int) : CtrV Tryz.prog 50 [.agg (ienc i), .i .i64 lo, .i .i64 hi] (.i .i64 (rgtF i lo hi)) := by
  obtain ⟨c, o, hc, he⟩ := bare_ok i
  refine Ctr.enterV tabOkF (fn := Tryz.f50) rfl rfl rfl rfl rfl rfl ?_
  refine OpC.callV rfl rfl rfl rfl rfl rfl rfl (fun _ => hc) ?_
  unfold rgtF
  refine ⟨fun h => ?_, fun h => ?_⟩
  · have h : ((!o) || (!eqI c z0)) = true := h
    rw [if_neg (by rw [← he]; cases o <;> cases hq : eqI c z0 <;> simp_all)]
    exact rfl
  · have h : ((!o) || (!eqI c z0)) = false := h
    rw [if_pos (by rw [← he]; cases o <;> cases hq : eqI c z0 <;> simp_all)]
    refine ⟨fun h => ?_, fun h => ?_⟩
    · have h : toX i lo hi = true := h
      rw [if_pos h]
      exact rfl
    · have h : toX i lo hi = false := h
      rw [if_neg (by rw [h]; decide)]
      exact rfl
end SX
end Go.Proofs.YthkedcneehdinaaGreatDoor

/- Texts of instructions: places of memory. Printed by asb.py. -/
set_option linter.unusedVariables false
set_option maxRecDepth 100000
namespace Go.Proofs.YthkedcneehdinaaGreatDoor
namespace SX
open Go Go.Proofs
end SX
end Go.Proofs.YthkedcneehdinaaGreatDoor

/- Words of a text: a number's digits (written by tools/tkb.py). -/
set_option linter.unusedVariables false
set_option maxRecDepth 100000
namespace Go.Proofs.YthkedcneehdinaaGreatDoor
namespace SX
open Go Go.Proofs
def lowI (n : Int) : Int := bits .or .u8 n 32
theorem lower_ok (n : Int) : CtrV Tryz.prog 206 [.i .u8 n] (.i .u8 (lowI n)) := by
  refine Ctr.enterV tabOkF (fn := Tryz.f206) rfl rfl rfl rfl rfl rfl ?_
  exact rfl
/-- A byte's digit, as the program reckons it. -/
def digOk (n : Nat) : Bool :=
  if decide (48 ≤ (n : Int)) && decide ((n : Int) ≤ 57) then decide (IntKind.u8.wrap ((n : Int) - 48) = (digV n : Int))
  else if numB n then (decide (97 ≤ lowI n) && decide (lowI n ≤ 122)) && decide (IntKind.u8.wrap (IntKind.u8.wrap (lowI n - 97) + 10) = (digV n : Int)) else true
theorem digOk_all : ∀ n : Fin 256, digOk n.val = true := by decide +kernel
theorem dig_num {c : UInt8} (h : (decide (48 ≤ (c.toNat : Int)) && decide ((c.toNat : Int) ≤ 57)) = true) : IntKind.u8.wrap ((c.toNat : Int) - 48) = (digV c.toNat : Int) := by
  have := digOk_all ⟨c.toNat, c.toNat_lt⟩
  unfold digOk at this
  simp only [h, if_true, decide_eq_true_eq] at this
  exact this
theorem dig_let {c : UInt8} (hn : numB (c.toNat : Int) = true) (h : (decide (48 ≤ (c.toNat : Int)) && decide ((c.toNat : Int) ≤ 57)) = false) :
    (decide (97 ≤ lowI c.toNat) && decide (lowI c.toNat ≤ 122)) = true ∧ IntKind.u8.wrap (IntKind.u8.wrap (lowI c.toNat - 97) + 10) = (digV c.toNat : Int) := by
  have := digOk_all ⟨c.toNat, c.toNat_lt⟩
  unfold digOk at this
  simp only [h, hn, if_true, Bool.false_eq_true, if_false, Bool.and_eq_true, decide_eq_true_eq] at this
  simp only [Bool.and_eq_true, decide_eq_true_eq]
  exact this
theorem valB_snoc {b : Nat} : ∀ {l : List UInt8} {c : UInt8} {a n : Nat}, valB b l a = some n → valB b (l ++ [c]) a = if digV c.toNat < b then some (n * b + digV c.toNat) else none
  | [], c, a, n, h => by simp only [valB, Option.some.injEq] at h; subst h; simp [valB]
  | x :: l, c, a, n, h => by
    simp only [valB, List.cons_append] at h ⊢
    split at h
    · rename_i hx; rw [if_pos hx]; exact valB_snoc h
    · cases h
theorem valB_none {b : Nat} : ∀ {l r : List UInt8} {a : Nat}, valB b l a = none → valB b (l ++ r) a = none
  | [], r, a, h => by simp [valB] at h
  | x :: l, r, a, h => by
    simp only [valB, List.cons_append] at h ⊢
    split at h
    · rename_i hx; rw [if_pos hx]; exact valB_none h
    · rename_i hx; rw [if_neg hx]
theorem take_snoc {s : List UInt8} {i : Nat} (hi : i < s.length) : s.take (i + 1) = s.take i ++ [s.getD i 0] := by
  rw [List.take_add_one]
  simp [List.getElem?_eq_getElem hi, List.getD_eq_getElem?_getD]
theorem valB_next {b : Nat} {s : List UInt8} {i n : Nat} (hi : i < s.length) (h : valB b (s.take i) 0 = some n) (hd : digV (s.getD i 0).toNat < b) : valB b (s.take (i + 1)) 0 = some (n * b + digV (s.getD i 0).toNat) := by
  rw [take_snoc hi, valB_snoc h, if_pos hd]
theorem valB_bad {b : Nat} {s : List UInt8} {i n : Nat} (hi : i < s.length) (h : valB b (s.take i) 0 = some n) (hd : ¬ digV (s.getD i 0).toNat < b) : valB b s 0 = none := by
  have h1 : valB b (s.take (i + 1)) 0 = none := by rw [take_snoc hi, valB_snoc h, if_neg hd]
  have := valB_none (r := s.drop (i + 1)) h1
  rwa [List.take_append_drop] at this
/-- What ParseUint makes of digits that are few enough. -/
def puF (b : Nat) (s : List UInt8) : Option Nat := if s = [] then none else valB b s 0
def puV : Option Nat → SV
  | some n => .tup [.i .u64 n, .raw .nilIface]
  | none => .tup [.i .u64 0, .iface 213 (.i .i64 2)]
theorem wu64 {x : Int} (h1 : 0 ≤ x) (h2 : x ≤ 18446744073709551615) : IntKind.u64.wrap x = x := IntWalk.u64_in x ⟨h1, h2⟩

set_option maxHeartbeats 4000000 in
theorem ipu10_ok (s : List UInt8) (hn : ∀ c ∈ s, numB (c.toNat : Int) = true) (hl : s.length ≤ 19) : CtrV Tryz.prog 151 [.s s, .i .i64 10, .i .i64 64] (puV (puF 10 s)) := by
  refine Ctr.enterV tabOkF (fn := Tryz.f151) rfl rfl rfl rfl rfl (by unfold puV; split <;> rfl) ?_
  refine ⟨fun h => ?_, fun h => ?_⟩
  · have h : s = [] := of_decide_eq_true h
    subst h; rfl
  have hne : s ≠ [] := of_decide_eq_false h
  have hpu : puF 10 s = valB 10 s 0 := by unfold puF; rw [if_neg hne]
  refine ⟨fun _ => ?_, fun h => absurd h (by decide)⟩
  refine ⟨fun h => absurd h (by decide), fun _ => ?_⟩
  refine ⟨fun h => absurd h (by decide), fun _ => ?_⟩
  refine ⟨fun _ => ?_, fun h => absurd h (by decide)⟩
  refine ⟨fun _ => by decide, ?_⟩
  refine OpC.bytes tabOkF rfl rfl rfl rfl rfl rfl rfl rfl rfl fun ad cap => ?_
  refine WpC.loop tabOkF (β := Nat × Nat) (fun x => x.1 ≤ s.length ∧ valB 10 (s.take x.1) 0 = some x.2 ∧ x.2 < 10 ^ x.1) (fun x => [(13, .i .u64 x.2), (101, .i .i64 x.1), (12, .b false)]) (fun _ => []) (fun x => s.length - x.1) (0, 0) 23384026197294446688723656123004069511501514518720 ⟨Nat.zero_le _, rfl, by decide⟩ ?_ ?_
  · exact ⟨rfl, ⟨⟨rfl, rfl, rfl⟩, ⟨rfl, rfl, rfl⟩, ⟨rfl, rfl, rfl⟩, trivial⟩, ⟨[], rfl⟩, trivial, rfl⟩
  · rintro ⟨i, n⟩ ⟨hi, hv, hlt⟩
    simp only at hi hv hlt
    refine ⟨fun h2 => ?_, fun h2 => ?_⟩
    · have h2 : i < s.length := by
        have h2 : decide ((i : Int) < s.length) = true := h2
        simpa using h2
      have hpw : 10 ^ i ≤ 1000000000000000000 := by
        have : 10 ^ i ≤ 10 ^ 18 := Nat.pow_le_pow_right (by decide) (by omega)
        exact Nat.le_trans this (by decide)
      have hmem : numB ((s.getD i 0).toNat : Int) = true := hn _ (by
        rw [List.getD_eq_getElem?_getD, List.getElem?_eq_getElem h2]; exact List.getElem_mem h2)
      refine ⟨fun _ => ⟨by omega, by omega⟩, ?_⟩
      refine ⟨fun h3 => ?_, fun _ => ?_⟩
      · exfalso
        have h3 : (decide (((s.getD i 0).toNat : Int) = 95) && decide ((10 : Int) = 0)) = true := h3
        simp at h3
      have fin : ∀ D : Int, D = (digV (s.getD i 0).toNat : Int) → digV (s.getD i 0).toNat < 10 → IntKind.u64.wrap (IntKind.u64.wrap ((n : Int) * IntKind.u64.wrap 10) + IntKind.u64.wrap D) = ((n * 10 + digV (s.getD i 0).toNat : Nat) : Int) ∧ IntKind.u64.wrap ((n : Int) * IntKind.u64.wrap 10) = ((n * 10 : Nat) : Int) := by
        intro D hD hd
        have e1 : IntKind.u64.wrap 10 = 10 := rfl
        have e2 : IntKind.u64.wrap ((n : Int) * 10) = (n : Int) * 10 := wu64 (by omega) (by omega)
        have e3 : IntKind.u64.wrap D = D := wu64 (by omega) (by omega)
        rw [e1, e2, e3, wu64 (by omega) (by omega), hD]
        exact ⟨by push_cast; rfl, by push_cast; rfl⟩
      refine ⟨fun h4 => ?_, fun h4 => ?_⟩
      · have h4 : (decide (48 ≤ ((s.getD i 0).toNat : Int)) && decide (((s.getD i 0).toNat : Int) ≤ 57)) = true := h4
        have hD := dig_num h4
        refine ⟨fun h5 => ?_, fun h5 => ?_⟩
        · have h5 : decide (IntKind.u8.wrap 10 ≤ IntKind.u8.wrap (((s.getD i 0).toNat : Int) - 48)) = true := h5
          have h5 := of_decide_eq_true h5
          have e8 : IntKind.u8.wrap 10 = 10 := rfl
          rw [e8, hD] at h5
          show _ = puV (puF 10 s)
          rw [hpu, valB_bad h2 hv (by omega)]
          rfl
        · have h5 : decide (IntKind.u8.wrap 10 ≤ IntKind.u8.wrap (((s.getD i 0).toNat : Int) - 48)) = false := h5
          have h5 := of_decide_eq_false h5
          have e8 : IntKind.u8.wrap 10 = 10 := rfl
          rw [e8, hD] at h5
          have hd : digV (s.getD i 0).toNat < 10 := by omega
          obtain ⟨f1, f2⟩ := fin _ hD hd
          refine ⟨fun h6 => ?_, fun _ => ⟨fun h7 => ?_, fun _ => ?_⟩⟩
          · have h6 : decide ((1844674407370955162 : Int) ≤ n) = true := h6
            have h6 := of_decide_eq_true h6
            omega
          · exfalso
            have h7 : (decide (IntKind.u64.wrap (IntKind.u64.wrap ((n : Int) * IntKind.u64.wrap 10) + IntKind.u64.wrap (IntKind.u8.wrap (((s.getD i 0).toNat : Int) - 48))) < IntKind.u64.wrap ((n : Int) * IntKind.u64.wrap 10)) || decide ((18446744073709551615 : Int) < IntKind.u64.wrap (IntKind.u64.wrap ((n : Int) * IntKind.u64.wrap 10) + IntKind.u64.wrap (IntKind.u8.wrap (((s.getD i 0).toNat : Int) - 48))))) = true := h7
            rw [f1, f2] at h7
            simp only [Bool.or_eq_true, decide_eq_true_eq] at h7
            omega
          · refine ⟨(i + 1, n * 10 + digV (s.getD i 0).toNat), ⟨h2, valB_next h2 hv hd, ?_⟩, by show s.length - (i + 1) < s.length - i; omega, rfl, ⟨⟨?_, rfl, rfl⟩, ⟨?_, rfl, rfl⟩, ⟨rfl, rfl, rfl⟩, trivial⟩, ⟨[], rfl⟩, trivial, rfl⟩
            · show n * 10 + digV (s.getD i 0).toNat < 10 ^ (i + 1)
              rw [Nat.pow_succ]; omega
            · exact congrArg (SV.i .u64) f1
            · show SV.i .i64 (IntKind.i64.wrap ((i : Int) + 1)) = SV.i .i64 ((i + 1 : Nat) : Int)
              rw [w64 (by omega) (by omega)]; rfl
      · have h4 : (decide (48 ≤ ((s.getD i 0).toNat : Int)) && decide (((s.getD i 0).toNat : Int) ≤ 57)) = false := h4
        obtain ⟨hD1, hD⟩ := dig_let hmem h4
        refine OpC.callV rfl rfl rfl rfl rfl rfl rfl (fun _ => lower_ok _) ?_
        refine OpC.callV rfl rfl rfl rfl rfl rfl rfl (fun _ => lower_ok _) ?_
        refine ⟨fun _ => ?_, fun h5 => absurd (hD1.symm.trans h5) (by decide)⟩
        refine OpC.callV rfl rfl rfl rfl rfl rfl rfl (fun _ => lower_ok _) ?_
        refine ⟨fun h5 => ?_, fun h5 => ?_⟩
        · have h5 : decide (IntKind.u8.wrap 10 ≤ IntKind.u8.wrap (IntKind.u8.wrap (lowI ((s.getD i 0).toNat : Int) - 97) + 10)) = true := h5
          have h5 := of_decide_eq_true h5
          have e8 : IntKind.u8.wrap 10 = 10 := rfl
          rw [e8, hD] at h5
          show _ = puV (puF 10 s)
          rw [hpu, valB_bad h2 hv (by omega)]
          rfl
        · have h5 : decide (IntKind.u8.wrap 10 ≤ IntKind.u8.wrap (IntKind.u8.wrap (lowI ((s.getD i 0).toNat : Int) - 97) + 10)) = false := h5
          have h5 := of_decide_eq_false h5
          have e8 : IntKind.u8.wrap 10 = 10 := rfl
          rw [e8, hD] at h5
          have hd : digV (s.getD i 0).toNat < 10 := by omega
          obtain ⟨f1, f2⟩ := fin _ hD hd
          refine ⟨fun h6 => ?_, fun _ => ⟨fun h7 => ?_, fun _ => ?_⟩⟩
          · have h6 : decide ((1844674407370955162 : Int) ≤ n) = true := h6
            have h6 := of_decide_eq_true h6
            omega
          · exfalso
            have h7 : (decide (IntKind.u64.wrap (IntKind.u64.wrap ((n : Int) * IntKind.u64.wrap 10) + IntKind.u64.wrap (IntKind.u8.wrap (IntKind.u8.wrap (lowI ((s.getD i 0).toNat : Int) - 97) + 10))) < IntKind.u64.wrap ((n : Int) * IntKind.u64.wrap 10)) || decide ((18446744073709551615 : Int) < IntKind.u64.wrap (IntKind.u64.wrap ((n : Int) * IntKind.u64.wrap 10) + IntKind.u64.wrap (IntKind.u8.wrap (IntKind.u8.wrap (lowI ((s.getD i 0).toNat : Int) - 97) + 10))))) = true := h7
            rw [f1, f2] at h7
            simp only [Bool.or_eq_true, decide_eq_true_eq] at h7
            omega
          · refine ⟨(i + 1, n * 10 + digV (s.getD i 0).toNat), ⟨h2, valB_next h2 hv hd, ?_⟩, by show s.length - (i + 1) < s.length - i; omega, rfl, ⟨⟨?_, rfl, rfl⟩, ⟨?_, rfl, rfl⟩, ⟨rfl, rfl, rfl⟩, trivial⟩, ⟨[], rfl⟩, trivial, rfl⟩
            · show n * 10 + digV (s.getD i 0).toNat < 10 ^ (i + 1)
              rw [Nat.pow_succ]; omega
            · exact congrArg (SV.i .u64) f1
            · show SV.i .i64 (IntKind.i64.wrap ((i : Int) + 1)) = SV.i .i64 ((i + 1 : Nat) : Int)
              rw [w64 (by omega) (by omega)]; rfl
    · have h2 : i = s.length := by
        have h2 : decide ((i : Int) < s.length) = false := h2
        simp at h2; omega
      subst h2
      rw [List.take_length] at hv
      refine OpC.callV rfl rfl rfl rfl rfl rfl rfl (r := .b true) (fun hg => (by cases hg)) ?_
      refine ⟨fun h => (by cases h), fun _ => ?_⟩
      show _ = puV (puF 10 s)
      rw [hpu, hv]
      rfl

set_option maxHeartbeats 4000000 in
theorem ipu16_ok (s : List UInt8) (hn : ∀ c ∈ s, numB (c.toNat : Int) = true) (hl : s.length ≤ 16) : CtrV Tryz.prog 151 [.s s, .i .i64 16, .i .i64 64] (puV (puF 16 s)) := by
  refine Ctr.enterV tabOkF (fn := Tryz.f151) rfl rfl rfl rfl rfl (by unfold puV; split <;> rfl) ?_
  refine ⟨fun h => ?_, fun h => ?_⟩
  · have h : s = [] := of_decide_eq_true h
    subst h; rfl
  have hne : s ≠ [] := of_decide_eq_false h
  have hpu : puF 16 s = valB 16 s 0 := by unfold puF; rw [if_neg hne]
  refine ⟨fun _ => ?_, fun h => absurd h (by decide)⟩
  refine ⟨fun h => absurd h (by decide), fun _ => ?_⟩
  refine ⟨fun h => absurd h (by decide), fun _ => ?_⟩
  refine ⟨fun h => absurd h (by decide), fun _ => ?_⟩
  refine ⟨fun _ => ?_, fun h => absurd h (by decide)⟩
  refine ⟨fun _ => by decide, ?_⟩
  refine OpC.bytes tabOkF rfl rfl rfl rfl rfl rfl rfl rfl rfl fun ad cap => ?_
  refine WpC.loop tabOkF (β := Nat × Nat) (fun x => x.1 ≤ s.length ∧ valB 16 (s.take x.1) 0 = some x.2 ∧ x.2 < 16 ^ x.1) (fun x => [(13, .i .u64 x.2), (101, .i .i64 x.1), (12, .b false)]) (fun _ => []) (fun x => s.length - x.1) (0, 0) 23384026197294446688723656123004069511501514518720 ⟨Nat.zero_le _, rfl, by decide⟩ ?_ ?_
  · exact ⟨rfl, ⟨⟨rfl, rfl, rfl⟩, ⟨rfl, rfl, rfl⟩, ⟨rfl, rfl, rfl⟩, trivial⟩, ⟨[], rfl⟩, trivial, rfl⟩
  · rintro ⟨i, n⟩ ⟨hi, hv, hlt⟩
    simp only at hi hv hlt
    refine ⟨fun h2 => ?_, fun h2 => ?_⟩
    · have h2 : i < s.length := by
        have h2 : decide ((i : Int) < s.length) = true := h2
        simpa using h2
      have hpw : 16 ^ i ≤ 1152921504606846976 := by
        have : 16 ^ i ≤ 16 ^ 15 := Nat.pow_le_pow_right (by decide) (by omega)
        exact Nat.le_trans this (by decide)
      have hmem : numB ((s.getD i 0).toNat : Int) = true := hn _ (by
        rw [List.getD_eq_getElem?_getD, List.getElem?_eq_getElem h2]; exact List.getElem_mem h2)
      refine ⟨fun _ => ⟨by omega, by omega⟩, ?_⟩
      refine ⟨fun h3 => ?_, fun _ => ?_⟩
      · exfalso
        have h3 : (decide (((s.getD i 0).toNat : Int) = 95) && decide ((16 : Int) = 0)) = true := h3
        simp at h3
      have fin : ∀ D : Int, D = (digV (s.getD i 0).toNat : Int) → digV (s.getD i 0).toNat < 16 → IntKind.u64.wrap (IntKind.u64.wrap ((n : Int) * IntKind.u64.wrap 16) + IntKind.u64.wrap D) = ((n * 16 + digV (s.getD i 0).toNat : Nat) : Int) ∧ IntKind.u64.wrap ((n : Int) * IntKind.u64.wrap 16) = ((n * 16 : Nat) : Int) := by
        intro D hD hd
        have e1 : IntKind.u64.wrap 16 = 16 := rfl
        have e2 : IntKind.u64.wrap ((n : Int) * 16) = (n : Int) * 16 := wu64 (by omega) (by omega)
        have e3 : IntKind.u64.wrap D = D := wu64 (by omega) (by omega)
        rw [e1, e2, e3, wu64 (by omega) (by omega), hD]
        exact ⟨by push_cast; rfl, by push_cast; rfl⟩
      refine ⟨fun h4 => ?_, fun h4 => ?_⟩
      · have h4 : (decide (48 ≤ ((s.getD i 0).toNat : Int)) && decide (((s.getD i 0).toNat : Int) ≤ 57)) = true := h4
        have hD := dig_num h4
        refine ⟨fun h5 => ?_, fun h5 => ?_⟩
        · have h5 : decide (IntKind.u8.wrap 16 ≤ IntKind.u8.wrap (((s.getD i 0).toNat : Int) - 48)) = true := h5
          have h5 := of_decide_eq_true h5
          have e8 : IntKind.u8.wrap 16 = 16 := rfl
          rw [e8, hD] at h5
          show _ = puV (puF 16 s)
          rw [hpu, valB_bad h2 hv (by omega)]
          rfl
        · have h5 : decide (IntKind.u8.wrap 16 ≤ IntKind.u8.wrap (((s.getD i 0).toNat : Int) - 48)) = false := h5
          have h5 := of_decide_eq_false h5
          have e8 : IntKind.u8.wrap 16 = 16 := rfl
          rw [e8, hD] at h5
          have hd : digV (s.getD i 0).toNat < 16 := by omega
          obtain ⟨f1, f2⟩ := fin _ hD hd
          refine ⟨fun h6 => ?_, fun _ => ⟨fun h7 => ?_, fun _ => ?_⟩⟩
          · have h6 : decide ((1152921504606846976 : Int) ≤ n) = true := h6
            have h6 := of_decide_eq_true h6
            omega
          · exfalso
            have h7 : (decide (IntKind.u64.wrap (IntKind.u64.wrap ((n : Int) * IntKind.u64.wrap 16) + IntKind.u64.wrap (IntKind.u8.wrap (((s.getD i 0).toNat : Int) - 48))) < IntKind.u64.wrap ((n : Int) * IntKind.u64.wrap 16)) || decide ((18446744073709551615 : Int) < IntKind.u64.wrap (IntKind.u64.wrap ((n : Int) * IntKind.u64.wrap 16) + IntKind.u64.wrap (IntKind.u8.wrap (((s.getD i 0).toNat : Int) - 48))))) = true := h7
            rw [f1, f2] at h7
            simp only [Bool.or_eq_true, decide_eq_true_eq] at h7
            omega
          · refine ⟨(i + 1, n * 16 + digV (s.getD i 0).toNat), ⟨h2, valB_next h2 hv hd, ?_⟩, by show s.length - (i + 1) < s.length - i; omega, rfl, ⟨⟨?_, rfl, rfl⟩, ⟨?_, rfl, rfl⟩, ⟨rfl, rfl, rfl⟩, trivial⟩, ⟨[], rfl⟩, trivial, rfl⟩
            · show n * 16 + digV (s.getD i 0).toNat < 16 ^ (i + 1)
              rw [Nat.pow_succ]; omega
            · exact congrArg (SV.i .u64) f1
            · show SV.i .i64 (IntKind.i64.wrap ((i : Int) + 1)) = SV.i .i64 ((i + 1 : Nat) : Int)
              rw [w64 (by omega) (by omega)]; rfl
      · have h4 : (decide (48 ≤ ((s.getD i 0).toNat : Int)) && decide (((s.getD i 0).toNat : Int) ≤ 57)) = false := h4
        obtain ⟨hD1, hD⟩ := dig_let hmem h4
        refine OpC.callV rfl rfl rfl rfl rfl rfl rfl (fun _ => lower_ok _) ?_
        refine OpC.callV rfl rfl rfl rfl rfl rfl rfl (fun _ => lower_ok _) ?_
        refine ⟨fun _ => ?_, fun h5 => absurd (hD1.symm.trans h5) (by decide)⟩
        refine OpC.callV rfl rfl rfl rfl rfl rfl rfl (fun _ => lower_ok _) ?_
        refine ⟨fun h5 => ?_, fun h5 => ?_⟩
        · have h5 : decide (IntKind.u8.wrap 16 ≤ IntKind.u8.wrap (IntKind.u8.wrap (lowI ((s.getD i 0).toNat : Int) - 97) + 10)) = true := h5
          have h5 := of_decide_eq_true h5
          have e8 : IntKind.u8.wrap 16 = 16 := rfl
          rw [e8, hD] at h5
          show _ = puV (puF 16 s)
          rw [hpu, valB_bad h2 hv (by omega)]
          rfl
        · have h5 : decide (IntKind.u8.wrap 16 ≤ IntKind.u8.wrap (IntKind.u8.wrap (lowI ((s.getD i 0).toNat : Int) - 97) + 10)) = false := h5
          have h5 := of_decide_eq_false h5
          have e8 : IntKind.u8.wrap 16 = 16 := rfl
          rw [e8, hD] at h5
          have hd : digV (s.getD i 0).toNat < 16 := by omega
          obtain ⟨f1, f2⟩ := fin _ hD hd
          refine ⟨fun h6 => ?_, fun _ => ⟨fun h7 => ?_, fun _ => ?_⟩⟩
          · have h6 : decide ((1152921504606846976 : Int) ≤ n) = true := h6
            have h6 := of_decide_eq_true h6
            omega
          · exfalso
            have h7 : (decide (IntKind.u64.wrap (IntKind.u64.wrap ((n : Int) * IntKind.u64.wrap 16) + IntKind.u64.wrap (IntKind.u8.wrap (IntKind.u8.wrap (lowI ((s.getD i 0).toNat : Int) - 97) + 10))) < IntKind.u64.wrap ((n : Int) * IntKind.u64.wrap 16)) || decide ((18446744073709551615 : Int) < IntKind.u64.wrap (IntKind.u64.wrap ((n : Int) * IntKind.u64.wrap 16) + IntKind.u64.wrap (IntKind.u8.wrap (IntKind.u8.wrap (lowI ((s.getD i 0).toNat : Int) - 97) + 10))))) = true := h7
            rw [f1, f2] at h7
            simp only [Bool.or_eq_true, decide_eq_true_eq] at h7
            omega
          · refine ⟨(i + 1, n * 16 + digV (s.getD i 0).toNat), ⟨h2, valB_next h2 hv hd, ?_⟩, by show s.length - (i + 1) < s.length - i; omega, rfl, ⟨⟨?_, rfl, rfl⟩, ⟨?_, rfl, rfl⟩, ⟨rfl, rfl, rfl⟩, trivial⟩, ⟨[], rfl⟩, trivial, rfl⟩
            · show n * 16 + digV (s.getD i 0).toNat < 16 ^ (i + 1)
              rw [Nat.pow_succ]; omega
            · exact congrArg (SV.i .u64) f1
            · show SV.i .i64 (IntKind.i64.wrap ((i : Int) + 1)) = SV.i .i64 ((i + 1 : Nat) : Int)
              rw [w64 (by omega) (by omega)]; rfl
    · have h2 : i = s.length := by
        have h2 : decide ((i : Int) < s.length) = false := h2
        simp at h2; omega
      subst h2
      rw [List.take_length] at hv
      refine OpC.callV rfl rfl rfl rfl rfl rfl rfl (r := .b true) (fun hg => (by cases hg)) ?_
      refine ⟨fun h => (by cases h), fun _ => ?_⟩
      show _ = puV (puF 16 s)
      rw [hpu, hv]
      rfl
end SX
end Go.Proofs.YthkedcneehdinaaGreatDoor

/- Words of a text: contracts of the library; a number's value. -/
set_option linter.unusedVariables false
set_option maxRecDepth 100000
namespace Go.Proofs.YthkedcneehdinaaGreatDoor
namespace SX
open Go Go.Proofs
theorem grow_zero (w : World) : Sort.grow (w.drewN 0) #[] = w := by simp [Sort.grow, World.drewN]
theorem maxlen_tab : tabs 1 = some (.anyI .i64) := by kernel_rfl
theorem maxlen_cell {w : World} (hT : TabsIn w) : ∃ n, w.cell? ⟨1, 0, none⟩ = some (.int .i64 n) := by
  obtain ⟨n, arr, t, fr, h1, h2⟩ := hT _ _ maxlen_tab
  have h1 : w.heap[1]? = some (.cells arr t fr) := h1
  exact ⟨n, by unfold World.cell?; simp only [h1]; simpa using h2⟩
theorem sIndex_ok (s p : List UInt8) (hs : s.length ≤ 100000) : CtrV Tryz.prog 40 [.s s, .s p] (.i .i64 (Lib.index s p)) :=
  CtrV.of_grow (fn := Tryz.f40) Tryz.func40 rfl rfl (fun m => trivial) rfl fun w hT E m _ => by
    obtain ⟨n, hm⟩ := maxlen_cell hT
    refine (Any.strings_Index Tryz.TIdx ⟨⟨s⟩⟩ ⟨⟨p⟩⟩ n w (by show s.length < 4294967281; omega) hm).mono ?_
    rintro e w' ⟨he, rfl⟩
    exact ⟨he, 0, #[], (grow_zero _).symm⟩
theorem sContains_ok (s p : List UInt8) (hs : s.length ≤ 100000) : CtrV Tryz.prog 87 [.s s, .s p] (.b (Lib.contains s p)) :=
  CtrV.of_grow (fn := Tryz.f87) Tryz.func87 rfl rfl (fun m => trivial) rfl fun w hT E m _ => by
    obtain ⟨n, hm⟩ := maxlen_cell hT
    refine (Any.strings_Contains Tryz.TCon ⟨⟨s⟩⟩ ⟨⟨p⟩⟩ n w (by show s.length < 4294967281; omega) hm).mono ?_
    rintro e w' ⟨he, rfl⟩
    exact ⟨he, 0, #[], (grow_zero _).symm⟩
theorem sIndexByte_ok (s : List UInt8) (c : Int) : CtrV Tryz.prog 47 [.s s, .i .u8 c] (.i .i64 (Lib.indexByte s c.toNat.toUInt8)) :=
  CtrV.of_grow (fn := Tryz.f47) Tryz.func47 rfl rfl (fun m => trivial) rfl fun w hT E m _ => by
    refine (Any.strings_IndexByte Tryz.TIxb ⟨⟨s⟩⟩ c w).mono ?_
    rintro e w' ⟨he, rfl⟩
    exact ⟨he, 0, #[], (grow_zero _).symm⟩
theorem no_mark {s : List UInt8} {c : UInt8} (h : c ∉ s) : Lib.contains s [c] = false := by
  have key : ∀ s : List UInt8, c ∉ s → Lib.indexByte s c = -1 := by
    intro s
    induction s with
    | nil => intro _; rfl
    | cons b l ih =>
      intro h
      simp only [List.mem_cons, not_or] at h
      unfold Lib.indexByte
      have hb : (b == c) = false := by simp; exact fun e => h.1 e.symm
      rw [hb, ih h.2]; rfl
  unfold Lib.contains
  rw [Lib.index_one, key s h]
  rfl
theorem drKeep_no : drKeep = false := rfl
theorem syn_tab : tabs 3 = some .ifc := by kernel_rfl
/-- The error of a text that is no number. -/
theorem toErr_ok (f s : List UInt8) (hs : s.length ≤ 100000) (b k : Int) : Ctr Tryz.prog 152 [.s f, .s s, .i .i64 b, .i .i64 k, .iface 213 (.i .i64 2)] [] (fun r h => (∃ v, r = .iface 215 (.raw v) ∧ cellV v = true) ∧ h = []) := by
  refine ⟨fun C E m w hr ha => ?_⟩
  have hrun : (callFunc 152 (denL E [.s f, .s s, .i .i64 b, .i .i64 k, .iface 213 (.i .i64 2)]).toArray).run Tryz.prog w = .ok (.enter 152 (denL E [.s f, .s s, .i .i64 b, .i .i64 k, .iface 213 (.i .i64 2)]).toArray) w :=
    enters_of Tryz.func152 (by kernel_rfl) rfl _ w
  obtain ⟨tt, v, t, fr, h1⟩ := hr.tabs _ _ syn_tab
  have h1 : w.heap[3]? = some (.cells #[.iface tt v] t fr) := h1
  have hc : w.cell? ⟨3, 0, none⟩ = some (.iface tt v) := by unfold World.cell?; simp only [h1]; rfl
  unfold callX
  rw [hrun]
  refine (AnyPu.strconv_toError_syntax Tryz.TErr ⟨⟨f⟩⟩ ⟨⟨s⟩⟩ b k (.iface tt v) w (by show s.length ≤ 281474976710656; omega) hc (.inr ⟨_, _, rfl⟩)).mono ?_
  rintro e w' ⟨N, rfl, _, _, hw⟩
  refine ⟨_, rfl, .iface 215 (.raw (.pointer (some ⟨N, 0, none⟩))), [], E, m, rfl, ⟨⟨_, rfl, rfl⟩, rfl⟩, ⟨?_, rfl⟩, .refl .., hr.below drKeep_no hw⟩
  simp [Ok, live]
/-- ParseUint's answer. -/
def PuR (x : Option Nat) (r : SV) : Prop :=
  match x with
  | some n => r = .tup [.i .u64 n, .raw .nilIface]
  | none => ∃ v, r = .tup [.i .u64 0, .iface 215 (.raw v)] ∧ cellV v = true
theorem pu_of (b : Nat) (s : List UInt8) (hs : s.length ≤ 100000) (hi : CtrV Tryz.prog 151 [.s s, .i .i64 b, .i .i64 64] (puV (puF b s))) : Ctr Tryz.prog 88 [.s s, .i .i64 b, .i .i64 64] [] (fun r h => PuR (puF b s) r ∧ h = []) := by
  have key : Ctr Tryz.prog 88 [.s s, .i .i64 b, .i .i64 64] [] (fun r h => PuR (puF b s) r ∧ Bnd 0 r) := by
    refine Ctr.enter tabOkF (fn := Tryz.f88) rfl rfl rfl rfl rfl ?_
    cases hx : puF b s with
    | some n =>
      rw [hx] at hi
      refine OpC.callV rfl rfl rfl rfl rfl rfl rfl (fun _ => hi) ?_
      refine ⟨fun h => (by cases h), fun _ => ?_⟩
      exact ⟨rfl, rfl⟩
    | none =>
      rw [hx] at hi
      refine OpC.callV rfl rfl rfl rfl rfl rfl rfl (fun _ => hi) ?_
      refine ⟨fun _ => ?_, fun h => by cases h⟩
      refine OpC.callL rfl rfl rfl rfl [] 0 rfl rfl rfl (toErr_ok [80, 97, 114, 115, 101, 85, 105, 110, 116] s hs b 64) rfl rfl rfl rfl trivial rfl (fun r H' hk => ?_) ?_
      · rw [hk.2]; exact ⟨Nat.le_refl _, Nat.le_refl _⟩
      rintro r H' ⟨⟨v, rfl, hv⟩, rfl⟩
      exact ⟨⟨v, rfl, hv⟩, rfl⟩
  exact key.trim callX_m fun r H1 ⟨h1, h2⟩ => ⟨[], H1, rfl, Nat.zero_le _, trivial, h2, h1, rfl⟩
/-- number's answer. -/
def NumR (x : Option Nat) (r : SV) : Prop :=
  match x with
  | some n => r = .tup [.i .i64 (IntKind.i64.wrap n), .b true]
  | none => ∃ v, r = .tup [.i .i64 v, .b false]
theorem numDs_mem {w : List UInt8} {c : UInt8} (h : c ∈ numDs w) : c ∈ w := by
  unfold numDs at h
  split at h
  · exact List.mem_of_mem_drop h
  · exact h
theorem numDs_len (w : List UInt8) : (numDs w).length ≤ w.length := by
  unfold numDs; split
  · simp
  · exact Nat.le_refl _
theorem pu_any (w : List UInt8) (hn : ∀ c ∈ w, numB (c.toNat : Int) = true) (hl : (numDs w).length ≤ numMost w) : CtrV Tryz.prog 151 [.s (numDs w), .i .i64 (numBase w), .i .i64 64] (puV (puF (numBase w) (numDs w))) := by
  unfold numBase numMost at *
  split at hl
  · rename_i h; simp only [h, if_true]; exact ipu16_ok _ (fun c hc => hn c (numDs_mem hc)) hl
  · rename_i h; simp only [h, if_false]; exact ipu10_ok _ (fun c hc => hn c (numDs_mem hc)) hl
theorem numF_eq {w : List UInt8} (hl : (numDs w).length ≤ numMost w) : numF w = (match puF (numBase w) (numDs w) with | none => none | some n => if n ≤ 9223372036854775808 then some n else none) := by
  unfold numF puF
  rw [if_neg (by omega)]
  split
  · rfl
  · rfl
theorem number_ok (w : List UInt8) (hn : ∀ c ∈ w, numB (c.toNat : Int) = true) (hw : w.length ≤ 10000) : Ctr Tryz.prog 45 [.s w] [] (fun r h => NumR (numF w) r ∧ h = []) := by
  have hnd := numDs_len w
  have hcon : Lib.contains (numDs w) [95] = false := no_mark fun h => by
    have := hn _ (numDs_mem h)
    exact absurd this (by decide)
  have key : Ctr Tryz.prog 45 [.s w] [] (fun r h => NumR (numF w) r ∧ Bnd 0 r) := by
    refine Ctr.enter tabOkF (fn := Tryz.f45) rfl rfl rfl rfl rfl ?_
    refine OpC.callV rfl rfl rfl rfl rfl rfl rfl (fun _ => cutPrefix_ok w [48, 120]) ?_
    cases hx : hexB w with
    | true =>
      have hp : pre w [48, 120] = true := hx
      have hds : cutP w [48, 120] = numDs w := by
        unfold cutP numDs; rw [hp, hx]; simp
      have hb : numBase w = 16 := by unfold numBase; rw [hx]; rfl
      have hm : numMost w = 16 := by unfold numMost; rw [hx]; rfl
      rw [hp, hds]
      refine ⟨fun _ => ?_, fun h => by cases h⟩
      refine OpC.callV rfl rfl rfl rfl rfl rfl rfl (fun _ => sContains_ok (numDs w) [95] (by omega)) ?_
      refine ⟨fun h => ?_, fun h => ?_⟩
      · have h : (decide ((16 : Int) < ((numDs w)).length) || Lib.contains (numDs w) [95]) = true := h
        rw [hcon, Bool.or_false] at h
        have h := of_decide_eq_true h
        have h0 : numF w = none := by unfold numF; rw [if_pos (by rw [hm]; omega)]
        rw [h0]
        exact ⟨⟨0, rfl⟩, rfl⟩
      · have h : (decide ((16 : Int) < ((numDs w)).length) || Lib.contains (numDs w) [95]) = false := h
        rw [hcon, Bool.or_false] at h
        have h := of_decide_eq_false h
        have hl : (numDs w).length ≤ numMost w := by rw [hm]; omega
        have hpu := pu_any w hn hl
        rw [hb] at hpu
        rw [numF_eq hl, hb]
        refine OpC.callL rfl rfl rfl rfl [] 0 rfl rfl rfl (pu_of 16 (numDs w) (by omega) hpu) rfl rfl rfl rfl trivial rfl (fun r H' hk => ?_) ?_
        · rw [hk.2]; exact ⟨Nat.le_refl _, Nat.le_refl _⟩
        rintro r H' ⟨hr, rfl⟩
        cases hx2 : puF 16 (numDs w) with
        | some n =>
          rw [hx2] at hr
          have hr : r = .tup [.i .u64 n, .raw .nilIface] := hr
          subst hr
          refine ⟨?_, rfl⟩
          by_cases h2 : n ≤ 9223372036854775808
          · have e : decide ((n : Int) ≤ 9223372036854775808) = true := decide_eq_true (by omega)
            show NumR (if n ≤ 9223372036854775808 then some n else none) (SV.tup [.i .i64 (IntKind.i64.wrap n), .b (true && decide ((n : Int) ≤ 9223372036854775808))])
            rw [if_pos h2, e]
            rfl
          · have e : decide ((n : Int) ≤ 9223372036854775808) = false := decide_eq_false (by omega)
            show NumR (if n ≤ 9223372036854775808 then some n else none) (SV.tup [.i .i64 (IntKind.i64.wrap n), .b (true && decide ((n : Int) ≤ 9223372036854775808))])
            rw [if_neg h2, e]
            exact ⟨_, rfl⟩
        | none =>
          rw [hx2] at hr
          obtain ⟨v, hr, _⟩ := hr
          subst hr
          exact ⟨⟨_, rfl⟩, rfl⟩
    | false =>
      have hp : pre w [48, 120] = false := hx
      have hds : numDs w = w := by unfold numDs; rw [hx]; rfl
      have hb : numBase w = 10 := by unfold numBase; rw [hx]; rfl
      have hm : numMost w = 19 := by unfold numMost; rw [hx]; rfl
      rw [hp]
      rw [hds] at hcon hnd
      refine ⟨fun h => (by cases h), fun _ => ?_⟩
      refine OpC.callV rfl rfl rfl rfl rfl rfl rfl (fun _ => sContains_ok w [95] (by omega)) ?_
      refine ⟨fun h => ?_, fun h => ?_⟩
      · have h : (decide ((19 : Int) < (w).length) || Lib.contains w [95]) = true := h
        rw [hcon, Bool.or_false] at h
        have h := of_decide_eq_true h
        have h0 : numF w = none := by unfold numF; rw [if_pos (by rw [hm, hds]; omega)]
        rw [h0]
        exact ⟨⟨0, rfl⟩, rfl⟩
      · have h : (decide ((19 : Int) < (w).length) || Lib.contains w [95]) = false := h
        rw [hcon, Bool.or_false] at h
        have h := of_decide_eq_false h
        have hl : (numDs w).length ≤ numMost w := by rw [hm, hds]; omega
        have hpu := pu_any w hn hl
        rw [hb, hds] at hpu
        rw [numF_eq hl, hb, hds]
        refine OpC.callL rfl rfl rfl rfl [] 0 rfl rfl rfl (pu_of 10 w (by omega) hpu) rfl rfl rfl rfl trivial rfl (fun r H' hk => ?_) ?_
        · rw [hk.2]; exact ⟨Nat.le_refl _, Nat.le_refl _⟩
        rintro r H' ⟨hr, rfl⟩
        cases hx2 : puF 10 w with
        | some n =>
          rw [hx2] at hr
          have hr : r = .tup [.i .u64 n, .raw .nilIface] := hr
          subst hr
          refine ⟨?_, rfl⟩
          by_cases h2 : n ≤ 9223372036854775808
          · have e : decide ((n : Int) ≤ 9223372036854775808) = true := decide_eq_true (by omega)
            show NumR (if n ≤ 9223372036854775808 then some n else none) (SV.tup [.i .i64 (IntKind.i64.wrap n), .b (true && decide ((n : Int) ≤ 9223372036854775808))])
            rw [if_pos h2, e]
            rfl
          · have e : decide ((n : Int) ≤ 9223372036854775808) = false := decide_eq_false (by omega)
            show NumR (if n ≤ 9223372036854775808 then some n else none) (SV.tup [.i .i64 (IntKind.i64.wrap n), .b (true && decide ((n : Int) ≤ 9223372036854775808))])
            rw [if_neg h2, e]
            exact ⟨_, rfl⟩
        | none =>
          rw [hx2] at hr
          obtain ⟨v, hr, _⟩ := hr
          subst hr
          exact ⟨⟨_, rfl⟩, rfl⟩
  exact key.trim callX_m fun r H1 ⟨h1, h2⟩ => ⟨[], H1, rfl, Nat.zero_le _, trivial, h2, h1, rfl⟩
end SX
end Go.Proofs.YthkedcneehdinaaGreatDoor

/- Words of a text: the program's Tokens (written by tools/tkd.py). -/
set_option linter.unusedVariables false
set_option maxRecDepth 100000
namespace Go.Proofs.YthkedcneehdinaaGreatDoor
namespace SX
open Go Go.Proofs
theorem tkenc_w (t : Tk) : wdL (tkenc t) = 4 := rfl
def rowK (N : Nat) (ts : List Tk) (ver : Nat) : SB := .mem 42 [.arr N Tk tk0 4 tkenc ts] ver 4
theorem bndTk {M N ver : Nat} {ts : List Tk} : BndB M (rowK N ts ver) := ⟨fun _ => rfl, trivial⟩
theorem mark_all : ∀ n : Fin 256, decide ((0 : Int) ≤ Lib.indexByte marksL (UInt8.ofNat n.val)) = decide (UInt8.ofNat n.val ∈ marksL) := by decide +kernel
theorem mark_ix (c : UInt8) : decide ((0 : Int) ≤ Lib.indexByte marksL ((c.toNat : Int).toNat.toUInt8)) = decide (c ∈ marksL) := by
  have h := mark_all ⟨c.toNat, c.toNat_lt⟩
  have e : UInt8.ofNat c.toNat = c := by simp
  simp only [e] at h
  have e2 : ((c.toNat : Int).toNat.toUInt8) = c := by simp
  rw [e2]; exact h
/-- What Tokens hands back. -/
def TokK (s : List UInt8) (r : SV) (h : List SB) : Prop :=
  (∃ ts ver, tokF s = (ts, 0, 0) ∧ r = .tup [.sl 0 ver 0 ts.length none 0, .i .i64 0, .i .i64 0] ∧ h = [rowK ts.length ts ver]) ∨
  (∃ e p, tokF s = ([], e, p) ∧ e ≠ 0 ∧ r = .tup [.nils, .i .i64 e, .i .i64 p] ∧ h = [])
set_option maxHeartbeats 4000000 in
theorem tokens_ok (s : List UInt8) : Ctr Tryz.prog 13 [.s s] [] (TokK s) := by
  have key : Ctr Tryz.prog 13 [.s s] [] (fun r h => (∃ ts ver Y, tokF s = (ts, 0, 0) ∧ r = .tup [.sl 0 ver 0 ts.length none 0, .i .i64 0, .i .i64 0] ∧ h = rowK ts.length ts ver :: Y) ∨
      (∃ (e : Int) (p : Nat), tokF s = ([], e, (p : Int)) ∧ e ≠ 0 ∧ r = .tup [.nils, .i .i64 e, .i .i64 p])) := by
    refine Ctr.enter tabOkF (fn := Tryz.f13) rfl rfl rfl rfl rfl ?_
    refine ⟨fun h1 => ?_, fun h1 => ?_⟩
    · have h1 : 8192 < s.length := by
        have h1 : decide ((8192 : Int) < s.length) = true := h1
        simp at h1; omega
      exact .inr ⟨2, 0, by unfold tokF; rw [if_pos h1]; rfl, by decide, rfl⟩
    have h1 : s.length ≤ 8192 := by
      have h1 : decide ((8192 : Int) < s.length) = false := h1
      simp at h1; omega
    refine WpC.shift (Shift.row (d := 5) rfl 3 42 [.arr 0 Tk tk0 4 tkenc []] (fun E => rfl) (fun m V => ⟨⟨rfl, rfl, tkenc_w, fun j hj => by omega⟩, trivial⟩)) ?_
    refine WpC.loop tabOkF (β := Nat × Nat × List Tk × Nat × Nat) (fun x => x.1 ≤ s.length ∧ s.length < x.1 + x.2.2.2.2 ∧ tokC s x.2.2.2.2 x.1 x.2.2.1 = tokF s ∧ x.2.1 ≤ x.1 ∧ x.2.2.1.length = x.2.1) (fun x => [(6, .i .i64 x.1), (5, .sl 0 x.2.2.2.1 0 x.2.1 none 0)]) (fun x => [rowK x.2.1 x.2.2.1 x.2.2.2.1]) (fun x => s.length - x.1) (0, 0, [], 0, s.length + 1) 41538374868278621028243970633703420 ⟨Nat.zero_le _, by show s.length < 0 + (s.length + 1); omega, by unfold tokF; rw [if_neg (by omega)], Nat.le_refl _, rfl⟩ ?_ ?_
    · exact ⟨rfl, ⟨⟨rfl, rfl, rfl⟩, ⟨rfl, rfl, rfl⟩, trivial⟩, ⟨[], rfl⟩, ⟨bndTk, trivial⟩, rfl⟩
    · rintro ⟨p, N, ts, ver, f⟩ ⟨hi, hf, hc, hlt, hNt⟩
      simp only at hi hf hc hlt hNt
      refine ⟨fun h2 => ?_, fun h2 => ?_⟩
      · have h2 : p < s.length := by
          have h2 : decide ((p : Int) < s.length) = true := h2
          simpa using h2
        obtain ⟨f', rfl, hstep⟩ := tokC_step (out := ts) h2 hf
        rw [hc] at hstep
        have hX : ((s.take s.length).drop (p : Int).toNat) = s.drop p := by rw [List.take_length]; rfl
        have hXl : ((s.take s.length).drop (p : Int).toNat).length = s.length - p := by rw [hX, List.length_drop]
        have hXne : ((s.take s.length).drop (p : Int).toNat) ≠ [] := fun e => by rw [e] at hXl; simp at hXl; omega
        have hob1 : (0 : Int) ≤ p ∧ (p : Int) ≤ s.length := by omega
        refine ⟨fun _ => hob1, ?_⟩
        have hob2 : (0 : Int) ≤ 0 ∧ (0 : Int) < ((s.take s.length).drop (p : Int).toNat).length := by omega
        refine ⟨fun _ => hob2, ?_⟩
        refine ⟨fun h3 => ?_, fun h3 => ?_⟩
        · have h3 : (decide (cd ((s.take s.length).drop (p : Int).toNat) 0 = 32) || decide (cd ((s.take s.length).drop (p : Int).toNat) 0 = 9) || decide (cd ((s.take s.length).drop (p : Int).toNat) 0 = 10)) = true := h3
          have hst : stepF (s.drop p) p = .skip 1 := by
            unfold stepF
            rw [if_pos (by rw [← hX]; exact h3)]
          rw [hst] at hstep
          have k1 : p + 1 ≤ s.length := by omega
          have k2 : s.length < p + 1 + f' := by omega
          have k3 : N ≤ p + 1 := by omega
          have k4 : s.length - (p + 1) < s.length - p := by omega
          refine ⟨(p + 1, N, ts, ver, f'), ⟨k1, k2, hstep.symm, k3, hNt⟩, k4, rfl, ⟨⟨?_, rfl, rfl⟩, ⟨rfl, rfl, rfl⟩, trivial⟩, ⟨_, rfl⟩, ⟨bndTk, trivial⟩, rfl⟩
          show SV.i .i64 (IntKind.i64.wrap ((p : Int) + 1)) = SV.i .i64 ((p + 1 : Nat) : Int)
          rw [w64 (by omega) (by omega)]; rfl
        have h3 : (decide (cd ((s.take s.length).drop (p : Int).toNat) 0 = 32) || decide (cd ((s.take s.length).drop (p : Int).toNat) 0 = 9) || decide (cd ((s.take s.length).drop (p : Int).toNat) 0 = 10)) = false := h3
        refine OpC.callV rfl rfl rfl rfl rfl rfl rfl (fun _ => hasPrefix_ok ((s.take s.length).drop (p : Int).toNat) [40, 42]) ?_
        refine ⟨fun h4 => ?_, fun h4 => ?_⟩
        · have h4 : pre ((s.take s.length).drop (p : Int).toNat) [40, 42] = true := h4
          have hl2 : 2 ≤ ((s.take s.length).drop (p : Int).toNat).length := pre_len h4
          have hob : (0 : Int) ≤ 2 ∧ (2 : Int) ≤ ((s.take s.length).drop (p : Int).toNat).length := by omega
          refine ⟨fun _ => hob, ?_⟩
          have hY : (((s.take s.length).drop (p : Int).toNat).take ((s.take s.length).drop (p : Int).toNat).length).drop (2 : Int).toNat = (s.drop p).drop 2 := by rw [List.take_length, hX]; rfl
          refine OpC.callV rfl rfl rfl rfl rfl rfl rfl (fun _ => sIndex_ok ((((s.take s.length).drop (p : Int).toNat).take ((s.take s.length).drop (p : Int).toNat).length).drop (2 : Int).toNat) [42, 41] (by rw [hY]; simp; omega)) ?_
          refine ⟨fun h5 => ?_, fun h5 => ?_⟩
          · have h5 : decide (Lib.index ((((s.take s.length).drop (p : Int).toNat).take ((s.take s.length).drop (p : Int).toNat).length).drop (2 : Int).toNat) [42, 41] < 0) = true := h5
            have h5 := of_decide_eq_true h5
            rw [hY] at h5
            have hst : stepF (s.drop p) p = .err 24 := by
              unfold stepF
              rw [if_neg (by rw [← hX, h3]; decide)]
              rw [if_pos (by rw [← hX]; exact h4)]
              rw [if_pos h5]
            rw [hst] at hstep
            exact .inr ⟨24, p, hstep, by decide, rfl⟩
          · have h5 : decide (Lib.index ((((s.take s.length).drop (p : Int).toNat).take ((s.take s.length).drop (p : Int).toNat).length).drop (2 : Int).toNat) [42, 41] < 0) = false := h5
            have h5 := of_decide_eq_false h5
            have hle := Lib.index_le ((((s.take s.length).drop (p : Int).toNat).take ((s.take s.length).drop (p : Int).toNat).length).drop (2 : Int).toNat) [42, 41]
            have hroom := Lib.index_room ((((s.take s.length).drop (p : Int).toNat).take ((s.take s.length).drop (p : Int).toNat).length).drop (2 : Int).toNat) [42, 41] (by omega)
            rw [hY] at h5 hle hroom
            simp only [List.length_drop, List.length_cons, List.length_nil] at hle hroom
            have hst : stepF (s.drop p) p = .skip ((Lib.index ((s.drop p).drop 2) [42, 41]).toNat + 4) := by
              unfold stepF
              rw [if_neg (by rw [← hX, h3]; decide), if_pos (by rw [← hX]; exact h4), if_neg h5]
            rw [hst] at hstep
            have k1 : p + ((Lib.index ((s.drop p).drop 2) [42, 41]).toNat + 4) ≤ s.length := by omega
            have k2 : s.length < p + ((Lib.index ((s.drop p).drop 2) [42, 41]).toNat + 4) + f' := by omega
            have k3 : N ≤ p + ((Lib.index ((s.drop p).drop 2) [42, 41]).toNat + 4) := by omega
            have k4 : s.length - (p + ((Lib.index ((s.drop p).drop 2) [42, 41]).toNat + 4)) < s.length - p := by omega
            refine ⟨(p + ((Lib.index ((s.drop p).drop 2) [42, 41]).toNat + 4), N, ts, ver, f'), ⟨k1, k2, hstep.symm, k3, hNt⟩, k4, rfl, ⟨⟨?_, rfl, rfl⟩, ⟨rfl, rfl, rfl⟩, trivial⟩, ⟨_, rfl⟩, ⟨bndTk, trivial⟩, rfl⟩
            show SV.i .i64 (IntKind.i64.wrap ((p : Int) + IntKind.i64.wrap (Lib.index ((((s.take s.length).drop (p : Int).toNat).take ((s.take s.length).drop (p : Int).toNat).length).drop (2 : Int).toNat) [42, 41] + 4))) = SV.i .i64 ((p + ((Lib.index ((s.drop p).drop 2) [42, 41]).toNat + 4) : Nat) : Int)
            rw [hY, w64 (x := Lib.index ((s.drop p).drop 2) [42, 41] + 4) (by omega) (by omega), w64 (by omega) (by omega)]
            exact i_cg (by omega)
        have h4 : pre ((s.take s.length).drop (p : Int).toNat) [40, 42] = false := h4
        refine OpC.callV rfl rfl rfl rfl rfl rfl rfl (fun _ => digit_ok (cd ((s.take s.length).drop (p : Int).toNat) 0)) ?_
        refine ⟨fun h6 => ?_, fun h6 => ?_⟩
        · have h6 : digB (cd ((s.take s.length).drop (p : Int).toNat) 0) = true := h6
          have hr1 := rowF_le numB ((s.take s.length).drop (p : Int).toNat)
          have hr0 : 0 < rowF numB ((s.take s.length).drop (p : Int).toNat) := rowF_pos hXne (by unfold numB; rw [h6]; simp)
          refine OpC.callV rfl rfl rfl rfl rfl rfl rfl (fun _ => row_ok 43 numB isnum_ok ((s.take s.length).drop (p : Int).toNat) (by omega)) ?_
          have hob : (0 : Int) ≤ (rowF numB ((s.take s.length).drop (p : Int).toNat) : Nat) ∧ ((rowF numB ((s.take s.length).drop (p : Int).toNat) : Nat) : Int) ≤ ((s.take s.length).drop (p : Int).toNat).length := by omega
          refine ⟨fun _ => hob, ?_⟩
          refine OpC.callL rfl rfl rfl rfl [] 0 rfl rfl rfl (number_ok (((s.take s.length).drop (p : Int).toNat).take (rowF numB ((s.take s.length).drop (p : Int).toNat))) (rowF_all numB ((s.take s.length).drop (p : Int).toNat)) (by rw [List.length_take]; omega)) rfl rfl rfl rfl trivial rfl (fun r H' hk => ?_) ?_
          · rw [hk.2]; exact ⟨Nat.le_refl _, Nat.le_refl _⟩
          rintro r H' ⟨hr, rfl⟩
          cases hx : numF (((s.take s.length).drop (p : Int).toNat).take (rowF numB ((s.take s.length).drop (p : Int).toNat))) with
          | none =>
            rw [hx] at hr
            obtain ⟨v, rfl⟩ := hr
            refine ⟨fun _ => ?_, fun h => by cases h⟩
            have hst : stepF (s.drop p) p = .err 23 := by
              unfold stepF
              rw [if_neg (by rw [← hX, h3]; decide)]
              rw [if_neg (by rw [← hX, h4]; decide)]
              rw [if_pos (by rw [← hX]; exact h6)]
              rw [← hX, hx]
            rw [hst] at hstep
            exact .inr ⟨23, p, hstep, by decide, rfl⟩
          | some n =>
            rw [hx] at hr
            have hr : r = .tup [.i .i64 (IntKind.i64.wrap n), .b true] := hr
            subst hr
            refine ⟨fun h => (by cases h), fun _ => ?_⟩
            refine OpC.yld 0 rfl (yld_app_row tabOkF rfl rfl rfl rfl rfl rfl rfl rfl rfl (SrcA.sl rfl rfl rfl rfl (by decide) rfl) (Joins.arrN (y := ⟨2, ((s.take s.length).drop (p : Int).toNat).take (rowF numB ((s.take s.length).drop (p : Int).toNat)), IntKind.i64.wrap n, p⟩) hNt rfl tkenc_w) (by decide) ?_ ?_) (fun d hd => by cases hd; rfl) ?_
            · exact Nat.le_trans (show N + 1 ≤ 10000 by omega) (by decide)
            · show (N + 1) * 40 ≤ 140737488355328
              omega
            have hlen : (⟨2, ((s.take s.length).drop (p : Int).toNat).take (rowF numB ((s.take s.length).drop (p : Int).toNat)), IntKind.i64.wrap n, p⟩ : Tk).s.length ≤ s.length - p := by
              show (List.take _ _).length ≤ _
              rw [List.length_take, hXl]; omega
            have hpos : 0 < (⟨2, ((s.take s.length).drop (p : Int).toNat).take (rowF numB ((s.take s.length).drop (p : Int).toNat)), IntKind.i64.wrap n, p⟩ : Tk).s.length := by
              show 0 < (List.take _ _).length
              rw [List.length_take, hXl]
              omega
            have hst : stepF (s.drop p) p = .tok ⟨2, ((s.take s.length).drop (p : Int).toNat).take (rowF numB ((s.take s.length).drop (p : Int).toNat)), IntKind.i64.wrap n, p⟩ := by
              unfold stepF
              rw [if_neg (by rw [← hX, h3]; decide)]
              rw [if_neg (by rw [← hX, h4]; decide)]
              rw [if_pos (by rw [← hX]; exact h6)]
              rw [← hX, hx]
            rw [hst] at hstep
            have k1 : p + (⟨2, ((s.take s.length).drop (p : Int).toNat).take (rowF numB ((s.take s.length).drop (p : Int).toNat)), IntKind.i64.wrap n, p⟩ : Tk).s.length ≤ s.length := by omega
            have k2 : s.length < p + (⟨2, ((s.take s.length).drop (p : Int).toNat).take (rowF numB ((s.take s.length).drop (p : Int).toNat)), IntKind.i64.wrap n, p⟩ : Tk).s.length + f' := by omega
            have k3 : N + 1 ≤ p + (⟨2, ((s.take s.length).drop (p : Int).toNat).take (rowF numB ((s.take s.length).drop (p : Int).toNat)), IntKind.i64.wrap n, p⟩ : Tk).s.length := by omega
            have k5 : (ts ++ [(⟨2, ((s.take s.length).drop (p : Int).toNat).take (rowF numB ((s.take s.length).drop (p : Int).toNat)), IntKind.i64.wrap n, p⟩ : Tk)]).length = N + 1 := by rw [List.length_append, List.length_singleton]; omega
            have k4 : s.length - (p + (⟨2, ((s.take s.length).drop (p : Int).toNat).take (rowF numB ((s.take s.length).drop (p : Int).toNat)), IntKind.i64.wrap n, p⟩ : Tk).s.length) < s.length - p := by omega
            refine ⟨(p + (⟨2, ((s.take s.length).drop (p : Int).toNat).take (rowF numB ((s.take s.length).drop (p : Int).toNat)), IntKind.i64.wrap n, p⟩ : Tk).s.length, N + 1, ts ++ [⟨2, ((s.take s.length).drop (p : Int).toNat).take (rowF numB ((s.take s.length).drop (p : Int).toNat)), IntKind.i64.wrap n, p⟩], ver + 1, f'), ⟨k1, k2, hstep.symm, k3, k5⟩, k4, rfl, ⟨⟨?_, rfl, rfl⟩, ⟨rfl, rfl, rfl⟩, trivial⟩, ⟨_, rfl⟩, ⟨bndTk, trivial⟩, rfl⟩
            · show SV.i .i64 (IntKind.i64.wrap ((p : Int) + ((⟨2, ((s.take s.length).drop (p : Int).toNat).take (rowF numB ((s.take s.length).drop (p : Int).toNat)), IntKind.i64.wrap n, p⟩ : Tk).s.length : Int))) = SV.i .i64 ((p + (⟨2, ((s.take s.length).drop (p : Int).toNat).take (rowF numB ((s.take s.length).drop (p : Int).toNat)), IntKind.i64.wrap n, p⟩ : Tk).s.length : Nat) : Int)
              rw [w64 (by omega) (by omega)]; rfl
        have h6 : digB (cd ((s.take s.length).drop (p : Int).toNat) 0) = false := h6
        refine OpC.callV rfl rfl rfl rfl rfl rfl rfl (fun _ => letter_ok (cd ((s.take s.length).drop (p : Int).toNat) 0)) ?_
        refine ⟨fun h8 => ?_, fun h8 => ?_⟩
        · have h8 : (letB (cd ((s.take s.length).drop (p : Int).toNat) 0) || decide (cd ((s.take s.length).drop (p : Int).toNat) 0 = 95)) = true := h8
          have hr1 := rowF_le namB ((s.take s.length).drop (p : Int).toNat)
          have hr0 : 0 < rowF namB ((s.take s.length).drop (p : Int).toNat) := rowF_pos hXne (by
            simp only [Bool.or_eq_true] at h8
            unfold namB
            rcases h8 with h8 | h8 <;> rw [h8] <;> simp)
          refine OpC.callV rfl rfl rfl rfl rfl rfl rfl (fun _ => row_ok 46 namB isnam_ok ((s.take s.length).drop (p : Int).toNat) (by omega)) ?_
          have hob : (0 : Int) ≤ (rowF namB ((s.take s.length).drop (p : Int).toNat) : Nat) ∧ ((rowF namB ((s.take s.length).drop (p : Int).toNat) : Nat) : Int) ≤ ((s.take s.length).drop (p : Int).toNat).length := by omega
          refine ⟨fun _ => hob, ?_⟩
          refine OpC.yld 0 rfl (yld_app_row tabOkF rfl rfl rfl rfl rfl rfl rfl rfl rfl (SrcA.sl rfl rfl rfl rfl (by decide) rfl) (Joins.arrN (y := ⟨1, ((s.take s.length).drop (p : Int).toNat).take (rowF namB ((s.take s.length).drop (p : Int).toNat)), 0, p⟩) hNt rfl tkenc_w) (by decide) ?_ ?_) (fun d hd => by cases hd; rfl) ?_
          · exact Nat.le_trans (show N + 1 ≤ 10000 by omega) (by decide)
          · show (N + 1) * 40 ≤ 140737488355328
            omega
          have hlen : (⟨1, ((s.take s.length).drop (p : Int).toNat).take (rowF namB ((s.take s.length).drop (p : Int).toNat)), 0, p⟩ : Tk).s.length ≤ s.length - p := by
            show (List.take _ _).length ≤ _
            rw [List.length_take, hXl]; omega
          have hpos : 0 < (⟨1, ((s.take s.length).drop (p : Int).toNat).take (rowF namB ((s.take s.length).drop (p : Int).toNat)), 0, p⟩ : Tk).s.length := by
            show 0 < (List.take _ _).length
            rw [List.length_take, hXl]
            omega
          have hst : stepF (s.drop p) p = .tok ⟨1, ((s.take s.length).drop (p : Int).toNat).take (rowF namB ((s.take s.length).drop (p : Int).toNat)), 0, p⟩ := by
            unfold stepF
            rw [if_neg (by rw [← hX, h3]; decide)]
            rw [if_neg (by rw [← hX, h4]; decide)]
            rw [if_neg (by rw [← hX, h6]; decide)]
            rw [if_pos (by rw [← hX]; exact h8)]
            rw [← hX]
          rw [hst] at hstep
          have k1 : p + (⟨1, ((s.take s.length).drop (p : Int).toNat).take (rowF namB ((s.take s.length).drop (p : Int).toNat)), 0, p⟩ : Tk).s.length ≤ s.length := by omega
          have k2 : s.length < p + (⟨1, ((s.take s.length).drop (p : Int).toNat).take (rowF namB ((s.take s.length).drop (p : Int).toNat)), 0, p⟩ : Tk).s.length + f' := by omega
          have k3 : N + 1 ≤ p + (⟨1, ((s.take s.length).drop (p : Int).toNat).take (rowF namB ((s.take s.length).drop (p : Int).toNat)), 0, p⟩ : Tk).s.length := by omega
          have k5 : (ts ++ [(⟨1, ((s.take s.length).drop (p : Int).toNat).take (rowF namB ((s.take s.length).drop (p : Int).toNat)), 0, p⟩ : Tk)]).length = N + 1 := by rw [List.length_append, List.length_singleton]; omega
          have k4 : s.length - (p + (⟨1, ((s.take s.length).drop (p : Int).toNat).take (rowF namB ((s.take s.length).drop (p : Int).toNat)), 0, p⟩ : Tk).s.length) < s.length - p := by omega
          refine ⟨(p + (⟨1, ((s.take s.length).drop (p : Int).toNat).take (rowF namB ((s.take s.length).drop (p : Int).toNat)), 0, p⟩ : Tk).s.length, N + 1, ts ++ [⟨1, ((s.take s.length).drop (p : Int).toNat).take (rowF namB ((s.take s.length).drop (p : Int).toNat)), 0, p⟩], ver + 1, f'), ⟨k1, k2, hstep.symm, k3, k5⟩, k4, rfl, ⟨⟨?_, rfl, rfl⟩, ⟨rfl, rfl, rfl⟩, trivial⟩, ⟨_, rfl⟩, ⟨bndTk, trivial⟩, rfl⟩
          · show SV.i .i64 (IntKind.i64.wrap ((p : Int) + ((⟨1, ((s.take s.length).drop (p : Int).toNat).take (rowF namB ((s.take s.length).drop (p : Int).toNat)), 0, p⟩ : Tk).s.length : Int))) = SV.i .i64 ((p + (⟨1, ((s.take s.length).drop (p : Int).toNat).take (rowF namB ((s.take s.length).drop (p : Int).toNat)), 0, p⟩ : Tk).s.length : Nat) : Int)
            rw [w64 (by omega) (by omega)]; rfl
        have h8 : (letB (cd ((s.take s.length).drop (p : Int).toNat) 0) || decide (cd ((s.take s.length).drop (p : Int).toNat) 0 = 95)) = false := h8
        refine OpC.callV rfl rfl rfl rfl rfl rfl rfl (fun _ => hasPrefix_ok ((s.take s.length).drop (p : Int).toNat) [47, 92]) ?_
        refine OpC.callV rfl rfl rfl rfl rfl rfl rfl (fun _ => hasPrefix_ok ((s.take s.length).drop (p : Int).toNat) [92, 47]) ?_
        refine ⟨fun h9 => ?_, fun h9 => ?_⟩
        · have h9 : (pre ((s.take s.length).drop (p : Int).toNat) [47, 92] || pre ((s.take s.length).drop (p : Int).toNat) [92, 47]) = true := h9
          have hl2 : 2 ≤ ((s.take s.length).drop (p : Int).toNat).length := by
            simp only [Bool.or_eq_true] at h9
            rcases h9 with h9 | h9 <;> exact pre_len h9
          have hob : (0 : Int) ≤ 2 ∧ (2 : Int) ≤ ((s.take s.length).drop (p : Int).toNat).length := by omega
          refine WpC.dr tabOkF mixed 0 ?_
          refine ⟨fun _ => hob, ?_⟩
          refine ⟨by kernel_rfl, ?_⟩
          refine OpC.yld 0 rfl (yld_app_row tabOkF rfl rfl rfl rfl rfl rfl rfl rfl rfl (SrcA.sl rfl rfl rfl rfl (by decide) rfl) (Joins.arrN (y := ⟨3, ((s.take s.length).drop (p : Int).toNat).take 2, 0, p⟩) hNt rfl tkenc_w) (by decide) ?_ ?_) (fun d hd => by cases hd; rfl) ?_
          · exact Nat.le_trans (show N + 1 ≤ 10000 by omega) (by decide)
          · show (N + 1) * 40 ≤ 140737488355328
            omega
          have hlen : (⟨3, ((s.take s.length).drop (p : Int).toNat).take 2, 0, p⟩ : Tk).s.length ≤ s.length - p := by
            show (List.take _ _).length ≤ _
            rw [List.length_take, hXl]; omega
          have hpos : 0 < (⟨3, ((s.take s.length).drop (p : Int).toNat).take 2, 0, p⟩ : Tk).s.length := by
            show 0 < (List.take _ _).length
            rw [List.length_take, hXl]
            omega
          have hst : stepF (s.drop p) p = .tok ⟨3, ((s.take s.length).drop (p : Int).toNat).take 2, 0, p⟩ := by
            unfold stepF
            rw [if_neg (by rw [← hX, h3]; decide)]
            rw [if_neg (by rw [← hX, h4]; decide)]
            rw [if_neg (by rw [← hX, h6]; decide)]
            rw [if_neg (by rw [← hX, h8]; decide)]
            rw [if_pos (by rw [← hX]; exact h9)]
            rw [← hX]
          rw [hst] at hstep
          have k1 : p + (⟨3, ((s.take s.length).drop (p : Int).toNat).take 2, 0, p⟩ : Tk).s.length ≤ s.length := by omega
          have k2 : s.length < p + (⟨3, ((s.take s.length).drop (p : Int).toNat).take 2, 0, p⟩ : Tk).s.length + f' := by omega
          have k3 : N + 1 ≤ p + (⟨3, ((s.take s.length).drop (p : Int).toNat).take 2, 0, p⟩ : Tk).s.length := by omega
          have k5 : (ts ++ [(⟨3, ((s.take s.length).drop (p : Int).toNat).take 2, 0, p⟩ : Tk)]).length = N + 1 := by rw [List.length_append, List.length_singleton]; omega
          have k4 : s.length - (p + (⟨3, ((s.take s.length).drop (p : Int).toNat).take 2, 0, p⟩ : Tk).s.length) < s.length - p := by omega
          refine ⟨(p + (⟨3, ((s.take s.length).drop (p : Int).toNat).take 2, 0, p⟩ : Tk).s.length, N + 1, ts ++ [⟨3, ((s.take s.length).drop (p : Int).toNat).take 2, 0, p⟩], ver + 1, f'), ⟨k1, k2, hstep.symm, k3, k5⟩, k4, rfl, ⟨⟨?_, rfl, rfl⟩, ⟨rfl, rfl, rfl⟩, trivial⟩, ⟨_, rfl⟩, ⟨bndTk, trivial⟩, rfl⟩
          · show SV.i .i64 (IntKind.i64.wrap ((p : Int) + ((⟨3, ((s.take s.length).drop (p : Int).toNat).take 2, 0, p⟩ : Tk).s.length : Int))) = SV.i .i64 ((p + (⟨3, ((s.take s.length).drop (p : Int).toNat).take 2, 0, p⟩ : Tk).s.length : Nat) : Int)
            rw [w64 (by omega) (by omega)]; rfl
        have h9 : (pre ((s.take s.length).drop (p : Int).toNat) [47, 92] || pre ((s.take s.length).drop (p : Int).toNat) [92, 47]) = false := h9
        refine OpC.callV rfl rfl rfl rfl rfl rfl rfl (fun _ => sIndexByte_ok marksL (cd ((s.take s.length).drop (p : Int).toNat) 0)) ?_
        have hmk := mark_ix (((s.take s.length).drop (p : Int).toNat).getD 0 0)
        refine ⟨fun h10 => ?_, fun h10 => ?_⟩
        · have h10 : decide ((0 : Int) ≤ Lib.indexByte marksL (cd ((s.take s.length).drop (p : Int).toNat) 0).toNat.toUInt8) = true := h10
          have hk : (s.drop p).getD 0 0 ∈ marksL := by rw [← hX]; exact of_decide_eq_true (hmk.symm.trans h10)
          have hob : (0 : Int) ≤ 1 ∧ (1 : Int) ≤ ((s.take s.length).drop (p : Int).toNat).length := by omega
          refine WpC.dr tabOkF mixed 0 ?_
          refine ⟨fun _ => hob, ?_⟩
          refine ⟨by kernel_rfl, ?_⟩
          refine OpC.yld 0 rfl (yld_app_row tabOkF rfl rfl rfl rfl rfl rfl rfl rfl rfl (SrcA.sl rfl rfl rfl rfl (by decide) rfl) (Joins.arrN (y := ⟨3, ((s.take s.length).drop (p : Int).toNat).take 1, 0, p⟩) hNt rfl tkenc_w) (by decide) ?_ ?_) (fun d hd => by cases hd; rfl) ?_
          · exact Nat.le_trans (show N + 1 ≤ 10000 by omega) (by decide)
          · show (N + 1) * 40 ≤ 140737488355328
            omega
          have hlen : (⟨3, ((s.take s.length).drop (p : Int).toNat).take 1, 0, p⟩ : Tk).s.length ≤ s.length - p := by
            show (List.take _ _).length ≤ _
            rw [List.length_take, hXl]; omega
          have hpos : 0 < (⟨3, ((s.take s.length).drop (p : Int).toNat).take 1, 0, p⟩ : Tk).s.length := by
            show 0 < (List.take _ _).length
            rw [List.length_take, hXl]
            omega
          have hst : stepF (s.drop p) p = .tok ⟨3, ((s.take s.length).drop (p : Int).toNat).take 1, 0, p⟩ := by
            unfold stepF
            rw [if_neg (by rw [← hX, h3]; decide)]
            rw [if_neg (by rw [← hX, h4]; decide)]
            rw [if_neg (by rw [← hX, h6]; decide)]
            rw [if_neg (by rw [← hX, h8]; decide)]
            rw [if_neg (by rw [← hX, h9]; decide)]
            rw [if_pos hk]
            rw [← hX]
          rw [hst] at hstep
          have k1 : p + (⟨3, ((s.take s.length).drop (p : Int).toNat).take 1, 0, p⟩ : Tk).s.length ≤ s.length := by omega
          have k2 : s.length < p + (⟨3, ((s.take s.length).drop (p : Int).toNat).take 1, 0, p⟩ : Tk).s.length + f' := by omega
          have k3 : N + 1 ≤ p + (⟨3, ((s.take s.length).drop (p : Int).toNat).take 1, 0, p⟩ : Tk).s.length := by omega
          have k5 : (ts ++ [(⟨3, ((s.take s.length).drop (p : Int).toNat).take 1, 0, p⟩ : Tk)]).length = N + 1 := by rw [List.length_append, List.length_singleton]; omega
          have k4 : s.length - (p + (⟨3, ((s.take s.length).drop (p : Int).toNat).take 1, 0, p⟩ : Tk).s.length) < s.length - p := by omega
          refine ⟨(p + (⟨3, ((s.take s.length).drop (p : Int).toNat).take 1, 0, p⟩ : Tk).s.length, N + 1, ts ++ [⟨3, ((s.take s.length).drop (p : Int).toNat).take 1, 0, p⟩], ver + 1, f'), ⟨k1, k2, hstep.symm, k3, k5⟩, k4, rfl, ⟨⟨?_, rfl, rfl⟩, ⟨rfl, rfl, rfl⟩, trivial⟩, ⟨_, rfl⟩, ⟨bndTk, trivial⟩, rfl⟩
          · show SV.i .i64 (IntKind.i64.wrap ((p : Int) + ((⟨3, ((s.take s.length).drop (p : Int).toNat).take 1, 0, p⟩ : Tk).s.length : Int))) = SV.i .i64 ((p + (⟨3, ((s.take s.length).drop (p : Int).toNat).take 1, 0, p⟩ : Tk).s.length : Nat) : Int)
            rw [w64 (by omega) (by omega)]; rfl
        · have h10 : decide ((0 : Int) ≤ Lib.indexByte marksL (cd ((s.take s.length).drop (p : Int).toNat) 0).toNat.toUInt8) = false := h10
          have hk : ¬ (s.drop p).getD 0 0 ∈ marksL := by rw [← hX]; exact of_decide_eq_false (hmk.symm.trans h10)
          have hst : stepF (s.drop p) p = .err 20 := by
            unfold stepF
            rw [if_neg (by rw [← hX, h3]; decide)]
            rw [if_neg (by rw [← hX, h4]; decide)]
            rw [if_neg (by rw [← hX, h6]; decide)]
            rw [if_neg (by rw [← hX, h8]; decide)]
            rw [if_neg (by rw [← hX, h9]; decide)]
            rw [if_neg hk]

          rw [hst] at hstep
          exact .inr ⟨20, p, hstep, by decide, rfl⟩
      · have h2 : p = s.length := by
          have h2 : decide ((p : Int) < s.length) = false := h2
          simp at h2; omega
        rw [tokC_end (by omega)] at hc
        subst hNt
        exact .inl ⟨ts, ver, _, hc.symm, rfl, rfl⟩
  exact key.trim callX_m fun r H1 hk => by
    rcases hk with ⟨ts, ver, Y, h1, h2, h3⟩ | ⟨e, p, h1, h2, h3⟩
    · exact ⟨[rowK ts.length ts ver], Y, h3, Nat.zero_le _, ⟨bndTk, trivial⟩, by rw [h2]; rfl, .inl ⟨ts, ver, h1, h2, rfl⟩⟩
    · exact ⟨[], H1, rfl, Nat.zero_le _, trivial, by rw [h3]; rfl, .inr ⟨e, p, h1, h2, h3, rfl⟩⟩
end SX
end Go.Proofs.YthkedcneehdinaaGreatDoor

/- The program's scan.Tokens: its words lie in memory that stays. -/
set_option linter.unusedVariables false
set_option maxRecDepth 100000
namespace Go.Proofs.YthkedcneehdinaaGreatDoor
namespace SX
open Go Go.Proofs
theorem tkw (x : Tk) : wdL (tkenc x) = 4 := rfl
theorem tkok (x : Tk) (m : Mem) : OkL m [] (tkenc x) := by simp [tkenc, OkL, isUnit, Ok]
theorem Rel.gone {E : Env} {C : Fr} {m : Mem} {h : List SB} {w : World} (hr : Rel E C m h w) {k ver : Nat} {B : SB} (hk : h[k]? = some B) (hl : (SB.gone ver).lim = B.lim) : Rel E C m (h.set k (.gone ver)) w := by
  have hvs : vers (h.set k (.gone ver)) = vers h := vers_set (B' := .gone ver) hk hl
  have hkl : k < h.length := (List.getElem?_eq_some_iff.1 hk).1
  have hgk : (h.set k (.gone ver))[k]? = some (.gone ver) := by simp [List.getElem?_set, hkl]
  have hge : ∀ j, j ≠ k → (h.set k (.gone ver))[j]? = h[j]? := fun j hj => List.getElem?_set_ne (Ne.symm hj)
  have hblk : ∀ j b, BlkAt E (h.set k (.gone ver)) j b → j ≠ k ∧ BlkAt E h j b := by
    rintro j b ⟨B', hB', hb⟩
    by_cases hj : j = k
    · subst hj; rw [hgk] at hB'; cases hB'; exact hb.elim
    · rw [hge j hj] at hB'; exact ⟨hj, B', hB', hb⟩
  refine ⟨hr.os, hr.tape, hr.output, hr.im, hr.fr, hr.mf, ?_, ?_, ?_, ?_⟩
  · intro j B' hB'
    by_cases hj : j = k
    · subst hj; rw [hgk] at hB'; cases hB'; trivial
    · rw [hge j hj] at hB'; rw [hvs]; exact hr.bl j B' hB'
  · rw [hvs]; exact hr.nn
  · intro j b hb; exact hr.sp j b (hblk j b hb).2
  · intro i j b h1 h2; exact hr.inj i j b (hblk i b h1).2 (hblk j b h2).2
/-- A row that is handed back, ahead of two numbers, stays. -/
theorem Cp.row3 {α : Type} {d : α} {n : Nat} {enc : α → List SV} {X : List Value → World → (Value → World → Prop) → Prop} (hX : XMono X) {args : List SV} {H : List SB} {ty : TypeId} {g : Nat} (hn : n = g + 1) (hw : ∀ x, wdL (enc x) = n) (hok : ∀ x m, OkL m [] (enc x)) {K : SV → List SB → Prop}
    (h : Cp X args H (fun r h => (∃ (xs : List α) (ver : Nat) (y z : SV), r = .tup [.sl 0 ver 0 xs.length none 0, y, z] ∧ h = [.mem ty [.arr xs.length α d n enc xs] ver n] ∧ ∀ ad cap, K (.tup [.imm α d n enc xs ad cap, y, z]) [.gone ver]) ∨ K r h)) : Cp X args H K := by
  subst hn
  refine ⟨fun C E m w hr ha => hX _ _ _ _ (h.out C E m w hr ha) fun v w' ⟨r, H', E', m', h1, h2, h3, h4, h5⟩ => ?_⟩
  rcases h2 with ⟨xs, ver, y, z, rfl, rfl, hk⟩ | h2
  · have h3 := h3
    simp only [Ok, OkA] at h3
    obtain ⟨⟨⟨_, o1⟩, ⟨ly, o2⟩, ⟨lz, o3⟩, _⟩, _⟩ := h3
    have ht : ∀ vs, den E' (.tup vs) = .tuple (denL E' vs).toArray := fun vs => by simp [den, wrapV, cells]
    by_cases hv : ver = 0
    · subst hv
      simp only [Ok] at o1
      have hl0 : xs = [] := List.eq_nil_of_length_eq_zero (by simpa using o1.2)
      subst hl0
      have e7 : ∃ ad cap, den E' (.sl 0 0 0 ([] : List α).length none 0) = den E' (.imm α d (g + 1) enc ([] : List α) ad cap) := by
        cases he : E' 0 0 with
        | none => exact ⟨none, 0, by simp [den, wrapV, cells, he]⟩
        | some bc => obtain ⟨b, c⟩ := bc; exact ⟨some ⟨b, 0, none⟩, c, by simp [den, wrapV, cells, he]⟩
      obtain ⟨ad, cap, e7⟩ := e7
      refine ⟨_, _, E', m', ?_, hk ad cap, ?_, h4, Rel.gone (k := 0) (ver := 0) h5 rfl rfl⟩
      · rw [h1, ht, ht]
        show Value.tuple (den E' (.sl 0 0 0 ([] : List α).length none 0) :: denL E' [y, z]).toArray = Value.tuple (den E' (.imm α d (g + 1) enc ([] : List α) ad cap) :: denL E' [y, z]).toArray
        rw [e7]
      · refine ⟨?_, rfl⟩
        simp only [Ok, OkA]
        exact ⟨⟨rfl, Nat.zero_le _, fun h => absurd rfl h, hw, fun j hj => absurd hj (Nat.not_lt_zero _)⟩, ⟨ly, o2⟩, ⟨lz, o3⟩, trivial⟩
    · have hrep : Rep E' C m' ⟨[.sl 0 ver 0 xs.length none 0], [.mem ty [.arr xs.length α d (g + 1) enc xs] ver (g + 1)]⟩ ⟨#[den E' (.sl 0 ver 0 xs.length none 0)], []⟩ w' :=
        ⟨rfl, fun q x u hx hu => by
          rcases q with _ | q
          · simp at hx hu; subst hx; subst hu
            exact ⟨by simpa only [Ok] using o1, rfl⟩
          · simp at hx, rfl, h5⟩
      obtain ⟨m2, b, c, e1, e2, e3⟩ := still_base (k := 0) hrep rfl rfl hv hw hok
      obtain ⟨ad, cap, e4⟩ := still_slot (j := 0) (i := 0) (len := xs.length) e2 e3 rfl hw hok (by simp) (by omega)
      have e5 := e4.sl 0 _ _ rfl rfl
      simp only [List.drop_zero, List.take_length] at e5
      have e6 : Ok m2 (vers [SB.gone ver]) (.imm α d (g + 1) enc xs (some ad) cap) ∧ den E' (.sl 0 ver 0 xs.length none 0) = den E' (.imm α d (g + 1) enc xs (some ad) cap) := e5
      refine ⟨_, _, E', m2, ?_, hk (some ad) cap, ?_, h4.trans e1, e4.rel⟩
      · rw [h1, ht, ht]
        show Value.tuple (den E' (.sl 0 ver 0 xs.length none 0) :: denL E' [y, z]).toArray = Value.tuple (den E' (.imm α d (g + 1) enc xs (some ad) cap) :: denL E' [y, z]).toArray
        rw [e6.2]
      · refine ⟨?_, rfl⟩
        simp only [Ok, OkA]
        have k1 := e6.1
        simp only [Ok] at k1
        exact ⟨⟨rfl, k1⟩, ⟨ly, Ok.mono e1.mm y _ _ e1.vv o2⟩, ⟨lz, Ok.mono e1.mm z _ _ e1.vv o3⟩, trivial⟩
  · exact ⟨r, H', E', m', h1, h2, h3, h4, h5⟩
/-- What the words' reader hands back, in memory that stays. -/
def TokI (s : List UInt8) (r : SV) (h : List SB) : Prop :=
  (∃ ts ad cap ver, tokF s = (ts, 0, 0) ∧ r = .tup [.imm Tk tk0 4 tkenc ts ad cap, .i .i64 0, .i .i64 0] ∧ h = [.gone ver]) ∨
  (∃ e p, tokF s = ([], e, p) ∧ e ≠ 0 ∧ r = .tup [.nils, .i .i64 e, .i .i64 p] ∧ h = [])
theorem tokensI_ok (s : List UInt8) : Ctr Tryz.prog 13 [.s s] [] (TokI s) := by
  refine Cp.row3 (α := Tk) (d := tk0) (enc := tkenc) (n := 4) (g := 3) (ty := 42) callX_m rfl tkw tkok ((tokens_ok s).mono callX_m ?_)
  rintro r h (⟨ts, ver, h1, rfl, rfl⟩ | ⟨e, p, h1, he, rfl, rfl⟩)
  · exact .inl ⟨ts, ver, _, _, rfl, rfl, fun ad cap => .inl ⟨ts, ad, cap, ver, h1, rfl, rfl⟩⟩
  · exact .inr (.inr ⟨e, p, h1, he, rfl, rfl⟩)
end SX
end Go.Proofs.YthkedcneehdinaaGreatDoor

/- Is a text one name? -/
set_option linter.unusedVariables false
set_option maxRecDepth 100000
namespace Go.Proofs.YthkedcneehdinaaGreatDoor
namespace SX
open Go Go.Proofs
end SX
end Go.Proofs.YthkedcneehdinaaGreatDoor

/- Words read as an instruction, plain: the readers' steps, the program's and the reference's; they answer alike. -/
set_option linter.unusedVariables false
set_option maxRecDepth 100000
namespace Go.Proofs.YthkedcneehdinaaGreatDoor
namespace SX
open Go Go.Proofs
/-- A language: its registers, what stands ahead of a number. -/
structure Lg where
  s0 : List UInt8
  s1 : List UInt8
  s2 : List UInt8
  s3 : List UInt8
  s4 : List UInt8
  s5 : List UInt8
  s6 : List UInt8
  s7 : List UInt8
  h : List UInt8
def Lg.ix (L : Lg) (v : List UInt8) : Int := idxF L.s0 L.s1 L.s2 L.s3 L.s4 L.s5 L.s6 L.s7 v
def lgA : Lg := ⟨[88, 48], [88, 49], [88, 50], [88, 51], [88, 52], [88, 53], [88, 54], [88, 55], [35]⟩
/-- A reader's state: where it stands, what is wrong, where. -/
structure RS where
  p : Nat
  e : Int
  q : Int
def tkAt (ts : List Tk) (p : Nat) : Tk := ts.getD p tk0
def whF (ts : List Tk) (p : Nat) : Int := if p < ts.length then (tkAt ts p).a else if ts.length = 0 then 0 else IntKind.i64.wrap ((tkAt ts (ts.length - 1)).a + ((tkAt ts (ts.length - 1)).s.length : Int))
def failF (s : RS) (e q : Int) : RS := if s.e = 0 then ⟨s.p, e, q⟩ else s
def takeB (ts : List Tk) (m : List UInt8) (p : Nat) : Bool := decide (p < ts.length) && (decide ((tkAt ts p).s = m) && !decide ((tkAt ts p).k = 2))
def goF (s : RS) : RS := ⟨s.p + 1, s.e, s.q⟩
def locI (v : List UInt8) : Int := if v = [120] then 0 else if v = [121] then 1 else if v = [122] then 2 else -1
/-! The program's. -/
def missP (ts : List Tk) (s : RS) : RS := if s.p < ts.length then failF s 22 (whF ts s.p) else failF s 24 (whF ts s.p)
def markP (ts : List Tk) (m : List UInt8) (s : RS) : RS := if s.e = 0 then (if takeB ts m s.p then goF s else missP ts s) else s
def wordP (ts : List Tk) (s : RS) : List UInt8 × RS := if s.e = 0 then (if (tkAt ts s.p).k = 1 then ((tkAt ts s.p).s, goF s) else ([], missP ts s)) else ([], s)
def ofP (f : List UInt8 → Int) (ts : List Tk) (s : RS) : Int × RS := if f (wordP ts s).1 < 0 then (0, failF (wordP ts s).2 21 (whF ts s.p)) else (f (wordP ts s).1, (wordP ts s).2)
def regP (L : Lg) (ts : List Tk) (s : RS) : Int × RS := ofP L.ix ts s
def nmP (ts : List Tk) (g : Int) (s : RS) : Int × RS := if (tkAt ts s.p).k = 2 then (IntKind.i64.wrap (g * (tkAt ts s.p).n), goF s) else (0, missP ts s)
def numP (ts : List Tk) (s : RS) : Int × RS := if s.e = 0 then (if takeB ts [45] s.p then nmP ts (-1) (goF s) else nmP ts 1 s) else (0, s)
def immP (L : Lg) (ts : List Tk) (s : RS) : Int × RS := numP ts (if L.h = [] then s else markP ts L.h s)
def nmdB (ts : List Tk) (s : RS) : Bool := decide ((tkAt ts s.p).k = 1)
/-- A register, a number (0: as it was): one of both. -/
def eitP (L : Lg) (ts : List Tk) (s : RS) : (Int × Int) × RS := if nmdB ts s then (((regP L ts s).1, 0), (regP L ts s).2) else ((-1, (immP L ts s).1), (immP L ts s).2)
def ixP (L : Lg) (ts : List Tk) (i : In) (s : RS) : In × RS := ({ i with ix := (regP L ts s).1 }, (regP L ts s).2)
def plusP (L : Lg) (ts : List Tk) (i : In) (s : RS) : In × RS :=
  if (tkAt ts s.p).k = 2 then (if takeB ts [43] (goF s).p then ixP L ts { i with off := (tkAt ts s.p).n } (goF (goF s)) else ({ i with off := (tkAt ts s.p).n }, goF s)) else ixP L ts i s
def memP (L : Lg) (ts : List Tk) (i : In) (z : Int) (s : RS) : In × RS :=
  let w := ofP locI ts (markP ts [91] s)
  let i1 : In := { i with loc := w.1, sz := z }
  let r := if decide (w.2.e = 0) && takeB ts [43] w.2.p then plusP L ts i1 (goF w.2) else (i1, w.2)
  (r.1, markP ts [93] r.2)
/-! The reference's. -/
def oddR (ts : List Tk) (u : Bool) (s : RS) : RS := if s.p < ts.length then (if u && decide ((tkAt ts s.p).k = 1) then failF s 21 (tkAt ts s.p).a else failF s 22 (tkAt ts s.p).a) else failF s 24 (whF ts s.p)
def markR (ts : List Tk) (m : List UInt8) (s : RS) : RS := if s.e = 0 then (if takeB ts m s.p then goF s else oddR ts false s) else s
def isR (ts : List Tk) (m : List UInt8) (s : RS) : Bool := decide (s.e = 0) && takeB ts m s.p
def regR (L : Lg) (ts : List Tk) (s : RS) : Int × RS := if s.e = 0 then (if (tkAt ts s.p).k = 1 ∧ 0 ≤ L.ix (tkAt ts s.p).s then (L.ix (tkAt ts s.p).s, goF s) else (-1, oddR ts true s)) else (-1, s)
def nmR (ts : List Tk) (g : Bool) (s : RS) : Int × RS := if (tkAt ts s.p).k = 2 then (if g then IntKind.i64.wrap (0 - (tkAt ts s.p).n) else (tkAt ts s.p).n, goF s) else (0, oddR ts false s)
def numR (ts : List Tk) (s : RS) : Int × RS := if s.e = 0 then (if takeB ts [45] s.p then nmR ts true (goF s) else nmR ts false s) else (0, s)
def immR (L : Lg) (ts : List Tk) (s : RS) : Int × RS := numR ts (if L.h = [] then s else markR ts L.h s)
def isImm (L : Lg) (ts : List Tk) (s : RS) : Bool := !decide (L.h = []) && isR ts L.h s
def eitR (L : Lg) (ts : List Tk) (s : RS) : (Int × Int) × RS := if isImm L ts s then ((-1, (immR L ts s).1), (immR L ts s).2) else (((regR L ts s).1, 0), (regR L ts s).2)
def ixR (L : Lg) (ts : List Tk) (i : In) (s : RS) : In × RS := ({ i with ix := (regR L ts s).1 }, (regR L ts s).2)
def plusR (L : Lg) (ts : List Tk) (i : In) (s : RS) : In × RS :=
  if (tkAt ts s.p).k = 2 then (if isR ts [43] (goF s) then ixR L ts { i with off := (tkAt ts s.p).n } (goF (goF s)) else ({ i with off := (tkAt ts s.p).n }, goF s)) else ixR L ts i s
def memR (L : Lg) (ts : List Tk) (i : In) (s : RS) : In × RS :=
  let s1 := markR ts [91] s
  let s2 := if s1.e = 0 ∧ ¬ ((tkAt ts s1.p).k = 1 ∧ 0 ≤ locI (tkAt ts s1.p).s) then oddR ts true s1 else s1
  if s2.e = 0 then
    let i1 : In := { i with loc := locI (tkAt ts s2.p).s }
    let s3 := goF s2
    let r := if isR ts [43] s3 then plusR L ts i1 (goF s3) else (i1, s3)
    (r.1, markR ts [93] r.2)
  else (i, s2)
/-! Both answer alike. -/
/-- What counts of a state. -/
def nrm (s : RS) : RS := if s.e = 0 then ⟨s.p, 0, 0⟩ else ⟨0, s.e, s.q⟩
/-- Words as a text has them. -/
structure WfT (t : Tk) : Prop where
  nam : t.k = 1 → letB (cd t.s 0) = true ∨ cd t.s 0 = 95
  num : IntKind.i64.wrap t.n = t.n
def Wf (ts : List Tk) : Prop := ∀ p, WfT (tkAt ts p)
theorem nrm_live {a b : RS} (h : nrm a = nrm b) : (a.e = 0 ↔ b.e = 0) := by
  unfold nrm at h
  split at h <;> split at h <;> simp_all
theorem nrm_p {a b : RS} (h : nrm a = nrm b) (ha : a.e = 0) : b.e = 0 ∧ a.p = b.p := by
  have hb := (nrm_live h).1 ha
  unfold nrm at h
  rw [if_pos ha, if_pos hb] at h
  exact ⟨hb, by simpa using h⟩
theorem nrm_go {a b : RS} (h : nrm a = nrm b) : nrm (goF a) = nrm (goF b) := by
  unfold nrm goF at *
  dsimp only
  split at h <;> split at h <;> simp_all
theorem nrm_fail {a b : RS} (h : nrm a = nrm b) {e q e' q' : Int} (he : a.e = 0 → e = e') (hq : a.e = 0 → q = q') : nrm (failF a e q) = nrm (failF b e' q') := by
  by_cases ha : a.e = 0
  · have hb := (nrm_live h).1 ha
    unfold failF
    rw [if_pos ha, if_pos hb, he ha, hq ha]
    unfold nrm
    simp only
    split
    · exact congrArg (fun p => RS.mk p 0 0) (nrm_p h ha).2
    · rfl
  · have hb : ¬ b.e = 0 := fun hb => ha ((nrm_live h).2 hb)
    unfold failF
    rw [if_neg ha, if_neg hb]
    exact h
theorem failF_e {s : RS} {e q : Int} (he : e ≠ 0) : (failF s e q).e ≠ 0 := by
  unfold failF
  split
  · exact he
  · assumption
theorem miss_e (ts : List Tk) (s : RS) : (missP ts s).e ≠ 0 := by unfold missP; split <;> exact failF_e (by decide)
theorem odd_e (ts : List Tk) (u : Bool) (s : RS) : (oddR ts u s).e ≠ 0 := by unfold oddR; split <;> (try split) <;> exact failF_e (by decide)
theorem miss_odd (ts : List Tk) (s : RS) : missP ts s = oddR ts false s := by
  unfold missP oddR whF
  split <;> simp
theorem nrm_odd {ts : List Tk} {u : Bool} {a b : RS} (h : nrm a = nrm b) : nrm (oddR ts u a) = nrm (oddR ts u b) := by
  by_cases ha : a.e = 0
  · obtain ⟨hb, hp⟩ := nrm_p h ha
    unfold oddR
    rw [← hp]
    split
    · split <;> exact nrm_fail h (fun _ => rfl) (fun _ => rfl)
    · exact nrm_fail h (fun _ => rfl) (fun _ => rfl)
  · have hb : ¬ b.e = 0 := fun hb => ha ((nrm_live h).2 hb)
    have e : ∀ (s : RS), ¬ s.e = 0 → oddR ts u s = s := fun s hs => by unfold oddR failF; simp only [if_neg hs, ite_self]
    rw [e a ha, e b hb]; exact h
theorem mark_eq (ts : List Tk) (m : List UInt8) (s : RS) : markP ts m s = markR ts m s := by unfold markP markR; rw [miss_odd]
theorem mark_e {ts : List Tk} {m : List UInt8} {s : RS} (h : (markP ts m s).e = 0) : s.e = 0 ∧ markP ts m s = goF s := by
  unfold markP at h ⊢
  split at h
  · rename_i h0
    split at h
    · rename_i h1; exact ⟨h0, by rw [if_pos h0, if_pos h1]⟩
    · exact absurd h (miss_e ts s)
  · rename_i h0; exact absurd h h0
theorem mark_sim {ts : List Tk} {m : List UInt8} {a b : RS} (h : nrm a = nrm b) : nrm (markP ts m a) = nrm (markR ts m b) ∧ ((markP ts m a).e = 0 → a.e = 0) := by
  refine ⟨?_, fun h => (mark_e h).1⟩
  rw [mark_eq]
  by_cases ha : a.e = 0
  · obtain ⟨hb, hp⟩ := nrm_p h ha
    unfold markR
    rw [if_pos ha, if_pos hb, ← hp]
    split
    · exact nrm_go h
    · exact nrm_odd h
  · have hb : ¬ b.e = 0 := fun hb => ha ((nrm_live h).2 hb)
    unfold markR
    rw [if_neg ha, if_neg hb]; exact h
theorem at_lt {ts : List Tk} {p : Nat} (h : (tkAt ts p).k ≠ 0) : p < ts.length := by
  by_cases hp : p < ts.length
  · exact hp
  · exact absurd (by unfold tkAt; rw [List.getD_eq_getElem?_getD, List.getElem?_eq_none (by omega)]; rfl) h
/-- What both read: a number of it, where they are then; alike. -/
def SmP {α : Type} (a : RS) (x y : α × RS) : Prop := nrm x.2 = nrm y.2 ∧ (x.2.e = 0 → a.e = 0 ∧ x.1 = y.1)
theorem of_sim {f : List UInt8 → Int} (hf : f [] < 0) {ts : List Tk} {a b : RS} (h : nrm a = nrm b) (d : Int := -1) :
    SmP a (ofP f ts a) (if b.e = 0 then (if (tkAt ts b.p).k = 1 ∧ 0 ≤ f (tkAt ts b.p).s then (f (tkAt ts b.p).s, goF b) else (d, oddR ts true b)) else (d, b)) := by
  by_cases ha : a.e = 0
  · obtain ⟨hb, hp⟩ := nrm_p h ha
    rw [if_pos hb, ← hp]
    unfold ofP wordP
    rw [if_pos ha]
    by_cases hk : (tkAt ts a.p).k = 1
    · rw [if_pos hk]
      have hlt := at_lt (ts := ts) (p := a.p) (by rw [hk]; decide)
      by_cases hn : f (tkAt ts a.p).s < 0
      · rw [if_pos hn, if_neg (by omega)]
        refine ⟨?_, fun he => absurd he (failF_e (by decide))⟩
        unfold oddR
        rw [← hp, if_pos hlt, hk]
        simp only [decide_true, Bool.and_true, if_true]
        unfold failF goF
        simp only [if_pos ha, if_pos hb]
        unfold nrm whF
        simp [hlt]
      · rw [if_neg hn, if_pos ⟨hk, by omega⟩]
        exact ⟨nrm_go h, fun _ => ⟨ha, rfl⟩⟩
    · rw [if_neg hk, if_pos hf, if_neg (fun hh => hk hh.1)]
      refine ⟨?_, fun he => absurd he (failF_e (by decide))⟩
      have e1 : failF (missP ts a) 21 (whF ts a.p) = missP ts a := by
        have := miss_e ts a
        unfold failF; rw [if_neg this]
      rw [e1, miss_odd]
      have e2 : oddR ts true b = oddR ts false b := by
        unfold oddR
        rw [← hp, decide_eq_false hk]; rfl
      rw [e2]
      exact nrm_odd h
  · have hb : ¬ b.e = 0 := fun hb => ha ((nrm_live h).2 hb)
    rw [if_neg hb]
    unfold ofP wordP
    rw [if_neg ha, if_pos hf]
    have e1 : failF a 21 (whF ts a.p) = a := by unfold failF; rw [if_neg ha]
    rw [e1]
    exact ⟨h, fun he => absurd he ha⟩
theorem reg_sim {L : Lg} (hL : L.ix [] < 0) {ts : List Tk} {a b : RS} (h : nrm a = nrm b) : SmP a (regP L ts a) (regR L ts b) := of_sim hL h
theorem neg_mul1 (n : Int) : -1 * n = 0 - n := by omega
theorem num_eq {ts : List Tk} (hw : Wf ts) (s : RS) : numP ts s = numR ts s := by
  unfold numP numR nmP nmR
  simp only [miss_odd, neg_mul1, Int.one_mul, (hw _).num]
  rfl
theorem num_sim {ts : List Tk} (hw : Wf ts) {a b : RS} (h : nrm a = nrm b) : SmP a (numP ts a) (numR ts b) := by
  rw [num_eq hw]
  by_cases ha : a.e = 0
  · obtain ⟨hb, hp⟩ := nrm_p h ha
    unfold numR
    rw [if_pos ha, if_pos hb, ← hp]
    have key : ∀ (g : Bool) (x y : RS), nrm x = nrm y → x.e = 0 → SmP a (nmR ts g x) (nmR ts g y) := by
      intro g x y hxy hx
      obtain ⟨hy, hp⟩ := nrm_p hxy hx
      unfold nmR
      rw [← hp]
      split
      · exact ⟨nrm_go hxy, fun _ => ⟨ha, rfl⟩⟩
      · exact ⟨nrm_odd hxy, fun he => absurd he (odd_e ts false x)⟩
    split
    · exact key _ _ _ (nrm_go h) ha
    · exact key _ _ _ h ha
  · have hb : ¬ b.e = 0 := fun hb => ha ((nrm_live h).2 hb)
    unfold numR
    rw [if_neg ha, if_neg hb]
    exact ⟨h, fun he => absurd he ha⟩
theorem imm_sim {L : Lg} {ts : List Tk} (hw : Wf ts) {a b : RS} (h : nrm a = nrm b) : SmP a (immP L ts a) (immR L ts b) := by
  unfold immP immR
  split
  · exact num_sim hw h
  · have h1 := mark_sim (ts := ts) (m := L.h) h
    have h2 := num_sim hw h1.1
    exact ⟨h2.1, fun he => ⟨h1.2 (h2.2 he).1, (h2.2 he).2⟩⟩
/-- A mark's text is no name's. -/
theorem mark_k {ts : List Tk} (hw : Wf ts) {m : List UInt8} (hm : letB (cd m 0) = false ∧ cd m 0 ≠ 95) {p : Nat} (h : takeB ts m p = true) : (tkAt ts p).k ≠ 1 := by
  intro hk
  unfold takeB at h
  simp only [Bool.and_eq_true, decide_eq_true_eq, Bool.not_eq_true'] at h
  have := (hw p).nam hk
  rw [h.2.1] at this
  rcases this with h1 | h1
  · rw [hm.1] at h1; cases h1
  · exact hm.2 h1
theorem eit_sim {L : Lg} (hL : L.ix [] < 0) (hh : L.h ≠ []) (hm : letB (cd L.h 0) = false ∧ cd L.h 0 ≠ 95) {ts : List Tk} (hw : Wf ts) {a b : RS} (h : nrm a = nrm b) : SmP a (eitP L ts a) (eitR L ts b) := by
  unfold eitP eitR
  have hr := reg_sim hL (ts := ts) h
  have hi := imm_sim (L := L) hw h
  by_cases ha : a.e = 0
  · obtain ⟨hb, hp⟩ := nrm_p h ha
    unfold nmdB isImm isR
    rw [decide_eq_true hb, decide_eq_false hh, ← hp]
    simp only [Bool.not_false, Bool.true_and]
    by_cases hk : (tkAt ts a.p).k = 1
    · rw [if_pos (decide_eq_true hk)]
      have : takeB ts L.h a.p = false := by
        cases ht : takeB ts L.h a.p with
        | false => rfl
        | true => exact absurd hk (mark_k hw hm ht)
      rw [this]
      exact ⟨hr.1, fun he => ⟨ha, by rw [(hr.2 he).2]; rfl⟩⟩
    · rw [if_neg (by simpa using hk)]
      cases ht : takeB ts L.h a.p with
      | true => exact ⟨hi.1, fun he => ⟨ha, by rw [(hi.2 he).2]; rfl⟩⟩
      | false =>
        -- both fail
        have e1 : immP L ts a = (0, missP ts a) := by
          unfold immP
          rw [if_neg hh]
          unfold markP
          rw [if_pos ha, ht]
          simp only [Bool.false_eq_true, if_false]
          unfold numP
          rw [if_neg (miss_e ts a)]
        have e2 : regR L ts b = (-1, oddR ts true b) := by
          unfold regR
          rw [if_pos hb, ← hp, if_neg (fun hh => hk hh.1)]
        rw [e1, e2]
        refine ⟨?_, fun he => absurd he (miss_e ts a)⟩
        rw [miss_odd]
        have e3 : oddR ts true b = oddR ts false b := by
          unfold oddR
          rw [← hp, decide_eq_false hk]; rfl
        simp only [Bool.false_eq_true, if_false]
        rw [e3]
        exact nrm_odd h
  · have hb : ¬ b.e = 0 := fun hb => ha ((nrm_live h).2 hb)
    unfold isImm isR
    rw [decide_eq_false hb]
    simp only [Bool.false_and, Bool.and_false, Bool.false_eq_true, if_false]
    split
    · exact ⟨hr.1, fun he => absurd (hr.2 he).1 ha⟩
    · refine ⟨?_, fun he => absurd (hi.2 he).1 ha⟩
      have e1 : regR L ts b = (-1, b) := by unfold regR; rw [if_neg hb]
      have e2 : immR L ts b = (0, b) := by
        unfold immR
        have e3 : markR ts L.h b = b := by unfold markR; rw [if_neg hb]
        rw [e3, ite_self]
        unfold numR; rw [if_neg hb]
      have := hi.1
      rw [e2] at this
      rw [e1]; exact this
theorem ix_sim {L : Lg} (hL : L.ix [] < 0) {ts : List Tk} {i : In} {a b : RS} (h : nrm a = nrm b) : SmP a (ixP L ts i a) (ixR L ts i b) := by
  have hr := reg_sim hL (ts := ts) h
  exact ⟨hr.1, fun he => ⟨(hr.2 he).1, by show { i with ix := (regP L ts a).1 } = { i with ix := (regR L ts b).1 }; rw [(hr.2 he).2]⟩⟩
theorem plus_sim {L : Lg} (hL : L.ix [] < 0) {ts : List Tk} {i : In} {a b : RS} (h : nrm a = nrm b) (ha : a.e = 0) : SmP a (plusP L ts i a) (plusR L ts i b) := by
  obtain ⟨hb, hp⟩ := nrm_p h ha
  unfold plusP plusR isR
  rw [← hp, show (goF b).e = 0 from hb, show (goF b).p = (goF a).p by unfold goF; rw [hp]]
  simp only [decide_true, Bool.true_and]
  split
  · split
    · exact ix_sim hL (a := goF (goF a)) (nrm_go (nrm_go h))
    · exact ⟨nrm_go h, fun _ => ⟨ha, rfl⟩⟩
  · exact ix_sim hL h
theorem locI_nil : locI [] < 0 := by decide
theorem mem_sim {L : Lg} (hL : L.ix [] < 0) {ts : List Tk} {i : In} {z : Int} (hz : i.sz = z) {a b : RS} (h : nrm a = nrm b) : SmP a (memP L ts i z a) (memR L ts i b) := by
  have h1 := mark_sim (ts := ts) (m := [91]) h
  have h2 := of_sim locI_nil (ts := ts) h1.1
  unfold memP memR
  dsimp only
  generalize hs1 : markP ts [91] a = s1 at *
  generalize hs1' : markR ts [91] b = s1' at *
  subst hz
  by_cases hl : s1.e = 0
  · obtain ⟨hl', hp⟩ := nrm_p h1.1 hl
    rw [if_pos hl'] at h2
    by_cases hc : (tkAt ts s1'.p).k = 1 ∧ 0 ≤ locI (tkAt ts s1'.p).s
    · rw [if_pos hc] at h2
      have hcn : ¬ (s1'.e = 0 ∧ ¬ ((tkAt ts s1'.p).k = 1 ∧ 0 ≤ locI (tkAt ts s1'.p).s)) := fun hh => hh.2 hc
      simp only [if_neg hcn, if_pos hl']
      have hwl : (ofP locI ts s1).2.e = 0 := (nrm_live h2.1).2 hl'
      have hv := (h2.2 hwl).2
      obtain ⟨_, hp2⟩ := nrm_p h2.1 hwl
      have hn := h2.1
      dsimp only at hv hp2 hn
      generalize hw : ofP locI ts s1 = w at *
      rw [hwl, hv]
      have er : isR ts [43] (goF s1') = takeB ts [43] w.2.p := by unfold isR; rw [show (goF s1').e = 0 from hl', hp2]; rfl
      rw [er]
      simp only [decide_true, Bool.true_and]
      split
      · have hp3 := plus_sim hL (ts := ts) (i := { i with loc := locI (tkAt ts s1'.p).s, sz := i.sz }) (nrm_go hn) (show (goF w.2).e = 0 from hwl)
        have h4 := mark_sim (ts := ts) (m := [93]) hp3.1
        exact ⟨h4.1, fun he => ⟨h1.2 hl, (hp3.2 (h4.2 he)).2⟩⟩
      · have h4 := mark_sim (ts := ts) (m := [93]) hn
        exact ⟨h4.1, fun he => ⟨h1.2 hl, rfl⟩⟩
    · rw [if_neg hc] at h2
      have hwd : ¬ (ofP locI ts s1).2.e = 0 := fun he => absurd ((nrm_live h2.1).1 he) (odd_e ts true s1')
      have hn := h2.1
      dsimp only at hn
      rw [decide_eq_false hwd]
      simp only [Bool.false_and, Bool.false_eq_true, if_false]
      have e1 : markP ts [93] (ofP locI ts s1).2 = (ofP locI ts s1).2 := by unfold markP; rw [if_neg hwd]
      have hcp : s1'.e = 0 ∧ ¬ ((tkAt ts s1'.p).k = 1 ∧ 0 ≤ locI (tkAt ts s1'.p).s) := ⟨hl', hc⟩
      rw [e1]
      simp only [if_pos hcp, if_neg (odd_e ts true s1')]
      exact ⟨hn, fun he => absurd he hwd⟩
  · have hl' : ¬ s1'.e = 0 := fun hb => hl ((nrm_live h1.1).2 hb)
    rw [if_neg hl'] at h2
    have hwd : ¬ (ofP locI ts s1).2.e = 0 := fun he => hl (h2.2 he).1
    have hn := h2.1
    dsimp only at hn
    rw [decide_eq_false hwd]
    simp only [Bool.false_and, Bool.false_eq_true, if_false]
    have e1 : markP ts [93] (ofP locI ts s1).2 = (ofP locI ts s1).2 := by unfold markP; rw [if_neg hwd]
    rw [e1]
    simp only [hl', false_and, if_false]
    exact ⟨hn, fun he => absurd he hwd⟩
end SX
end Go.Proofs.YthkedcneehdinaaGreatDoor

/- Words read as an x86 instruction, plain: the program's and the reference's answer alike. -/
set_option linter.unusedVariables false
set_option maxRecDepth 100000
namespace Go.Proofs.YthkedcneehdinaaGreatDoor
namespace SX
open Go Go.Proofs
def none_ (op : Int) : In := ⟨op, -1, -1, -1, 0, 0, 0, -1, 0, 0, false, false, false, 0, 0, 0, false⟩
def in0 : In := ⟨0, 0, 0, 0, 0, 0, 0, 0, 0, 0, false, false, false, 0, 0, 0, false⟩
/-- Ends a text with another one? -/
def sufB (s e : List UInt8) : Bool := decide (e.length ≤ s.length) && decide (s.drop (s.length - e.length) = e)
def cutS (s e : List UInt8) : List UInt8 := if sufB s e then s.take (s.length - e.length) else s
/-- The size that a name's end tells; what stands ahead of it. -/
def sizP (e0 e1 e2 e3 s : List UInt8) : List UInt8 × Int :=
  if sufB s e0 then (cutS s e0, 1) else if sufB s e1 then (cutS s e1, 2) else if sufB s e2 then (cutS s e2, 4) else if sufB s e3 then (cutS s e3, 8) else (s, 0)
def idx6 (s0 s1 s2 s3 s4 s5 v : List UInt8) : Int := if v = s0 then 0 else if v = s1 then 1 else if v = s2 then 2 else if v = s3 then 3 else if v = s4 then 4 else if v = s5 then 5 else -1
/-- What is read: an instruction, is it known, a label. -/
structure Rd where
  i : In
  known : Bool
  lb : List UInt8
/-! The reference's. -/
def aluR (n1 n2 n3 n4 n5 v : List UInt8) : Int := if v = n1 then 1 else if v = n2 then 2 else if v = n3 then 3 else if v = n4 then 4 else if v = n5 then 5 else 0
def szdF (t0 t1 t2 t3 nm hd : List UInt8) : Int :=
  if pre nm hd then (if nm.drop hd.length = t0 then 1 else if nm.drop hd.length = t1 then 2 else if nm.drop hd.length = t2 then 4 else if nm.drop hd.length = t3 then 8 else 0) else 0
def labR (ts : List Tk) (s : RS) : List UInt8 × RS := if s.e = 0 then (if (tkAt ts s.p).k = 1 then ((tkAt ts s.p).s, goF s) else ([], oddR ts false s)) else ([], s)
def brR (L : Lg) (ts : List Tk) (i : In) (z : Bool) (s : RS) : (In × List UInt8) × RS :=
  let r := regR L ts s
  let w := labR ts (markR ts [44] r.2)
  (({ i with op := 9, ze := z, a := r.1 }, w.1), w.2)
def blkI : In := none_ 0
/-! Names. -/
theorem suf1 {s : List UInt8} {c : UInt8} : sufB s [c] = true ↔ ∃ p, s = p ++ [c] := by
  unfold sufB
  simp only [List.length_singleton, Bool.and_eq_true, decide_eq_true_eq]
  constructor
  · rintro ⟨h1, h2⟩
    exact ⟨s.take (s.length - 1), by rw [← h2, List.take_append_drop]⟩
  · rintro ⟨p, rfl⟩
    simp
theorem cut1 {p : List UInt8} {c : UInt8} : cutS (p ++ [c]) [c] = p := by
  unfold cutS
  rw [if_pos (suf1.2 ⟨p, rfl⟩)]
  simp
theorem pre_iff {s h : List UInt8} : pre s h = true ↔ ∃ r, s = h ++ r := by
  unfold pre
  simp only [List.drop_zero, Bool.and_eq_true, decide_eq_true_eq]
  constructor
  · rintro ⟨h1, h2⟩
    exact ⟨s.drop h.length, by conv => lhs; rw [← List.take_append_drop h.length s, h2]⟩
  · rintro ⟨r, rfl⟩
    exact ⟨by simp; omega, by simp⟩
theorem alu_idx {n1 n2 n3 n4 n5 v : List UInt8} (h1 : n1 ≠ []) (h2 : n2 ≠ []) (h3 : n3 ≠ []) (h4 : n4 ≠ []) (h5 : n5 ≠ []) : (0 < idx6 [] n1 n2 n3 n4 n5 v ↔ 0 < aluR n1 n2 n3 n4 n5 v) ∧ (0 < aluR n1 n2 n3 n4 n5 v → idx6 [] n1 n2 n3 n4 n5 v = aluR n1 n2 n3 n4 n5 v) := by
  unfold idx6 aluR
  by_cases hv : v = []
  · subst hv
    rw [if_pos rfl, if_neg (Ne.symm h1), if_neg (Ne.symm h2), if_neg (Ne.symm h3), if_neg (Ne.symm h4), if_neg (Ne.symm h5)]
    exact ⟨Iff.rfl, fun _ => rfl⟩
  · rw [if_neg hv]
    repeat' split
    all_goals first | exact ⟨Iff.rfl, fun _ => rfl⟩ | exact ⟨by decide, fun h => absurd h (by decide)⟩
theorem lab_sim {ts : List Tk} {a b : RS} (h : nrm a = nrm b) : SmP a (wordP ts a) (labR ts b) := by
  by_cases ha : a.e = 0
  · obtain ⟨hb, hp⟩ := nrm_p h ha
    unfold wordP labR
    rw [if_pos ha, if_pos hb, ← hp]
    split
    · exact ⟨nrm_go h, fun _ => ⟨ha, rfl⟩⟩
    · exact ⟨by rw [miss_odd]; exact nrm_odd h, fun he => absurd he (miss_e ts a)⟩
  · have hb : ¬ b.e = 0 := fun hb => ha ((nrm_live h).2 hb)
    unfold wordP labR
    rw [if_neg ha, if_neg hb]
    exact ⟨h, fun he => absurd he ha⟩
/-- The words of a text. -/
structure WfA (ts : List Tk) : Prop where
  w : Wf ts
  k : ∀ p, (tkAt ts p).k = 0 ∨ (tkAt ts p).k = 1 ∨ (tkAt ts p).k = 2 ∨ (tkAt ts p).k = 3
  z : ∀ p, (tkAt ts p).k = 0 → (tkAt ts p).s = []
/-- What two readers come to is alike. -/
def Alike (a : RS) (x y : Rd × RS) : Prop := x.1.known = y.1.known ∧ nrm x.2 = nrm y.2 ∧ (x.1.known = true → x.2.e = 0 → x.1.i = y.1.i ∧ x.1.lb = y.1.lb)
theorem eit_split {L : Lg} {ts : List Tk} {s : RS} {α : Type} (f : Int × Int → α) : (if isImm L ts s then (f (-1, (immR L ts s).1), (immR L ts s).2) else (f ((regR L ts s).1, 0), (regR L ts s).2)) = (f (eitR L ts s).1, (eitR L ts s).2) := by
  unfold eitR
  split <;> rfl
theorem regR_nn {L : Lg} {ts : List Tk} {s : RS} (h : (regR L ts s).2.e = 0) : 0 ≤ (regR L ts s).1 := by
  unfold regR at h ⊢
  split
  · rename_i h0
    rw [if_pos h0] at h
    split
    · rename_i h1; exact h1.2
    · rename_i h1
      rw [if_neg h1] at h
      exact absurd h (odd_e ts true s)
  · rename_i h0
    rw [if_neg h0] at h
    exact absurd h h0
theorem mem_simz {L : Lg} (hL : L.ix [] < 0) {ts : List Tk} {i : In} {z : Int} {a b : RS} (h : nrm a = nrm b) : SmP a (memP L ts i z a) (memR L ts { i with sz := z } b) := mem_sim hL (ts := ts) (i := { i with sz := z }) (z := z) rfl h
theorem plusP_st (L : Lg) (ts : List Tk) (i j : In) (s : RS) : (plusP L ts i s).2 = (plusP L ts j s).2 := by
  unfold plusP ixP
  split
  · split <;> rfl
  · rfl
/-- The state behind a MEM does not hang on the instruction. -/
theorem memP_st (L : Lg) (ts : List Tk) (i j : In) (z : Int) (s : RS) : (memP L ts i z s).2 = (memP L ts j z s).2 := by
  unfold memP
  dsimp only
  split
  · rw [plusP_st L ts _ { j with loc := (ofP locI ts (markP ts [91] s)).1, sz := z }]
  · rfl
theorem eitR_a {L : Lg} {ts : List Tk} {s : RS} (h : (eitR L ts s).2.e = 0) : 0 ≤ (eitR L ts s).1.1 ↔ isImm L ts s = false := by
  unfold eitR at h ⊢
  cases hi : isImm L ts s with
  | true => simp
  | false =>
    rw [hi] at h
    simp only [Bool.false_eq_true, if_false, iff_true] at h ⊢
    exact regR_nn h
end SX
end Go.Proofs.YthkedcneehdinaaGreatDoor

/- An instruction parsed, plain: from the words to the answer; the program's and the reference's are alike. -/
set_option linter.unusedVariables false
set_option maxRecDepth 100000
namespace Go.Proofs.YthkedcneehdinaaGreatDoor
namespace SX
open Go Go.Proofs
/-- What is answered. -/
structure Pr where
  i : In
  lb : List UInt8
  e : Int
  q : Int
def rs0 : RS := ⟨0, 0, 0⟩
def outF (x : Rd) (s : RS) : Pr := if s.e = 0 then ⟨x.i, x.lb, 0, 0⟩ else ⟨in0, [], s.e, s.q⟩
def moreF (ts : List Tk) (s : RS) : RS := if s.p < ts.length then failF s 25 (whF ts s.p) else s
def endP (ts : List Tk) (first : Int) (x : Rd × RS) : Pr :=
  let s4 := moreF ts (if x.1.known then x.2 else failF x.2 21 first)
  outF x.1 (if rgtF x.1.i 0 1 = 34 then failF s4 34 first else s4)
def parseP (rd : List Tk → List UInt8 → RS → Rd × RS) (ts : List Tk) : Pr := endP ts (whF ts 0) (rd ts (wordP ts rs0).1 (wordP ts rs0).2)
def to1 (i : In) : In := if i.op = 9 then { i with to := 1 } else i
def endR (ts : List Tk) (first : Int) (x : Rd × RS) : Pr :=
  if x.1.known then
    let s3 := moreF ts x.2
    outF x.1 (if s3.e = 0 ∧ rgtF (to1 x.1.i) 0 1 ≠ 0 then failF s3 34 first else s3)
  else ⟨in0, [], 21, first⟩
def parseR (rd : List Tk → List UInt8 → RS → Rd × RS) (ts : List Tk) : Pr :=
  if (tkAt ts 0).k = 1 then endR ts (whF ts 0) (rd ts (tkAt ts 0).s (goF rs0))
  else ⟨in0, [], (oddR ts true rs0).e, (oddR ts true rs0).q⟩
theorem nrm_more {ts : List Tk} {a b : RS} (h : nrm a = nrm b) : nrm (moreF ts a) = nrm (moreF ts b) ∧ ((moreF ts a).e = 0 → a.e = 0) := by
  by_cases ha : a.e = 0
  · obtain ⟨hb, hp⟩ := nrm_p h ha
    refine ⟨?_, fun _ => ha⟩
    unfold moreF
    rw [← hp]
    split
    · exact nrm_fail h (fun _ => rfl) (fun _ => rfl)
    · exact h
  · have hb : ¬ b.e = 0 := fun hb => ha ((nrm_live h).2 hb)
    have e : ∀ s : RS, ¬ s.e = 0 → moreF ts s = s := fun s hs => by unfold moreF failF; simp only [if_neg hs, ite_self]
    rw [e a ha, e b hb]
    exact ⟨h, fun he => absurd he ha⟩
theorem nrm_q {a b : RS} (h : nrm a = nrm b) (ha : ¬ a.e = 0) : a.e = b.e ∧ a.q = b.q := by
  have hb : ¬ b.e = 0 := fun hb => ha ((nrm_live h).2 hb)
  unfold nrm at h
  rw [if_neg ha, if_neg hb] at h
  simpa using h
theorem out_alike {x y : Rd} {a b : RS} (h : nrm a = nrm b) (hxy : a.e = 0 → x.i = y.i ∧ x.lb = y.lb) : outF x a = outF y b := by
  unfold outF
  by_cases ha : a.e = 0
  · rw [if_pos ha, if_pos ((nrm_live h).1 ha), (hxy ha).1, (hxy ha).2]
  · have hb : ¬ b.e = 0 := fun hb => ha ((nrm_live h).2 hb)
    rw [if_neg ha, if_neg hb, (nrm_q h ha).1, (nrm_q h ha).2]
theorem fail_dead {s : RS} (h : ¬ s.e = 0) (e q : Int) : failF s e q = s := by unfold failF; rw [if_neg h]
theorem end_unk {ts : List Tk} {first : Int} {x : Rd × RS} (hk : x.1.known = false) : endP ts first x = ⟨in0, [], (failF x.2 21 first).e, (failF x.2 21 first).q⟩ := by
  have hd : ¬ (failF x.2 21 first).e = 0 := failF_e (by decide)
  unfold endP
  dsimp only
  rw [hk]
  simp only [Bool.false_eq_true, if_false]
  have e1 : moreF ts (failF x.2 21 first) = failF x.2 21 first := by unfold moreF; split; exact fail_dead hd _ _; rfl
  rw [e1]
  have e2 : (if rgtF x.1.i 0 1 = 34 then failF (failF x.2 21 first) 34 first else failF x.2 21 first) = failF x.2 21 first := by split; exact fail_dead hd _ _; rfl
  rw [e2]
  unfold outF
  rw [if_neg hd]
theorem rgt_to (i : In) : rgtF (to1 i) 0 1 ≠ 0 ↔ rgtF i 0 1 = 34 := by
  unfold to1
  by_cases h9 : i.op = 9
  · rw [if_pos h9]
    have hj : formP { i with to := 1 } = formP i := by
      obtain ⟨op, dst, a, b, imm, loc, off, ix, sz, fn, acq, wk, rel, pr, su, to, ze⟩ := i
      simp only at h9; subst h9
      show form9 _ = form9 _
      unfold form9 eqI
      simp
    unfold rgtF
    rw [hj]
    have ht : toX { i with to := 1 } 0 1 = false := by unfold toX; simp
    rw [ht]
    cases formP i
    · simp
    · simp only [if_true, Bool.false_eq_true, if_false]
      split <;> simp
  · rw [if_neg h9]
    unfold rgtF toX
    rw [decide_eq_false h9]
    cases formP i <;> simp
theorem parse_alike {rdP rdR : List Tk → List UInt8 → RS → Rd × RS} {ts : List Tk} (hnil : ∀ s, (rdP ts [] s).1.known = false) (hun : ∀ nm s, (rdP ts nm s).1.known = false → (rdP ts nm s).2 = s) (hrd : ∀ nm a b, nrm a = nrm b → a.e = 0 → Alike a (rdP ts nm a) (rdR ts nm b)) : parseP rdP ts = parseR rdR ts := by
  unfold parseP parseR
  by_cases hk : (tkAt ts 0).k = 1
  · rw [if_pos hk]
    have e1 : wordP ts rs0 = ((tkAt ts 0).s, goF rs0) := by unfold wordP; rw [if_pos (show rs0.e = 0 from rfl)]; exact if_pos hk
    rw [e1]
    dsimp only
    obtain ⟨h1, h2, h3⟩ := hrd (tkAt ts 0).s (goF rs0) (goF rs0) rfl rfl
    have h0 := hun (tkAt ts 0).s (goF rs0)
    generalize rdP ts (tkAt ts 0).s (goF rs0) = x at *
    generalize rdR ts (tkAt ts 0).s (goF rs0) = y at *
    cases hx : x.1.known with
    | false =>
      rw [end_unk hx]
      unfold endR
      rw [if_neg (by rw [← h1, hx]; decide)]
      have hl : x.2.e = 0 := by rw [h0 hx]; rfl
      unfold failF; rw [if_pos hl]
    | true =>
      unfold endP endR
      rw [← h1, hx]
      dsimp only
      simp only [if_true]
      have hm := nrm_more (ts := ts) h2
      by_cases hl : (moreF ts x.2).e = 0
      · have hl' := (nrm_live hm.1).1 hl
        obtain ⟨e3, e4⟩ := h3 hx (hm.2 hl)
        rw [e3]
        have hq : ((moreF ts y.2).e = 0 ∧ rgtF (to1 y.1.i) 0 1 ≠ 0) ↔ rgtF y.1.i 0 1 = 34 := by rw [← rgt_to]; exact ⟨fun h => h.2, fun h => ⟨hl', h⟩⟩
        by_cases hr : rgtF y.1.i 0 1 = 34
        · rw [if_pos hr, if_pos (hq.2 hr)]
          exact out_alike (nrm_fail hm.1 (fun _ => rfl) (fun _ => rfl)) fun _ => ⟨e3, e4⟩
        · rw [if_neg hr, if_neg (fun h => hr (hq.1 h))]
          exact out_alike hm.1 fun _ => ⟨e3, e4⟩
      · have hl' : ¬ (moreF ts y.2).e = 0 := fun h => hl ((nrm_live hm.1).2 h)
        have e5 : (if rgtF x.1.i 0 1 = 34 then failF (moreF ts x.2) 34 (whF ts 0) else moreF ts x.2) = moreF ts x.2 := by split; exact fail_dead hl _ _; rfl
        rw [e5, if_neg (fun h => hl' h.1)]
        exact out_alike hm.1 fun h => absurd h hl
  · rw [if_neg hk]
    have e1 : wordP ts rs0 = ([], missP ts rs0) := by unfold wordP; rw [if_pos (show rs0.e = 0 from rfl)]; exact if_neg hk
    rw [e1]
    dsimp only
    have h1 := hnil (missP ts rs0)
    have h2 := hun _ _ h1
    rw [end_unk h1, h2, fail_dead (miss_e ts rs0), miss_odd]
    have e2 : oddR ts true rs0 = oddR ts false rs0 := by
      unfold oddR
      rw [show rs0.p = 0 from rfl, decide_eq_false hk]; rfl
    rw [e2]
end SX
end Go.Proofs.YthkedcneehdinaaGreatDoor

/- Words read as a RISC-V instruction, plain: the program's and the reference's answer alike. -/
set_option linter.unusedVariables false
set_option maxRecDepth 100000
namespace Go.Proofs.YthkedcneehdinaaGreatDoor
namespace SX
open Go Go.Proofs
/-! The reference's. -/
/-! Names. -/
end SX
end Go.Proofs.YthkedcneehdinaaGreatDoor
