/- A part of SX: symbolic and concrete runs of the program, with contracts of functions; lemmas without further conditions. -/
import Derived.Lib.LaidTab
import Derived.Sort.Grow
import Derived.Deep.Draws
import Derived.Below
import Derived.Shelf.Strconv.Itoa3
import Derived.Lib.ItoaLen
import Derived.Lib.ConvBytes
import Derived.Test.YthkedcneehdinaaGreatDoorRows
import Derived.Shelf.Vars
import Derived.IntWalk
import Derived.Lib.Index
import Derived.Shelf.Strings.OnBuilder
import Derived.Shelf.Strings.Search3
import Derived.Shelf.Small.Strs
import Derived.Shelf.Pu.ToError
import Derived.Lib.IndexMore
import Derived.Lib.IndexBytes
import Derived.Test.YthkedcneehdinaaGreatDoorUF
set_option linter.unusedVariables false
set_option linter.unusedSimpArgs false
set_option linter.unusedSectionVars false
/- SX: append onto a row's first elements, so many as a number says. -/
set_option linter.unusedVariables false
set_option linter.unusedSimpArgs false
namespace Go.Proofs.YthkedcneehdinaaGreatDoor
namespace SX
open Go
section
variable {P : Program} {T : Tb} {ops : Array Oper} {o : Oper}
end
end SX
end Go.Proofs.YthkedcneehdinaaGreatDoor

/- SX: a contract of the kit's that lets the world grow, as one of SX. -/
set_option linter.unusedVariables false
set_option linter.unusedSimpArgs false
namespace Go.Proofs.YthkedcneehdinaaGreatDoor
namespace SX
open Go Go.Proofs Go.Sort
theorem Rel.tabs {E C m H w} (h : Rel E C m H w) : TabsIn w := h.mf.2.mono h.im
theorem tabIs_of {P : Program} {w : World} {n : String} {g : Nat} {k : IntKind} {zs : List Int} (hT : TabsIn w) (hg : P.globalNamed n = some g) (ht : SX.tabs g = some (.ints k zs)) : Lib.TabIs P w n k zs := by
  obtain ⟨t, fr, h⟩ := hT g _ ht
  have h : w.heap[g]? = some (.cells (zs.map (.int k)).toArray t fr) := h
  unfold Lib.TabIs World.var?
  rw [hg]
  simp only [Option.bind_some, h]
theorem Rel.grown {E C m w} (h : Rel E C m [] w) (k : Nat) (os : Array Obj) : Rel E C m [] (Sort.grow (w.drewN k) os) := by
  refine ⟨h.os, h.tape, ⟨h.output.1, h.output.2.trans (Nat.le_add_right _ _)⟩, fun b o hb => ?_, fun b o hb => ?_, h.mf, fun k B hB => by simp at hB, fun k v hv => (Vle_nil hv).elim, ?_, ?_⟩
  · have h1 := h.im b o hb
    show (w.heap ++ os)[b]? = some o
    rw [Array.getElem?_append_left (size_of_heap h1)]; exact h1
  · have h1 := h.fr b o hb
    show (w.heap ++ os)[b]? = some o
    rw [Array.getElem?_append_left (size_of_heap h1)]; exact h1
  · rintro k b ⟨B, hB, _⟩; simp at hB
  · rintro j k b ⟨B, hB, _⟩; simp at hB
/-- Below what was there the world is as it was. -/
theorem Rel.below {E C m H w w'} (hd : drKeep = false) (h : Rel E C m H w) (hb : Go.RowKit.Below w.heap.size w w') : Rel E C m H w' := by
  have hk : ∀ b o, w.heap[b]? = some o → w'.heap[b]? = some o := fun b o hbo => by rw [hb.block b (size_of_heap hbo)]; exact hbo
  refine ⟨hb.os.trans h.os, hb.tape.trans h.tape, ⟨hb.output.trans h.output.1, fun e => by rw [hd] at e; cases e⟩, fun b o hbo => hk b o (h.im b o hbo), fun b o hbo => hk b o (h.fr b o hbo), h.mf, fun k B hB => ?_, h.nn, h.sp, h.inj⟩
  refine (h.bl k B hB).mono (.refl ..) (fun _ _ => rfl) fun b hbk => ?_
  obtain ⟨o, ho⟩ := (h.bl k B hB).block hB b ⟨B, hB, hbk⟩
  rw [hk b o ho, ho]
theorem Ctr.of_below {P : Program} (hd : drKeep = false) {f : FuncId} {fn : Func} {c : Code} (hf : P.funcs[f]? = some fn) (hb : fn.body = some c) (hnm : (fn.name == "runtime.NumGoroutine") = false) {args : List SV} {H : List SB} {r : SV} (hok : ∀ m, Ok m (vers H) r) (hl : live r = true)
    (h : ∀ C E m w, Rel E C m H w → OkA m (vers H) args → Calls P f (denL E args).toArray w (fun e w' => e = .returned (den E r) ∧ Go.RowKit.Below w.heap.size w w')) : Ctr P f args H (fun r' h => r' = r ∧ h = H) := by
  refine ⟨fun C E m w hr ha => ?_⟩
  have hrun : (callFunc f (denL E args).toArray).run P w = .ok (.enter f (denL E args).toArray) w := by
    have h1 : fn.name ≠ "runtime.NumGoroutine" := by simpa using hnm
    simp [callFunc, hf, h1, hb]
  unfold callX
  rw [hrun]
  refine (h C E m w hr ha).mono ?_
  rintro e w' ⟨rfl, hw⟩
  exact ⟨_, rfl, r, H, E, m, rfl, ⟨rfl, rfl⟩, ⟨hok m, hl⟩, .refl .., hr.below hd hw⟩
theorem CtrV.of_grow {P : Program} {f : FuncId} {fn : Func} {c : Code} (hf : P.funcs[f]? = some fn) (hb : fn.body = some c) (hnm : (fn.name == "runtime.NumGoroutine") = false) {args : List SV} {r : SV} (hok : ∀ m, Ok m [] r) (hl : live r = true)
    (h : ∀ w, TabsIn w → ∀ E m, OkA m [] args → Calls P f (denL E args).toArray w (fun e w' => e = .returned (den E r) ∧ ∃ k os, w' = grow (w.drewN k) os)) : CtrV P f args r := by
  refine ⟨fun C E m w hr ha => ?_⟩
  have hrun : (callFunc f (denL E args).toArray).run P w = .ok (.enter f (denL E args).toArray) w := by
    have h1 : fn.name ≠ "runtime.NumGoroutine" := by simpa using hnm
    simp [callFunc, hf, h1, hb]
  unfold callX
  rw [hrun]
  refine (h w hr.tabs E m ha).mono ?_
  rintro e w' ⟨rfl, k, os, rfl⟩
  exact ⟨_, rfl, r, [], E, m, rfl, ⟨rfl, rfl⟩, ⟨hok m, hl⟩, .refl .., hr.grown k os⟩
end SX
end Go.Proofs.YthkedcneehdinaaGreatDoor

/- strconv.Itoa: its contract, and the reference's Digits. -/
set_option linter.unusedVariables false
set_option maxRecDepth 100000
namespace Go.Proofs.YthkedcneehdinaaGreatDoor
namespace SX
open Go Go.Proofs
theorem pow10_tab : tabs 5 = some (.ints .u64 Lib.pow10Tab) := by kernel_rfl
theorem itoa_ok (n : Int) (h0 : -9223372036854775808 ≤ n) (h1 : n ≤ 9223372036854775807) : CtrV Tryz.prog 76 [.i .i64 n] (.s (Lib.itoa n)) :=
  CtrV.of_grow (fn := Tryz.f76) Tryz.func76 rfl rfl (fun m => trivial) rfl fun w hT E m _ =>
    Any.strconv_Itoa Tryz.Itoa n h0 h1 w (tabIs_of hT (by kernel_rfl) pow10_tab)
end SX
end Go.Proofs.YthkedcneehdinaaGreatDoor

/- SX: []byte(string): a row that stays. -/
set_option linter.unusedVariables false
set_option linter.unusedSimpArgs false
namespace Go.Proofs.YthkedcneehdinaaGreatDoor
namespace SX
open Go
def byE (c : UInt8) : List SV := [.i .u8 (c.toNat : Int)]
section
variable {P : Program} {T : Tb} {ops : Array Oper} {o : Oper}
theorem OpC.bytes (hT : TabOk P T) {K : St → Prop} {t : List SV} {h : List SB} {src dst : TypeId} {x : Operand} (hop : o.op = .convert src dst x) (hg : guardOf ops t o = some []) {s : List UInt8} (hx : evG [] t x = .s s) {ts td te : TI} {e : TypeId}
    (h1 : T src = some ts) (h2 : ts.k = .str) (h3 : T dst = some td) (h4 : td.k = .slice e) (h5 : T e = some te) (h6 : te.k = .int .u8) (hK : ∀ ad cap, putK t h o.dst (.imm UInt8 0 1 byE s (some ad) cap) K) : OpC P T ops o K ⟨t, h⟩ := by
  refine ⟨fun C E m a w hr => ?_⟩
  have hwant : Region.wanted o (yielded ops a.tmps) = true := by simp [Region.wanted, guard_none hg]
  unfold opW
  rw [hwant, if_pos rfl]
  obtain ⟨g1, g2⟩ := (hr.evs .nil).live (o := x) (by rw [hx]; rfl)
  rw [hx] at g2
  have hxv : a.eval x = .string ⟨⟨s⟩⟩ := by rw [g2]; simp [den_v]
  have hs := (hT.ti src ts h1).str h2
  have hd := (hT.ti dst td h3).slice h4
  have he := TiOk.int_und (hT.ti e te h5) h6
  have hrun := Lib.run_convert_string_bytes w src dst e ⟨⟨s⟩⟩ hs hd he
  simp only [Oper.wp, execOp, hop, hxv, Sem.run_bind, hrun, Result.andThen_ok, Sem.run_pure, Oper.upon]
  have hfresh : ∀ b o', w.heap[b]? = some o' → b < w.heap.size := fun b o' hb => size_of_heap hb
  have hmn : m w.heap.size = none := by
    cases hm : m w.heap.size with
    | none => rfl
    | some o' => have := hfresh _ _ (hr.rel.im _ _ hm); omega
  have hFn : C.F w.heap.size = none := by
    cases hm : C.F w.heap.size with
    | none => rfl
    | some o' => have := hfresh _ _ (hr.rel.fr _ _ hm); omega
  have hm1 : ∀ b o', m b = some o' → (fun b => if b = w.heap.size then some (.cells (Lib.bytesCells w e ⟨⟨s⟩⟩) e ((Lib.bytesCells w e ⟨⟨s⟩⟩).size, (Lib.bytesCells w e ⟨⟨s⟩⟩).size + 1)) else m b) b = some o' := fun b o' hb => by
    have : b ≠ w.heap.size := fun e => by subst e; rw [hmn] at hb; cases hb
    simp only [if_neg this]; exact hb
  have hx' : Ext E m (vers h) E (fun b => if b = w.heap.size then some (.cells (Lib.bytesCells w e ⟨⟨s⟩⟩) e ((Lib.bytesCells w e ⟨⟨s⟩⟩).size, (Lib.bytesCells w e ⟨⟨s⟩⟩).size + 1)) else m b) (vers h) := ⟨hm1, fun _ _ h => h, fun _ _ _ => rfl⟩
  have hold : ∀ b o', w.heap[b]? = some o' → (Lib.bytesWorld w e ⟨⟨s⟩⟩).heap[b]? = some o' := fun b o' hb => by rw [Lib.bytesWorld_at_old _ _ _ _ (hfresh _ _ hb)]; exact hb
  have hos : (Lib.bytesWorld w e ⟨⟨s⟩⟩).os = w.os ∧ (Lib.bytesWorld w e ⟨⟨s⟩⟩).tape = w.tape ∧ (Lib.bytesWorld w e ⟨⟨s⟩⟩).output = w.output ∧ w.drawn ≤ (Lib.bytesWorld w e ⟨⟨s⟩⟩).drawn := by
    simp [Lib.bytesWorld, World.freeze, World.alloc, World.drew, -World.alloc_eq, -World.drew_eq]
  have hrel : Rel E C (fun b => if b = w.heap.size then some (.cells (Lib.bytesCells w e ⟨⟨s⟩⟩) e ((Lib.bytesCells w e ⟨⟨s⟩⟩).size, (Lib.bytesCells w e ⟨⟨s⟩⟩).size + 1)) else m b) h (Lib.bytesWorld w e ⟨⟨s⟩⟩) := by
    refine ⟨hos.1.trans hr.rel.os, hos.2.1.trans hr.rel.tape, ⟨hos.2.2.1.trans hr.rel.output.1, hr.rel.output.2.trans hos.2.2.2⟩, fun b o' hb => ?_, fun b o' hb => hold b o' (hr.rel.fr b o' hb), ⟨fun b o' hb => ?_, hr.rel.mf.2.mono hm1⟩, fun k B hB => ?_, hr.rel.nn, fun k b hb => ?_, hr.rel.inj⟩
    · by_cases hbs : b = w.heap.size
      · subst hbs; simp only [if_true] at hb; cases hb; exact Lib.bytesWorld_at_new w e ⟨⟨s⟩⟩
      · simp only [if_neg hbs] at hb; exact hold b o' (hr.rel.im b o' hb)
    · have : b ≠ w.heap.size := fun e => by subst e; rw [hFn] at hb; cases hb
      simp only [if_neg this]; exact hr.rel.mf.1 b o' hb
    · refine (hr.rel.bl k B hB).mono hx' (fun _ _ => rfl) fun b hb => ?_
      obtain ⟨o', ho'⟩ := (hr.rel.bl k B hB).block hB b ⟨B, hB, hb⟩
      rw [hold b o' ho', ho']
    · have := hr.rel.sp k b hb
      obtain ⟨B, hB, hb'⟩ := id hb
      obtain ⟨o', ho'⟩ := (hr.rel.bl k B hB).block hB b hb
      have hne : b ≠ w.heap.size := fun e => by have := hfresh _ _ ho'; omega
      simp only [if_neg hne]; exact this
  have hcap : s.length ≤ grownCap w (⟨⟨s⟩⟩ : ByteArray).size 0 e := by
    have := grownCap_ge w (⟨⟨s⟩⟩ : ByteArray).size 0 e
    exact this
  have hk := hK ⟨w.heap.size, 0, none⟩ (grownCap w (⟨⟨s⟩⟩ : ByteArray).size 0 e)
  rw [putK_eq] at hk
  refine ⟨E, _, _, hk, hx', ?_⟩
  refine (hr.up hx' hrel).putG (o := o) (p := []) .nil (x := .imm UInt8 0 1 byE s (some ⟨w.heap.size, 0, none⟩) (grownCap w (⟨⟨s⟩⟩ : ByteArray).size 0 e)) (v := .slice (some ⟨w.heap.size, 0, none⟩) s.length (grownCap w (⟨⟨s⟩⟩ : ByteArray).size 0 e)) (fun _ => .inr ⟨⟨?_, rfl⟩, by simp [den, wrapV, cells]⟩) (fun h => by cases h)
  simp only [Ok]
  refine ⟨hcap, fun hne => ⟨_, Lib.bytesCells w e ⟨⟨s⟩⟩, e, _, rfl, rfl, if_pos rfl, fun j hj u c hu => ?_⟩, fun _ => rfl, fun j hj => by simp [byE, OkL, Ok, isUnit]⟩
  have hu0 : u = 0 := by
    cases u with
    | zero => rfl
    | succ u => simp [byE, cellsL, cells] at hu
  subst hu0
  have hc : c = .int .u8 ((s.getD j 0).toNat : Int) := by simpa [byE, cellsL, cells] using hu.symm
  subst hc
  simp only [Nat.zero_add, Nat.mul_one, Nat.add_zero]
  unfold Lib.bytesCells
  rw [Array.getElem?_append_left (by simpa using hj)]
  simp [List.getD_eq_getElem?_getD, List.getElem?_eq_getElem hj, hj]
end
end SX
end Go.Proofs.YthkedcneehdinaaGreatDoor

/- SX: from what a row lists to the tables in the world. -/
set_option maxRecDepth 100000
namespace Go.Proofs.YthkedcneehdinaaGreatDoor
namespace SX
open Go Go.Proofs
theorem tabsIn_row {laid : List (String × DataW Unit)} {W : World} (h : laidMetH Tryz.prog laid W) (hf : (laid.filter fun x => x.2.handleName?.isSome) = []) (hsh : W.ShapedOpen Tryz.prog)
    {n6 n7 n5 n4 n3 n0 : String} (h6 : (n6, Rows.laid_math_bits_deBruijn32tab) ∈ laid) (h7 : (n7, Rows.laid_math_bits_deBruijn64tab) ∈ laid) (h5 : (n5, Rows.laid_internal_strconv_uint64pow10) ∈ laid) (h4 : (n4, Rows.laid_strconv_ErrRange) ∈ laid) (h3 : (n3, Rows.laid_strconv_ErrSyntax) ∈ laid) (h0 : (n0, Rows.laid_strings_asciiSpace) ∈ laid) (g6 : Tryz.prog.globalNamed n6 = some 6) (g7 : Tryz.prog.globalNamed n7 = some 7) (g5 : Tryz.prog.globalNamed n5 = some 5) (g4 : Tryz.prog.globalNamed n4 = some 4) (g3 : Tryz.prog.globalNamed n3 = some 3) (g0 : Tryz.prog.globalNamed n0 = some 0) : TabsIn W := by
  refine tabsIn_of hf h fun g v hg => ?_
  unfold tabs at hg
  cases c0 : Nat.beq g 6 with
  | true =>
    rw [c0] at hg
    cases hg
    obtain rfl := Nat.eq_of_beq_eq_true c0
    exact .inl ⟨_, 277, _, 5, h6, g6, by kernel_rfl, Tryz.underlying277, Tryz.underlying5, by kernel_rfl, by kernel_rfl⟩
  | false =>
  rw [c0] at hg
  simp only [cond_false] at hg
  cases c1 : Nat.beq g 7 with
  | true =>
    rw [c1] at hg
    cases hg
    obtain rfl := Nat.eq_of_beq_eq_true c1
    exact .inl ⟨_, 278, _, 5, h7, g7, by kernel_rfl, Tryz.underlying278, Tryz.underlying5, by kernel_rfl, by kernel_rfl⟩
  | false =>
  rw [c1] at hg
  simp only [cond_false] at hg
  cases c2 : Nat.beq g 5 with
  | true =>
    rw [c2] at hg
    cases hg
    obtain rfl := Nat.eq_of_beq_eq_true c2
    exact .inl ⟨_, 259, _, 125, h5, g5, by kernel_rfl, Tryz.underlying259, Tryz.underlying125, by kernel_rfl, by kernel_rfl⟩
  | false =>
  rw [c2] at hg
  simp only [cond_false] at hg
  cases c3 : Nat.beq g 4 with
  | true =>
    rw [c3] at hg
    cases hg
    obtain rfl := Nat.eq_of_beq_eq_true c3
    exact .inl ⟨_, 127, _, _, _, h4, g4, by kernel_rfl, Tryz.underlying127⟩
  | false =>
  rw [c3] at hg
  simp only [cond_false] at hg
  cases c4 : Nat.beq g 3 with
  | true =>
    rw [c4] at hg
    cases hg
    obtain rfl := Nat.eq_of_beq_eq_true c4
    exact .inl ⟨_, 127, _, _, _, h3, g3, by kernel_rfl, Tryz.underlying127⟩
  | false =>
  rw [c4] at hg
  simp only [cond_false] at hg
  cases c5 : Nat.beq g 0 with
  | true =>
    rw [c5] at hg
    cases hg
    obtain rfl := Nat.eq_of_beq_eq_true c5
    exact .inl ⟨_, 163, _, 5, h0, g0, by kernel_rfl, Tryz.underlying163, Tryz.underlying5, by kernel_rfl, by kernel_rfl⟩
  | false =>
  rw [c5] at hg
  simp only [cond_false] at hg
  cases c6 : Nat.beq g 1 with
  | true =>
    rw [c6] at hg
    cases hg
    obtain rfl := Nat.eq_of_beq_eq_true c6
    exact .inr (anyI_at (cell_of_shapedOpen_int (zero := #[.int .i64 0]) (t := 3) hsh (of_decide_eq_true (by kernel_rfl)) (by kernel_rfl) rfl (by kernel_rfl) (by kernel_rfl) Tryz.underlying3))
  | false =>
  rw [c6] at hg
  simp only [cond_false] at hg
  cases hg
end SX
end Go.Proofs.YthkedcneehdinaaGreatDoor

/- Words of a text, plain. -/
set_option linter.unusedVariables false
namespace Go.Proofs.YthkedcneehdinaaGreatDoor
namespace SX
open Go Go.Proofs
def letB (n : Int) : Bool := (decide (97 ≤ n) && decide (n ≤ 122)) || (decide (65 ≤ n) && decide (n ≤ 90))
def digB (n : Int) : Bool := decide (48 ≤ n) && decide (n ≤ 57)
def numB (n : Int) : Bool := letB n || digB n
def namB (n : Int) : Bool := ((letB n || digB n) || decide (n = 95)) || decide (n = 46)
def cd (s : List UInt8) (k : Nat) : Int := ((s.getD k 0).toNat : Int)
/-- How many of the first bytes are of a kind. -/
def rowF (p : Int → Bool) : List UInt8 → Nat
  | [] => 0
  | c :: r => if p (c.toNat : Int) then rowF p r + 1 else 0
theorem rowF_le (p : Int → Bool) : ∀ s : List UInt8, rowF p s ≤ s.length
  | [] => Nat.le_refl _
  | c :: r => by
    have := rowF_le p r
    simp only [rowF, List.length_cons]
    split <;> omega
theorem rowF_at (p : Int → Bool) : ∀ (k : Nat) (s : List UInt8), k ≤ s.length → (∀ j, j < k → p (cd s j) = true) → (k = s.length ∨ p (cd s k) = false) → rowF p s = k
  | 0, [], _, _, _ => rfl
  | 0, c :: r, _, _, h => by
    rcases h with h | h
    · simp at h
    · have h : p (c.toNat : Int) = false := h
      simp only [rowF, h]; rfl
  | k + 1, [], h, _, _ => by simp at h
  | k + 1, c :: r, h1, h2, h3 => by
    have h0 : p (c.toNat : Int) = true := h2 0 (by omega)
    simp only [rowF, h0, if_true]
    congr 1
    refine rowF_at p k r (by simpa using h1) (fun j hj => h2 (j + 1) (by omega)) ?_
    rcases h3 with h3 | h3
    · left; simpa using h3
    · right; exact h3
theorem rowF_all (p : Int → Bool) : ∀ (s : List UInt8), ∀ c ∈ s.take (rowF p s), p (c.toNat : Int) = true
  | [], c, h => by simp at h
  | x :: r, c, h => by
    simp only [rowF] at h
    split at h
    · rename_i hx
      rw [List.take_succ_cons] at h
      rcases List.mem_cons.1 h with rfl | h
      · exact hx
      · exact rowF_all p r c h
    · simp at h
theorem rowF_pos {p : Int → Bool} {s : List UInt8} (h : s ≠ []) (h0 : p (cd s 0) = true) : 0 < rowF p s := by
  match s, h with
  | c :: r, _ =>
    have h0 : p (c.toNat : Int) = true := h0
    simp only [rowF, h0, if_true]; omega
/-- Begins a text with another one? -/
def pre (s p : List UInt8) : Bool := decide ((p.length : Int) ≤ s.length) && decide ((s.take p.length).drop 0 = p)
/-- A word. -/
structure Tk where
  k : Int
  s : List UInt8
  n : Int
  a : Int
  deriving DecidableEq
def tk0 : Tk := ⟨0, [], 0, 0⟩
def tkenc (t : Tk) : List SV := [.i .i64 t.k, .s t.s, .i .i64 t.n, .i .i64 t.a]
/-- A digit's value. -/
def digV (c : Nat) : Nat := if 48 ≤ c ∧ c ≤ 57 then c - 48 else if 97 ≤ c ∧ c ≤ 122 then c - 87 else if 65 ≤ c ∧ c ≤ 90 then c - 55 else 99
/-- The value of digits of a base; none: one is no digit of it. -/
def valB (b : Nat) : List UInt8 → Nat → Option Nat
  | [], n => some n
  | c :: r, n => if digV c.toNat < b then valB b r (n * b + digV c.toNat) else none
def hexB (w : List UInt8) : Bool := pre w [48, 120]
def numDs (w : List UInt8) : List UInt8 := if hexB w then w.drop 2 else w
def numBase (w : List UInt8) : Nat := if hexB w then 16 else 10
def numMost (w : List UInt8) : Nat := if hexB w then 16 else 19
/-- The value of a number's text. -/
def numF (w : List UInt8) : Option Nat :=
  if numMost w < (numDs w).length then none else if numDs w = [] then none else
    match valB (numBase w) (numDs w) 0 with
    | none => none
    | some n => if n ≤ 9223372036854775808 then some n else none
def marksL : List UInt8 := [123, 125, 40, 41, 91, 93, 59, 124, 44, 58, 61, 43, 45, 35, 36, 126, 42, 47, 92, 38, 63, 94]
inductive Sp where
  | skip (n : Nat)
  | tok (t : Tk)
  | err (e : Int)
/-- What stands at the beginning of a text. -/
def stepF (s : List UInt8) (at' : Nat) : Sp :=
  if decide (cd s 0 = 32) || decide (cd s 0 = 9) || decide (cd s 0 = 10) then .skip 1
  else if pre s [40, 42] then (if Lib.index (s.drop 2) [42, 41] < 0 then .err 24 else .skip ((Lib.index (s.drop 2) [42, 41]).toNat + 4))
  else if digB (cd s 0) then (match numF (s.take (rowF numB s)) with
    | none => .err 23
    | some n => .tok ⟨2, s.take (rowF numB s), IntKind.i64.wrap n, at'⟩)
  else if letB (cd s 0) || decide (cd s 0 = 95) then .tok ⟨1, s.take (rowF namB s), 0, at'⟩
  else if pre s [47, 92] || pre s [92, 47] then .tok ⟨3, s.take 2, 0, at'⟩
  else if s.getD 0 0 ∈ marksL then .tok ⟨3, s.take 1, 0, at'⟩
  else .err 20
/-- The words from a place on, so many behind what stands there. -/
def tokC (s : List UInt8) : Nat → Nat → List Tk → List Tk × Int × Int
  | 0, _, out => (out, 0, 0)
  | f + 1, at', out => if s.length ≤ at' then (out, 0, 0) else
    match stepF (s.drop at') at' with
    | .skip n => tokC s f (at' + n) out
    | .tok t => tokC s f (at' + t.s.length) (out ++ [t])
    | .err e => ([], e, at')
def tokF (s : List UInt8) : List Tk × Int × Int := if 8192 < s.length then ([], 2, 0) else tokC s (s.length + 1) 0 []
theorem tokC_end {s : List UInt8} {f at' : Nat} {out : List Tk} (h : s.length ≤ at') : tokC s f at' out = (out, 0, 0) := by
  cases f with
  | zero => rfl
  | succ f => simp only [tokC, if_pos h]
theorem tokC_step {s : List UInt8} {f at' : Nat} {out : List Tk} (h : at' < s.length) (hf : s.length < at' + f) :
    ∃ f', f = f' + 1 ∧ tokC s f at' out = (match stepF (s.drop at') at' with
    | .skip n => tokC s f' (at' + n) out
    | .tok t => tokC s f' (at' + t.s.length) (out ++ [t])
    | .err e => ([], e, at')) := by
  cases f with
  | zero => omega
  | succ f => exact ⟨f, rfl, by simp only [tokC, if_neg (Nat.not_le.2 h)]⟩
end SX
end Go.Proofs.YthkedcneehdinaaGreatDoor

/- Words of a text: the program's small functions. -/
set_option linter.unusedVariables false
set_option maxRecDepth 100000
namespace Go.Proofs.YthkedcneehdinaaGreatDoor
namespace SX
open Go Go.Proofs
theorem w64 {x : Int} (h1 : -9223372036854775808 ≤ x) (h2 : x ≤ 9223372036854775807) : IntKind.i64.wrap x = x := IntWalk.i64_in x ⟨h1, h2⟩
theorem b_cg {x y : Bool} (h : x = y) : SV.b x = SV.b y := congrArg SV.b h
theorem i_cg {x y : Int} (h : x = y) : SV.i .i64 x = SV.i .i64 y := congrArg (SV.i .i64) h
theorem s_cg {x y : List UInt8} (h : x = y) : SV.s x = SV.s y := congrArg SV.s h
theorem digit_ok (n : Int) : CtrV Tryz.prog 41 [.i .u8 n] (.b (digB n)) := by
  refine Ctr.enterV tabOkF (fn := Tryz.f41) rfl rfl rfl rfl rfl rfl ?_
  exact rfl
theorem letter_ok (n : Int) : CtrV Tryz.prog 44 [.i .u8 n] (.b (letB n)) := by
  refine Ctr.enterV tabOkF (fn := Tryz.f44) rfl rfl rfl rfl rfl rfl ?_
  exact rfl
theorem isnum_ok (n : Int) : CtrV Tryz.prog 43 [.i .u8 n] (.b (numB n)) := by
  refine Ctr.enterV tabOkF (fn := Tryz.f43) rfl rfl rfl rfl rfl rfl ?_
  refine OpC.callV rfl rfl rfl rfl rfl rfl rfl (fun _ => letter_ok n) ?_
  refine OpC.callV rfl rfl rfl rfl rfl rfl rfl (fun _ => digit_ok n) ?_
  exact rfl
theorem isnam_ok (n : Int) : CtrV Tryz.prog 46 [.i .u8 n] (.b (namB n)) := by
  refine Ctr.enterV tabOkF (fn := Tryz.f46) rfl rfl rfl rfl rfl rfl ?_
  refine OpC.callV rfl rfl rfl rfl rfl rfl rfl (fun _ => letter_ok n) ?_
  refine OpC.callV rfl rfl rfl rfl rfl rfl rfl (fun _ => digit_ok n) ?_
  exact rfl
theorem row_ok (f : Nat) (p : Int → Bool) (hf : ∀ n, CtrV Tryz.prog f [.i .u8 n] (.b (p n))) (s : List UInt8) (hs : s.length ≤ 100000) : CtrV Tryz.prog 42 [.s s, .fn f []] (.i .i64 (rowF p s)) := by
  refine Ctr.enterV tabOkF (fn := Tryz.f42) rfl rfl rfl rfl rfl rfl ?_
  refine WpC.loop tabOkF (β := Nat) (fun k => k ≤ s.length ∧ ∀ j, j < k → p (cd s j) = true) (fun k => [(5, .i .i64 k)]) (fun _ => []) (fun k => s.length - k) 0 524256 ⟨Nat.zero_le _, fun j hj => by omega⟩ ?_ ?_
  · exact ⟨rfl, ⟨⟨rfl, rfl, rfl⟩, trivial⟩, ⟨[], rfl⟩, trivial, rfl⟩
  · rintro k ⟨hk, ho⟩
    refine ⟨fun hg => ?_, ?_⟩
    · have hg : (decide ((k : Int) < s.length) == true) = true := hg
      have hg : k < s.length := by simpa using hg
      exact ⟨by omega, by omega⟩
    refine OpC.callV rfl rfl rfl rfl rfl rfl rfl (fun _ => hf (cd s k)) ?_
    refine ⟨fun h2 => ?_, fun h2 => ?_⟩
    · have h2 : (decide ((k : Int) < s.length) && p (cd s k)) = true := h2
      simp only [Bool.and_eq_true, decide_eq_true_eq] at h2
      refine ⟨k + 1, ⟨by omega, fun j hj => ?_⟩, by omega, rfl, ⟨⟨?_, rfl, rfl⟩, trivial⟩, ⟨[], rfl⟩, trivial, rfl⟩
      · rcases Nat.lt_succ_iff_lt_or_eq.1 hj with hj | rfl
        · exact ho j hj
        · exact h2.2
      · show SV.i .i64 (IntKind.i64.wrap ((k : Int) + 1)) = SV.i .i64 ((k + 1 : Nat) : Int)
        rw [w64 (by omega) (by omega)]; rfl
    · have h2 : (decide ((k : Int) < s.length) && p (cd s k)) = false := h2
      refine i_cg ?_
      rw [rowF_at p k s hk ho]
      by_cases h3 : k = s.length
      · exact .inl h3
      · have h4 : decide ((k : Int) < s.length) = true := by simp; omega
        rw [h4] at h2
        exact .inr h2
theorem pre_ok (s p : List UInt8) : CtrV Tryz.prog 84 [.s s, .s p] (.b (pre s p)) := by
  refine Ctr.enterV tabOkF (fn := Tryz.f84) rfl rfl rfl rfl rfl rfl ?_
  refine ⟨fun hg => ?_, rfl⟩
  have hg : (decide ((p.length : Int) ≤ s.length) == true) = true := hg
  have hg : p.length ≤ s.length := by simpa using hg
  exact ⟨by omega, by omega⟩
theorem hasPrefix_ok (s p : List UInt8) : CtrV Tryz.prog 39 [.s s, .s p] (.b (pre s p)) := by
  refine Ctr.enterV tabOkF (fn := Tryz.f39) rfl rfl rfl rfl rfl rfl ?_
  refine OpC.callV rfl rfl rfl rfl rfl rfl rfl (fun _ => pre_ok s p) ?_
  exact rfl
theorem pre_len {s p : List UInt8} (h : pre s p = true) : p.length ≤ s.length := by
  unfold pre at h; simp only [Bool.and_eq_true, decide_eq_true_eq] at h; omega
def cutP (s p : List UInt8) : List UInt8 := if pre s p then (s.take s.length).drop p.length else s
theorem cutPre_ok (s p : List UInt8) : CtrV Tryz.prog 150 [.s s, .s p] (.tup [.s (cutP s p), .b (pre s p)]) := by
  refine Ctr.enterV tabOkF (fn := Tryz.f150) rfl rfl rfl rfl rfl rfl ?_
  refine OpC.callV rfl rfl rfl rfl rfl rfl rfl (fun _ => pre_ok s p) ?_
  refine ⟨fun h => ?_, fun h => ?_⟩
  · have h : (!pre s p) = true := h
    have h : pre s p = false := by simpa using h
    show _ = SV.tup [.s (cutP s p), .b (pre s p)]
    unfold cutP
    rw [h]; rfl
  · have h : (!pre s p) = false := h
    have h : pre s p = true := by simpa using h
    refine ⟨fun _ => ?_, ?_⟩
    · have := pre_len h
      exact ⟨by omega, by omega⟩
    · show _ = SV.tup [.s (cutP s p), .b (pre s p)]
      unfold cutP
      rw [h]; rfl
theorem cutPrefix_ok (s p : List UInt8) : CtrV Tryz.prog 86 [.s s, .s p] (.tup [.s (cutP s p), .b (pre s p)]) := by
  refine Ctr.enterV tabOkF (fn := Tryz.f86) rfl rfl rfl rfl rfl rfl ?_
  refine OpC.callV rfl rfl rfl rfl rfl rfl rfl (fun _ => cutPre_ok s p) ?_
  exact rfl
end SX
end Go.Proofs.YthkedcneehdinaaGreatDoor

/- Instructions: what they are; small functions. -/
set_option linter.unusedVariables false
set_option maxRecDepth 100000
namespace Go.Proofs.YthkedcneehdinaaGreatDoor
namespace SX
open Go Go.Proofs
structure In where
  op : Int
  dst : Int
  a : Int
  b : Int
  imm : Int
  loc : Int
  off : Int
  ix : Int
  sz : Int
  fn : Int
  acq : Bool
  wk : Bool
  rel : Bool
  pr : Int
  su : Int
  to : Int
  ze : Bool
  deriving DecidableEq
def ienc (i : In) : List SV := [.i .i64 i.op, .i .i64 i.dst, .i .i64 i.a, .i .i64 i.b, .i .i64 i.imm, .i .i64 i.loc, .i .i64 i.off, .i .i64 i.ix, .i .i64 i.sz, .i .i64 i.fn, .b i.acq, .b i.wk, .b i.rel, .i .i64 i.pr, .i .i64 i.su, .i .i64 i.to, .b i.ze]
def rgB (r : Int) : Bool := decide (0 ≤ r) && decide (r < 8)
def szB (n : Int) : Bool := ((decide (n = 1) || decide (n = 2)) || decide (n = 4)) || decide (n = 8)
/-- Is there no access so? -/
def mskX (off n : Int) : Bool := ((!szB n || decide (off < 0)) || decide (IntKind.i64.wrap (8 - n) < off)) || !decide (off.tmod n = 0)
def mskV (off n : Int) : Int := (2 ^ n.toNat - 1) * 2 ^ off.toNat
def mskF (off n : Int) : Int := if mskX off n then 0 else mskV off n
theorem register_ok (n : Int) : CtrV Tryz.prog 200 [.i .i64 n] (.b (rgB n)) := by
  refine Ctr.enterV tabOkF (fn := Tryz.f200) rfl rfl rfl rfl rfl rfl ?_
  exact rfl
theorem sized_ok (n : Int) : CtrV Tryz.prog 254 [.i .i64 n] (.b (szB n)) := by
  refine Ctr.enterV tabOkF (fn := Tryz.f254) rfl rfl rfl rfl rfl rfl ?_
  exact rfl
def fnB (n : Int) : Bool := decide (1 ≤ n) && decide (n ≤ 3)
theorem msk_cases {off n : Int} (h : mskX off n = false) : (n = 1 ∧ (off = 0 ∨ off = 1 ∨ off = 2 ∨ off = 3 ∨ off = 4 ∨ off = 5 ∨ off = 6 ∨ off = 7)) ∨ (n = 2 ∧ (off = 0 ∨ off = 2 ∨ off = 4 ∨ off = 6)) ∨ (n = 4 ∧ (off = 0 ∨ off = 4)) ∨ (n = 8 ∧ off = 0) := by
  unfold mskX szB at h
  simp only [Bool.or_eq_false_iff, Bool.not_eq_false', Bool.or_eq_true, decide_eq_true_eq, decide_eq_false_iff_not, Int.not_lt] at h
  obtain ⟨⟨⟨h1, h2⟩, h3⟩, h4⟩ := h
  rcases h1 with ((rfl | rfl) | rfl) | rfl
  · have h3 : off ≤ 7 := h3
    left; exact ⟨rfl, by omega⟩
  · have h3 : off ≤ 6 := h3
    right; left
    refine ⟨rfl, ?_⟩
    rcases (by omega : off = 0 ∨ off = 1 ∨ off = 2 ∨ off = 3 ∨ off = 4 ∨ off = 5 ∨ off = 6) with rfl | rfl | rfl | rfl | rfl | rfl | rfl <;> first | (simp; done) | exact absurd h4 (by decide)
  · have h3 : off ≤ 4 := h3
    right; right; left
    refine ⟨rfl, ?_⟩
    rcases (by omega : off = 0 ∨ off = 1 ∨ off = 2 ∨ off = 3 ∨ off = 4) with rfl | rfl | rfl | rfl | rfl <;> first | (simp; done) | exact absurd h4 (by decide)
  · have h3 : off ≤ 0 := h3
    right; right; right
    exact ⟨rfl, by omega⟩
theorem call_of {f : Nat} {args : List SV} {r : SV} (h : (Memo.mk f args [] r []).runs (runM treeF ftree [] 40) = true) : CtrV Tryz.prog f args r :=
  memo_of (tr := treeF) (ft := ftree) (ms := []) (n := 40) (m := Memo.mk f args [] r []) tabOkF ftOk mixed (by intro m hm; cases hm) h
theorem msk_ne {off n : Int} (h : mskX off n = true) {x y z : Bool} (hx : ((!szB n || decide (off < 0)) || decide (IntKind.i64.wrap (8 - n) < off)) = false) : n ≠ 0 := by
  intro e
  subst e
  simp [szB] at hx
theorem mask_no {off n : Int} (h : mskX off n = true) : CtrV Tryz.prog 232 [.i .i64 off, .i .i64 n] (.i .i64 0) := by
  refine Ctr.enterV tabOkF (fn := Tryz.f232) rfl rfl rfl rfl rfl rfl ?_
  refine OpC.callV rfl rfl rfl rfl rfl rfl rfl (fun _ => sized_ok n) ?_
  refine ⟨fun hg => ?_, ⟨fun _ => rfl, fun h2 => ?_⟩⟩
  · have hg : ((((!szB n || decide (off < 0)) || decide (IntKind.i64.wrap (8 - n) < off)) == false)) = true := hg
    exact msk_ne (x := true) (y := true) (z := true) h (by simpa using hg)
  · have h2 : mskX off n = false := h2
    rw [h] at h2; cases h2
theorem mask_ok (off n : Int) : CtrV Tryz.prog 232 [.i .i64 off, .i .i64 n] (.i .i64 (mskF off n)) := by
  unfold mskF
  cases h : mskX off n with
  | true => exact mask_no h
  | false =>
    rcases msk_cases h with ⟨rfl, rfl | rfl | rfl | rfl | rfl | rfl | rfl | rfl⟩ | ⟨rfl, rfl | rfl | rfl | rfl⟩ | ⟨rfl, rfl | rfl⟩ | ⟨rfl, rfl⟩
    all_goals exact call_of (by decide +kernel)
theorem msk_nz (off n : Int) : (!decide (mskF off n = 0)) = !mskX off n := by
  unfold mskF
  cases h : mskX off n with
  | true => rfl
  | false =>
    rcases msk_cases h with ⟨rfl, rfl | rfl | rfl | rfl | rfl | rfl | rfl | rfl⟩ | ⟨rfl, rfl | rfl | rfl | rfl⟩ | ⟨rfl, rfl | rfl⟩ | ⟨rfl, rfl⟩ <;> rfl
def ixB (x : Int) : Bool := decide (x = -1) || rgB x
def accB (i : In) : Bool := ((decide (0 ≤ i.loc) && decide (i.loc < 3)) && !mskX i.off i.sz) && ixB i.ix
theorem access_ok (i : In) : CtrV Tryz.prog 201 [.agg (ienc i)] (.b (accB i)) := by
  refine Ctr.enterV tabOkF (fn := Tryz.f201) rfl rfl rfl rfl rfl rfl ?_
  refine OpC.callV rfl rfl rfl rfl rfl rfl rfl (fun _ => mask_ok i.off i.sz) ?_
  refine OpC.callV rfl rfl rfl rfl rfl rfl rfl (fun _ => register_ok i.ix) ?_
  refine b_cg ?_
  show (((decide (0 ≤ i.loc) && decide (i.loc < 3)) && !decide (mskF i.off i.sz = 0)) && (decide (i.ix = -1) || rgB i.ix)) = accB i
  rw [msk_nz]; rfl
theorem reads_ok (i : In) : CtrV Tryz.prog 203 [.agg (ienc i)] (.b (decide (i.op = 4) || decide (i.op = 6))) := by
  refine Ctr.enterV tabOkF (fn := Tryz.f203) rfl rfl rfl rfl rfl rfl ?_
  exact rfl
theorem writes_ok (i : In) : CtrV Tryz.prog 204 [.agg (ienc i)] (.b (decide (i.op = 5) || decide (i.op = 6))) := by
  refine Ctr.enterV tabOkF (fn := Tryz.f204) rfl rfl rfl rfl rfl rfl ?_
  exact rfl
end SX
end Go.Proofs.YthkedcneehdinaaGreatDoor

/- Conditions as text, plain: trees, their texts, and the rows of both. -/
set_option linter.unusedVariables false
namespace Go.Proofs.YthkedcneehdinaaGreatDoor
namespace SX
open Go Go.Proofs
def in64 (x : Int) : Prop := -9223372036854775808 ≤ x ∧ x ≤ 9223372036854775807
theorem itoa_len {n : Int} (h : in64 n) : (Lib.itoa n).length ≤ 21 := Lib.itoa_length_le n h.1 h.2
end SX
end Go.Proofs.YthkedcneehdinaaGreatDoor

/- Texts of instructions: lines of operands. -/
set_option linter.unusedVariables false
set_option maxRecDepth 100000
namespace Go.Proofs.YthkedcneehdinaaGreatDoor
open Go.Shelf in
theorem Tryz.joinX : Builder.Extra Tryz.prog Tryz.TJoin_ren := ⟨⟨by kernel_rfl, by kernel_rfl⟩, Tryz.underlying5, Tryz.isAgg5, Tryz.sizeOf5, Tryz.zeroValue5, by kernel_rfl, by kernel_rfl, by kernel_rfl, by decide⟩
namespace SX
open Go Go.Proofs
theorem drNo : drKeep = false := rfl
/-- A register's name, of eight. -/
def nmF (ns : List (List UInt8)) (n : Int) : List UInt8 := if 0 ≤ n ∧ n < 8 then ns.getD n.toNat [] else []
def strB (xs : List (List UInt8)) : SB := .mem 9 (xs.map .s) 1 0
theorem cells_s (E : Env) : ∀ xs : List (List UInt8), cellsL E (xs.map .s) = xs.map fun x => Value.string ⟨⟨x⟩⟩
  | [] => rfl
  | x :: r => by simp [cellsL, cells, cells_s E r]
theorem bndL_s {M : Nat} : ∀ xs : List (List UInt8), BndL M (xs.map .s)
  | [] => trivial
  | x :: r => ⟨rfl, bndL_s r⟩
theorem join_ok (xs : List (List UInt8)) (n : Nat) (hn : xs.length = n) (hn2 : n ≤ 1000) (sep : List UInt8) (hl : (Lib.join xs sep).length ≤ 140737488355328) :
    Ctr Tryz.prog 199 [.sl 0 1 0 n (some n) 0, .s sep] [strB xs] (fun r h => r = .s (Lib.join xs sep) ∧ h = [strB xs]) :=
  Ctr.of_below drNo (fn := Tryz.f199) Tryz.func199 rfl rfl (fun m => trivial) rfl fun C E m w hr ha => by
    obtain ⟨_, b, c, e1, e2, _⟩ := hr.bl 0 _ rfl
    have hbs : b < w.heap.size := size_of_heap e2
    have hargs : (denL E [.sl 0 1 0 n (some n) 0, .s sep]).toArray = #[.slice (some ⟨b, 0, none⟩) (xs.map fun x => (⟨⟨x⟩⟩ : ByteArray)).length n, .string ⟨⟨sep⟩⟩] := by
      simp [denL, wrapV, cells, e1, hn]
    have hmm : (xs.map fun x => (⟨⟨x⟩⟩ : ByteArray)).map (·.data.toList) = xs := by simp [Function.comp_def]
    rw [hargs]
    have := Any.strings_Join Tryz.TJoin Tryz.joinX b 0 n (xs.map fun x => (⟨⟨x⟩⟩ : ByteArray)) ⟨⟨sep⟩⟩ w (fun j x hx => by
      rw [cell_of_heap e2, Nat.zero_add, cells_s]
      simp only [List.getElem?_map, Option.map_eq_some_iff] at hx ⊢
      obtain ⟨y, hy, rfl⟩ := hx
      exact ⟨y, hy, rfl⟩) hbs (by simp; omega) (by simp; omega) (by rw [hmm]; exact hl)
    rw [hmm] at this
    exact this
/-- A line: a name, its operands. -/
def lineF (name : List UInt8) (xs : List (List UInt8)) : List UInt8 := (name ++ [32]) ++ Lib.join xs [44]
theorem line_ok (name : List UInt8) (xs : List (List UInt8)) (n : Nat) (hn : xs.length = n) (h0 : 0 < n) (hn2 : n ≤ 1000) (hl : (Lib.join xs [44]).length ≤ 100000) (hnm : name.length ≤ 100000) :
    Ctr Tryz.prog 143 [.s name, .sl 0 1 0 n (some n) 0] [strB xs] (fun r h => r = .s (lineF name xs) ∧ h = [strB xs]) := by
  refine Ctr.enterG tabOkF (fn := Tryz.f143) rfl rfl rfl rfl rfl rfl ⟨bndL_s xs, trivial⟩ ?_
  refine ⟨fun h => ?_, fun _ => ?_⟩
  · have h : decide ((n : Int) = 0) = true := h
    have := of_decide_eq_true h
    omega
  refine ⟨fun _ => ?_, ?_⟩
  · show name.length + 1 ≤ 9223372036854775807
    omega
  refine OpC.callG rfl rfl rfl rfl rfl rfl (fun _ => join_ok xs n hn hn2 [44] (by omega)) ?_
  refine ⟨fun _ => ?_, ⟨rfl, _, rfl⟩⟩
  show (name ++ [32]).length + (Lib.join xs [44]).length ≤ 9223372036854775807
  simp; omega
/-- The end that tells a size. -/
def endF (z : Int) (e0 e1 e2 e3 : List UInt8) : List UInt8 := if z = 1 then e0 else if z = 2 then e1 else if z = 4 then e2 else if z = 8 then e3 else []
theorem end_ok (z : Int) (e0 e1 e2 e3 : List UInt8) : Ctr Tryz.prog 142 [.i .i64 z, .sl 0 1 0 4 (some 4) 0] [strB [e0, e1, e2, e3]] (fun r h => r = .s (endF z e0 e1 e2 e3) ∧ h = [strB [e0, e1, e2, e3]]) := by
  refine Ctr.enterG tabOkF (fn := Tryz.f142) rfl rfl rfl rfl rfl rfl ⟨bndL_s _, trivial⟩ ?_
  refine WpC.loop tabOkF (β := Nat) (fun k => k ≤ 4 ∧ (0 < k → z ≠ 1) ∧ (1 < k → z ≠ 2) ∧ (2 < k → z ≠ 4) ∧ (3 < k → z ≠ 8)) (fun k => [(9, .i .i64 k)]) (fun _ => [strB [e0, e1, e2, e3]]) (fun k => 4 - k) 0 1048176 ⟨by decide, fun h => absurd h (by decide), fun h => absurd h (by decide), fun h => absurd h (by decide), fun h => absurd h (by decide)⟩ ?_ ?_
  · exact ⟨rfl, ⟨⟨rfl, rfl, rfl⟩, trivial⟩, ⟨[], rfl⟩, ⟨bndL_s _, trivial⟩, rfl⟩
  · rintro k ⟨hk, h1, h2, h3, h4⟩
    rcases (by omega : k = 0 ∨ k = 1 ∨ k = 2 ∨ k = 3 ∨ k = 4) with rfl | rfl | rfl | rfl | rfl
    · refine ⟨fun _ => ?_, fun h => absurd h (by decide)⟩
      refine ⟨fun _ => by decide, ⟨fun _ => by decide, ?_⟩⟩
      refine ⟨fun h => ?_, fun h => ?_⟩
      · have e : z = 1 := of_decide_eq_true h
        refine ⟨s_cg ?_, _, rfl⟩
        unfold endF
        rw [if_pos e]
      · have e : ¬ z = 1 := of_decide_eq_false h
        exact ⟨1, ⟨by decide, fun _ => e, fun h => absurd h (by decide), fun h => absurd h (by decide), fun h => absurd h (by decide)⟩, by decide, rfl, ⟨⟨rfl, rfl, rfl⟩, trivial⟩, ⟨[], rfl⟩, ⟨bndL_s _, trivial⟩, rfl⟩
    · refine ⟨fun _ => ?_, fun h => absurd h (by decide)⟩
      refine ⟨fun _ => by decide, ⟨fun _ => by decide, ?_⟩⟩
      refine ⟨fun h => ?_, fun h => ?_⟩
      · have e : z = 2 := of_decide_eq_true h
        refine ⟨s_cg ?_, _, rfl⟩
        unfold endF
        rw [if_neg (h1 (by decide))]
        rw [if_pos e]
      · have e : ¬ z = 2 := of_decide_eq_false h
        exact ⟨2, ⟨by decide, fun _ => h1 (by decide), fun _ => e, fun h => absurd h (by decide), fun h => absurd h (by decide)⟩, by decide, rfl, ⟨⟨rfl, rfl, rfl⟩, trivial⟩, ⟨[], rfl⟩, ⟨bndL_s _, trivial⟩, rfl⟩
    · refine ⟨fun _ => ?_, fun h => absurd h (by decide)⟩
      refine ⟨fun _ => by decide, ⟨fun _ => by decide, ?_⟩⟩
      refine ⟨fun h => ?_, fun h => ?_⟩
      · have e : z = 4 := of_decide_eq_true h
        refine ⟨s_cg ?_, _, rfl⟩
        unfold endF
        rw [if_neg (h1 (by decide))]
        rw [if_neg (h2 (by decide))]
        rw [if_pos e]
      · have e : ¬ z = 4 := of_decide_eq_false h
        exact ⟨3, ⟨by decide, fun _ => h1 (by decide), fun _ => h2 (by decide), fun _ => e, fun h => absurd h (by decide)⟩, by decide, rfl, ⟨⟨rfl, rfl, rfl⟩, trivial⟩, ⟨[], rfl⟩, ⟨bndL_s _, trivial⟩, rfl⟩
    · refine ⟨fun _ => ?_, fun h => absurd h (by decide)⟩
      refine ⟨fun _ => by decide, ⟨fun _ => by decide, ?_⟩⟩
      refine ⟨fun h => ?_, fun h => ?_⟩
      · have e : z = 8 := of_decide_eq_true h
        refine ⟨s_cg ?_, _, rfl⟩
        unfold endF
        rw [if_neg (h1 (by decide))]
        rw [if_neg (h2 (by decide))]
        rw [if_neg (h3 (by decide))]
        rw [if_pos e]
      · have e : ¬ z = 8 := of_decide_eq_false h
        exact ⟨4, ⟨by decide, fun _ => h1 (by decide), fun _ => h2 (by decide), fun _ => h3 (by decide), fun _ => e⟩, by decide, rfl, ⟨⟨rfl, rfl, rfl⟩, trivial⟩, ⟨[], rfl⟩, ⟨bndL_s _, trivial⟩, rfl⟩
    · refine ⟨fun h => absurd h (by decide), fun _ => ⟨s_cg ?_, _, rfl⟩⟩
      unfold endF
      rw [if_neg (h1 (by decide)), if_neg (h2 (by decide)), if_neg (h3 (by decide)), if_neg (h4 (by decide))]
/-- A register, or a number. -/
def orF (ns : List (List UInt8)) (h : List UInt8) (r n : Int) : List UInt8 := if 0 ≤ r then nmF ns r else h ++ Lib.itoa n
theorem lor_ok (s0 s1 s2 s3 s4 s5 s6 s7 h : List UInt8) (rd pr : Nat) (r n : Int) (hn : in64 n) (hh : h.length ≤ 10) : Ctr Tryz.prog 144 [.ptr 1 1 0 [], .i .i64 r, .i .i64 n] [rowS s0 s1 s2 s3 s4 s5 s6 s7, langB h rd pr]
    (fun x h' => x = .s (orF [s0, s1, s2, s3, s4, s5, s6, s7] h r n) ∧ h' = [rowS s0 s1 s2 s3 s4 s5 s6 s7, langB h rd pr]) := by
  have hi := itoa_len hn
  refine Ctr.enterG tabOkF (fn := Tryz.f144) rfl rfl rfl rfl rfl rfl bndLang ?_
  refine ⟨fun h1 => ?_, fun h1 => ?_⟩
  · have h1 : (0 : Int) ≤ r := of_decide_eq_true h1
    refine OpC.callG rfl rfl rfl rfl rfl rfl (fun _ => lname_ok s0 s1 s2 s3 s4 s5 s6 s7 h rd pr r) ?_
    refine ⟨s_cg ?_, _, rfl⟩
    unfold orF nmF
    rw [if_pos h1]
  · have h1 : ¬ (0 : Int) ≤ r := of_decide_eq_false h1
    refine WpC.dr tabOkF mixed 0 ?_
    refine OpD.callV rfl rfl rfl rfl rfl rfl rfl (fun _ => itoa_ok n hn.1 hn.2) ?_
    refine ⟨fun _ => ?_, ?_⟩
    · show h.length + (Lib.itoa n).length ≤ 9223372036854775807
      omega
    refine ⟨by kernel_rfl, ?_⟩
    refine ⟨s_cg ?_, _, rfl⟩
    unfold orF
    rw [if_neg h1]
end SX
end Go.Proofs.YthkedcneehdinaaGreatDoor

/- Which instructions are well formed: the program's answer. Printed by uib.py. -/
set_option linter.unusedVariables false
set_option maxRecDepth 100000
namespace Go.Proofs.YthkedcneehdinaaGreatDoor
namespace SX
open Go Go.Proofs
def eqI (x y : In) : Bool := (decide (x.op = y.op) && (decide (x.dst = y.dst) && (decide (x.a = y.a) && (decide (x.b = y.b) && (decide (x.imm = y.imm) && (decide (x.loc = y.loc) && (decide (x.off = y.off) && (decide (x.ix = y.ix) && (decide (x.sz = y.sz) && (decide (x.fn = y.fn) && ((x.acq == y.acq) && ((x.wk == y.wk) && ((x.rel == y.rel) && (decide (x.pr = y.pr) && (decide (x.su = y.su) && (decide (x.to = y.to) && (x.ze == y.ze)))))))))))))))))
theorem no_tf {P : Prop} (h : true = false) : P := nomatch h
theorem no_ft {P : Prop} (h : false = true) : P := nomatch h
theorem ufence_ok (n : Int) : CtrV Tryz.prog 202 [.i .i64 n] (.b (fnB n)) := by
  refine Ctr.enterV tabOkF (fn := Tryz.f202) rfl rfl rfl rfl rfl rfl ?_
  exact rfl
theorem formed_1 (dst a b imm loc off ix sz fn pr su to : Int) (acq wk rel ze : Bool)  : CtrV Tryz.prog 146 [.agg (ienc ⟨1, dst, a, b, imm, loc, off, ix, sz, fn, acq, wk, rel, pr, su, to, ze⟩)] (.b (rgB dst && eqI ⟨1, dst, (-1), (-1), imm, 0, 0, (-1), 0, 0, false, false, false, 0, 0, 0, false⟩ ⟨1, dst, a, b, imm, loc, off, ix, sz, fn, acq, wk, rel, pr, su, to, ze⟩)) := by
  refine Ctr.enterV tabOkF (fn := Tryz.f146) rfl rfl rfl rfl rfl rfl ?_
  refine ⟨fun _ => ?_, fun h => no_tf h⟩
  refine WpC.dr tabOkF mixed 0 ⟨by kernel_rfl, ?_⟩
  refine OpC.callV rfl rfl rfl rfl rfl rfl rfl (fun _ => register_ok dst) ?_
  refine OpC.callV rfl rfl rfl rfl rfl rfl rfl (fun _ => reads_ok ⟨1, dst, a, b, imm, loc, off, ix, sz, fn, acq, wk, rel, pr, su, to, ze⟩) ?_
  refine OpC.callV rfl rfl rfl rfl rfl rfl rfl (fun _ => writes_ok ⟨1, dst, a, b, imm, loc, off, ix, sz, fn, acq, wk, rel, pr, su, to, ze⟩) ?_
  refine ⟨fun h => no_ft h, fun _ => ?_⟩
  exact rfl
theorem formed_2 (dst a b imm loc off ix sz fn pr su to : Int) (acq wk rel ze : Bool)  : CtrV Tryz.prog 146 [.agg (ienc ⟨2, dst, a, b, imm, loc, off, ix, sz, fn, acq, wk, rel, pr, su, to, ze⟩)] (.b ((rgB dst && rgB a) && eqI ⟨2, dst, a, (-1), 0, 0, 0, (-1), 0, 0, false, false, false, 0, 0, 0, false⟩ ⟨2, dst, a, b, imm, loc, off, ix, sz, fn, acq, wk, rel, pr, su, to, ze⟩)) := by
  refine Ctr.enterV tabOkF (fn := Tryz.f146) rfl rfl rfl rfl rfl rfl ?_
  refine ⟨fun h => no_ft h, fun _ => ?_⟩
  refine ⟨fun _ => ?_, fun h => no_tf h⟩
  refine WpC.dr tabOkF mixed 0 ⟨by kernel_rfl, ?_⟩
  refine OpC.callV rfl rfl rfl rfl rfl rfl rfl (fun _ => register_ok dst) ?_
  refine OpC.callV rfl rfl rfl rfl rfl rfl rfl (fun _ => register_ok a) ?_
  refine OpC.callV rfl rfl rfl rfl rfl rfl rfl (fun _ => reads_ok ⟨2, dst, a, b, imm, loc, off, ix, sz, fn, acq, wk, rel, pr, su, to, ze⟩) ?_
  refine OpC.callV rfl rfl rfl rfl rfl rfl rfl (fun _ => writes_ok ⟨2, dst, a, b, imm, loc, off, ix, sz, fn, acq, wk, rel, pr, su, to, ze⟩) ?_
  refine ⟨fun h => no_ft h, fun _ => ?_⟩
  exact rfl
theorem formed_3i (dst a b imm loc off ix sz fn pr su to : Int) (acq wk rel ze : Bool) (hb : b = -1) : CtrV Tryz.prog 146 [.agg (ienc ⟨3, dst, a, b, imm, loc, off, ix, sz, fn, acq, wk, rel, pr, su, to, ze⟩)] (.b ((((rgB dst && rgB a) && decide (1 ≤ fn)) && decide (fn ≤ 5)) && eqI ⟨3, dst, a, b, imm, 0, 0, (-1), 0, fn, false, false, false, 0, 0, 0, false⟩ ⟨3, dst, a, b, imm, loc, off, ix, sz, fn, acq, wk, rel, pr, su, to, ze⟩)) := by
  refine Ctr.enterV tabOkF (fn := Tryz.f146) rfl rfl rfl rfl rfl rfl ?_
  refine ⟨fun h => no_ft h, fun _ => ?_⟩
  refine ⟨fun h => no_ft h, fun _ => ?_⟩
  refine ⟨fun _ => ?_, fun h => no_tf h⟩
  refine WpC.dr tabOkF mixed 0 ⟨by kernel_rfl, ?_⟩
  refine OpC.callV rfl rfl rfl rfl rfl rfl rfl (fun _ => register_ok dst) ?_
  refine OpC.callV rfl rfl rfl rfl rfl rfl rfl (fun _ => register_ok a) ?_
  refine ⟨fun _ => ?_, fun h => absurd hb (of_decide_eq_false h)⟩
  refine OpC.callV rfl rfl rfl rfl rfl rfl rfl (fun _ => reads_ok ⟨3, dst, a, b, imm, loc, off, ix, sz, fn, acq, wk, rel, pr, su, to, ze⟩) ?_
  refine OpC.callV rfl rfl rfl rfl rfl rfl rfl (fun _ => writes_ok ⟨3, dst, a, b, imm, loc, off, ix, sz, fn, acq, wk, rel, pr, su, to, ze⟩) ?_
  refine ⟨fun h => no_ft h, fun _ => ?_⟩
  exact rfl
theorem formed_3r (dst a b imm loc off ix sz fn pr su to : Int) (acq wk rel ze : Bool) (hb : ¬ b = -1) : CtrV Tryz.prog 146 [.agg (ienc ⟨3, dst, a, b, imm, loc, off, ix, sz, fn, acq, wk, rel, pr, su, to, ze⟩)] (.b (((((rgB dst && rgB a) && decide (1 ≤ fn)) && decide (fn ≤ 5)) && rgB b) && eqI ⟨3, dst, a, b, 0, 0, 0, (-1), 0, fn, false, false, false, 0, 0, 0, false⟩ ⟨3, dst, a, b, imm, loc, off, ix, sz, fn, acq, wk, rel, pr, su, to, ze⟩)) := by
  refine Ctr.enterV tabOkF (fn := Tryz.f146) rfl rfl rfl rfl rfl rfl ?_
  refine ⟨fun h => no_ft h, fun _ => ?_⟩
  refine ⟨fun h => no_ft h, fun _ => ?_⟩
  refine ⟨fun _ => ?_, fun h => no_tf h⟩
  refine WpC.dr tabOkF mixed 0 ⟨by kernel_rfl, ?_⟩
  refine OpC.callV rfl rfl rfl rfl rfl rfl rfl (fun _ => register_ok dst) ?_
  refine OpC.callV rfl rfl rfl rfl rfl rfl rfl (fun _ => register_ok a) ?_
  refine ⟨fun h => absurd (of_decide_eq_true h) hb, fun _ => ?_⟩
  refine OpC.callV rfl rfl rfl rfl rfl rfl rfl (fun _ => register_ok b) ?_
  refine OpC.callV rfl rfl rfl rfl rfl rfl rfl (fun _ => reads_ok ⟨3, dst, a, b, imm, loc, off, ix, sz, fn, acq, wk, rel, pr, su, to, ze⟩) ?_
  refine OpC.callV rfl rfl rfl rfl rfl rfl rfl (fun _ => writes_ok ⟨3, dst, a, b, imm, loc, off, ix, sz, fn, acq, wk, rel, pr, su, to, ze⟩) ?_
  refine ⟨fun h => no_ft h, fun _ => ?_⟩
  exact rfl
theorem formed_4 (dst a b imm loc off ix sz fn pr su to : Int) (acq wk rel ze : Bool)  : CtrV Tryz.prog 146 [.agg (ienc ⟨4, dst, a, b, imm, loc, off, ix, sz, fn, acq, wk, rel, pr, su, to, ze⟩)] (.b (((rgB dst && accB ⟨4, dst, a, b, imm, loc, off, ix, sz, fn, acq, wk, rel, pr, su, to, ze⟩) && !(acq && wk)) && eqI ⟨4, dst, (-1), (-1), 0, loc, off, ix, sz, 0, acq, wk, false, 0, 0, 0, false⟩ ⟨4, dst, a, b, imm, loc, off, ix, sz, fn, acq, wk, rel, pr, su, to, ze⟩)) := by
  refine Ctr.enterV tabOkF (fn := Tryz.f146) rfl rfl rfl rfl rfl rfl ?_
  refine ⟨fun h => no_ft h, fun _ => ?_⟩
  refine ⟨fun h => no_ft h, fun _ => ?_⟩
  refine ⟨fun h => no_ft h, fun _ => ?_⟩
  refine ⟨fun _ => ?_, fun h => no_tf h⟩
  refine WpC.dr tabOkF mixed 0 ⟨by kernel_rfl, ?_⟩
  refine OpC.callV rfl rfl rfl rfl rfl rfl rfl (fun _ => register_ok dst) ?_
  refine OpC.callV rfl rfl rfl rfl rfl rfl rfl (fun _ => access_ok ⟨4, dst, a, b, imm, loc, off, ix, sz, fn, acq, wk, rel, pr, su, to, ze⟩) ?_
  refine OpC.callV rfl rfl rfl rfl rfl rfl rfl (fun _ => reads_ok ⟨4, dst, a, b, imm, loc, off, ix, sz, fn, acq, wk, rel, pr, su, to, ze⟩) ?_
  refine OpC.callV rfl rfl rfl rfl rfl rfl rfl (fun _ => writes_ok ⟨4, dst, a, b, imm, loc, off, ix, sz, fn, acq, wk, rel, pr, su, to, ze⟩) ?_
  refine ⟨fun _ => ?_, fun h => no_tf h⟩
  refine WpC.dr tabOkF mixed 0 ⟨by kernel_rfl, ?_⟩
  exact rfl
theorem formed_5i (dst a b imm loc off ix sz fn pr su to : Int) (acq wk rel ze : Bool) (hb : a = -1) : CtrV Tryz.prog 146 [.agg (ienc ⟨5, dst, a, b, imm, loc, off, ix, sz, fn, acq, wk, rel, pr, su, to, ze⟩)] (.b (accB ⟨5, dst, a, b, imm, loc, off, ix, sz, fn, acq, wk, rel, pr, su, to, ze⟩ && eqI ⟨5, (-1), a, (-1), imm, loc, off, ix, sz, 0, false, false, rel, 0, 0, 0, false⟩ ⟨5, dst, a, b, imm, loc, off, ix, sz, fn, acq, wk, rel, pr, su, to, ze⟩)) := by
  refine Ctr.enterV tabOkF (fn := Tryz.f146) rfl rfl rfl rfl rfl rfl ?_
  refine ⟨fun h => no_ft h, fun _ => ?_⟩
  refine ⟨fun h => no_ft h, fun _ => ?_⟩
  refine ⟨fun h => no_ft h, fun _ => ?_⟩
  refine ⟨fun h => no_ft h, fun _ => ?_⟩
  refine ⟨fun _ => ?_, fun h => no_tf h⟩
  refine WpC.dr tabOkF mixed 0 ⟨by kernel_rfl, ?_⟩
  refine OpC.callV rfl rfl rfl rfl rfl rfl rfl (fun _ => access_ok ⟨5, dst, a, b, imm, loc, off, ix, sz, fn, acq, wk, rel, pr, su, to, ze⟩) ?_
  refine ⟨fun _ => ?_, fun h => absurd hb (of_decide_eq_false h)⟩
  refine OpC.callV rfl rfl rfl rfl rfl rfl rfl (fun _ => reads_ok ⟨5, dst, a, b, imm, loc, off, ix, sz, fn, acq, wk, rel, pr, su, to, ze⟩) ?_
  refine OpC.callV rfl rfl rfl rfl rfl rfl rfl (fun _ => writes_ok ⟨5, dst, a, b, imm, loc, off, ix, sz, fn, acq, wk, rel, pr, su, to, ze⟩) ?_
  refine ⟨fun _ => ?_, fun h => no_tf h⟩
  refine WpC.dr tabOkF mixed 0 ⟨by kernel_rfl, ?_⟩
  exact rfl
theorem formed_5r (dst a b imm loc off ix sz fn pr su to : Int) (acq wk rel ze : Bool) (hb : ¬ a = -1) : CtrV Tryz.prog 146 [.agg (ienc ⟨5, dst, a, b, imm, loc, off, ix, sz, fn, acq, wk, rel, pr, su, to, ze⟩)] (.b ((accB ⟨5, dst, a, b, imm, loc, off, ix, sz, fn, acq, wk, rel, pr, su, to, ze⟩ && rgB a) && eqI ⟨5, (-1), a, (-1), 0, loc, off, ix, sz, 0, false, false, rel, 0, 0, 0, false⟩ ⟨5, dst, a, b, imm, loc, off, ix, sz, fn, acq, wk, rel, pr, su, to, ze⟩)) := by
  refine Ctr.enterV tabOkF (fn := Tryz.f146) rfl rfl rfl rfl rfl rfl ?_
  refine ⟨fun h => no_ft h, fun _ => ?_⟩
  refine ⟨fun h => no_ft h, fun _ => ?_⟩
  refine ⟨fun h => no_ft h, fun _ => ?_⟩
  refine ⟨fun h => no_ft h, fun _ => ?_⟩
  refine ⟨fun _ => ?_, fun h => no_tf h⟩
  refine WpC.dr tabOkF mixed 0 ⟨by kernel_rfl, ?_⟩
  refine OpC.callV rfl rfl rfl rfl rfl rfl rfl (fun _ => access_ok ⟨5, dst, a, b, imm, loc, off, ix, sz, fn, acq, wk, rel, pr, su, to, ze⟩) ?_
  refine ⟨fun h => absurd (of_decide_eq_true h) hb, fun _ => ?_⟩
  refine OpC.callV rfl rfl rfl rfl rfl rfl rfl (fun _ => register_ok a) ?_
  refine OpC.callV rfl rfl rfl rfl rfl rfl rfl (fun _ => reads_ok ⟨5, dst, a, b, imm, loc, off, ix, sz, fn, acq, wk, rel, pr, su, to, ze⟩) ?_
  refine OpC.callV rfl rfl rfl rfl rfl rfl rfl (fun _ => writes_ok ⟨5, dst, a, b, imm, loc, off, ix, sz, fn, acq, wk, rel, pr, su, to, ze⟩) ?_
  refine ⟨fun _ => ?_, fun h => no_tf h⟩
  refine WpC.dr tabOkF mixed 0 ⟨by kernel_rfl, ?_⟩
  exact rfl
set_option maxHeartbeats 2000000 in
theorem formed_6 (dst a b imm loc off ix sz fn pr su to : Int) (acq wk rel ze : Bool)  : CtrV Tryz.prog 146 [.agg (ienc ⟨6, dst, a, b, imm, loc, off, ix, sz, fn, acq, wk, rel, pr, su, to, ze⟩)] (.b ((((rgB dst && rgB a) && accB ⟨6, dst, a, b, imm, loc, off, ix, sz, fn, acq, wk, rel, pr, su, to, ze⟩) && (decide (fn = 6) || decide (fn = 1))) && eqI ⟨6, dst, a, (-1), 0, loc, off, ix, sz, fn, acq, false, rel, 0, 0, 0, false⟩ ⟨6, dst, a, b, imm, loc, off, ix, sz, fn, acq, wk, rel, pr, su, to, ze⟩)) := by
  refine Ctr.enterV tabOkF (fn := Tryz.f146) rfl rfl rfl rfl rfl rfl ?_
  refine ⟨fun h => no_ft h, fun _ => ?_⟩
  refine ⟨fun h => no_ft h, fun _ => ?_⟩
  refine ⟨fun h => no_ft h, fun _ => ?_⟩
  refine ⟨fun h => no_ft h, fun _ => ?_⟩
  refine ⟨fun h => no_ft h, fun _ => ?_⟩
  refine ⟨fun _ => ?_, fun h => no_tf h⟩
  refine WpC.dr tabOkF mixed 0 ⟨by kernel_rfl, ?_⟩
  refine OpC.callV rfl rfl rfl rfl rfl rfl rfl (fun _ => register_ok dst) ?_
  refine OpC.callV rfl rfl rfl rfl rfl rfl rfl (fun _ => register_ok a) ?_
  refine OpC.callV rfl rfl rfl rfl rfl rfl rfl (fun _ => access_ok ⟨6, dst, a, b, imm, loc, off, ix, sz, fn, acq, wk, rel, pr, su, to, ze⟩) ?_
  refine OpC.callV rfl rfl rfl rfl rfl rfl rfl (fun _ => reads_ok ⟨6, dst, a, b, imm, loc, off, ix, sz, fn, acq, wk, rel, pr, su, to, ze⟩) ?_
  refine OpC.callV rfl rfl rfl rfl rfl rfl rfl (fun _ => writes_ok ⟨6, dst, a, b, imm, loc, off, ix, sz, fn, acq, wk, rel, pr, su, to, ze⟩) ?_
  refine ⟨fun _ => ?_, fun h => no_tf h⟩
  refine WpC.dr tabOkF mixed 0 ⟨by kernel_rfl, ?_⟩
  exact rfl
theorem formed_7 (dst a b imm loc off ix sz fn pr su to : Int) (acq wk rel ze : Bool)  : CtrV Tryz.prog 146 [.agg (ienc ⟨7, dst, a, b, imm, loc, off, ix, sz, fn, acq, wk, rel, pr, su, to, ze⟩)] (.b ((fnB pr && fnB su) && eqI ⟨7, (-1), (-1), (-1), 0, 0, 0, (-1), 0, 0, false, false, false, pr, su, 0, false⟩ ⟨7, dst, a, b, imm, loc, off, ix, sz, fn, acq, wk, rel, pr, su, to, ze⟩)) := by
  refine Ctr.enterV tabOkF (fn := Tryz.f146) rfl rfl rfl rfl rfl rfl ?_
  refine ⟨fun h => no_ft h, fun _ => ?_⟩
  refine ⟨fun h => no_ft h, fun _ => ?_⟩
  refine ⟨fun h => no_ft h, fun _ => ?_⟩
  refine ⟨fun h => no_ft h, fun _ => ?_⟩
  refine ⟨fun h => no_ft h, fun _ => ?_⟩
  refine ⟨fun h => no_ft h, fun _ => ?_⟩
  refine ⟨fun _ => ?_, fun h => no_tf h⟩
  refine WpC.dr tabOkF mixed 0 ⟨by kernel_rfl, ?_⟩
  refine OpC.callV rfl rfl rfl rfl rfl rfl rfl (fun _ => ufence_ok pr) ?_
  refine OpC.callV rfl rfl rfl rfl rfl rfl rfl (fun _ => ufence_ok su) ?_
  refine OpC.callV rfl rfl rfl rfl rfl rfl rfl (fun _ => reads_ok ⟨7, dst, a, b, imm, loc, off, ix, sz, fn, acq, wk, rel, pr, su, to, ze⟩) ?_
  refine OpC.callV rfl rfl rfl rfl rfl rfl rfl (fun _ => writes_ok ⟨7, dst, a, b, imm, loc, off, ix, sz, fn, acq, wk, rel, pr, su, to, ze⟩) ?_
  refine ⟨fun h => no_ft h, fun _ => ?_⟩
  exact rfl
theorem formed_8 (dst a b imm loc off ix sz fn pr su to : Int) (acq wk rel ze : Bool)  : CtrV Tryz.prog 146 [.agg (ienc ⟨8, dst, a, b, imm, loc, off, ix, sz, fn, acq, wk, rel, pr, su, to, ze⟩)] (.b (true && eqI ⟨8, (-1), (-1), (-1), 0, 0, 0, (-1), 0, 0, false, false, false, 0, 0, 0, false⟩ ⟨8, dst, a, b, imm, loc, off, ix, sz, fn, acq, wk, rel, pr, su, to, ze⟩)) := by
  refine Ctr.enterV tabOkF (fn := Tryz.f146) rfl rfl rfl rfl rfl rfl ?_
  refine ⟨fun h => no_ft h, fun _ => ?_⟩
  refine ⟨fun h => no_ft h, fun _ => ?_⟩
  refine ⟨fun h => no_ft h, fun _ => ?_⟩
  refine ⟨fun h => no_ft h, fun _ => ?_⟩
  refine ⟨fun h => no_ft h, fun _ => ?_⟩
  refine ⟨fun h => no_ft h, fun _ => ?_⟩
  refine ⟨fun h => no_ft h, fun _ => ?_⟩
  refine ⟨fun _ => ?_, fun h => no_tf h⟩
  refine OpC.callV rfl rfl rfl rfl rfl rfl rfl (fun _ => reads_ok ⟨8, dst, a, b, imm, loc, off, ix, sz, fn, acq, wk, rel, pr, su, to, ze⟩) ?_
  refine OpC.callV rfl rfl rfl rfl rfl rfl rfl (fun _ => writes_ok ⟨8, dst, a, b, imm, loc, off, ix, sz, fn, acq, wk, rel, pr, su, to, ze⟩) ?_
  refine ⟨fun h => no_ft h, fun _ => ?_⟩
  exact rfl
theorem formed_9 (dst a b imm loc off ix sz fn pr su to : Int) (acq wk rel ze : Bool)  : CtrV Tryz.prog 146 [.agg (ienc ⟨9, dst, a, b, imm, loc, off, ix, sz, fn, acq, wk, rel, pr, su, to, ze⟩)] (.b (rgB a && eqI ⟨9, (-1), a, (-1), 0, 0, 0, (-1), 0, 0, false, false, false, 0, 0, to, ze⟩ ⟨9, dst, a, b, imm, loc, off, ix, sz, fn, acq, wk, rel, pr, su, to, ze⟩)) := by
  refine Ctr.enterV tabOkF (fn := Tryz.f146) rfl rfl rfl rfl rfl rfl ?_
  refine ⟨fun h => no_ft h, fun _ => ?_⟩
  refine ⟨fun h => no_ft h, fun _ => ?_⟩
  refine ⟨fun h => no_ft h, fun _ => ?_⟩
  refine ⟨fun h => no_ft h, fun _ => ?_⟩
  refine ⟨fun h => no_ft h, fun _ => ?_⟩
  refine ⟨fun h => no_ft h, fun _ => ?_⟩
  refine ⟨fun h => no_ft h, fun _ => ?_⟩
  refine ⟨fun h => no_ft h, fun _ => ?_⟩
  refine ⟨fun _ => ?_, fun h => no_tf h⟩
  refine WpC.dr tabOkF mixed 0 ⟨by kernel_rfl, ?_⟩
  refine OpC.callV rfl rfl rfl rfl rfl rfl rfl (fun _ => register_ok a) ?_
  refine OpC.callV rfl rfl rfl rfl rfl rfl rfl (fun _ => reads_ok ⟨9, dst, a, b, imm, loc, off, ix, sz, fn, acq, wk, rel, pr, su, to, ze⟩) ?_
  refine OpC.callV rfl rfl rfl rfl rfl rfl rfl (fun _ => writes_ok ⟨9, dst, a, b, imm, loc, off, ix, sz, fn, acq, wk, rel, pr, su, to, ze⟩) ?_
  refine ⟨fun h => no_ft h, fun _ => ?_⟩
  exact rfl
end SX
end Go.Proofs.YthkedcneehdinaaGreatDoor

/- Which instructions are well formed: the reference's answer, by op. Printed by uic.py. -/
set_option linter.unusedVariables false
set_option maxRecDepth 100000
namespace Go.Proofs.YthkedcneehdinaaGreatDoor
namespace SX
open Go Go.Proofs
theorem formed_0 (op dst a b imm loc off ix sz fn pr su to : Int) (acq wk rel ze : Bool) (h1 : ¬ op = 1) (h2 : ¬ op = 2) (h3 : ¬ op = 3) (h4 : ¬ op = 4) (h5 : ¬ op = 5) (h6 : ¬ op = 6) (h7 : ¬ op = 7) (h8 : ¬ op = 8) (h9 : ¬ op = 9) : CtrV Tryz.prog 146 [.agg (ienc ⟨op, dst, a, b, imm, loc, off, ix, sz, fn, acq, wk, rel, pr, su, to, ze⟩)] (.b false) := by
  refine Ctr.enterV tabOkF (fn := Tryz.f146) rfl rfl rfl rfl rfl rfl ?_
  refine ⟨fun h => absurd (of_decide_eq_true h) h1, fun _ => ?_⟩
  refine ⟨fun h => absurd (of_decide_eq_true h) h2, fun _ => ?_⟩
  refine ⟨fun h => absurd (of_decide_eq_true h) h3, fun _ => ?_⟩
  refine ⟨fun h => absurd (of_decide_eq_true h) h4, fun _ => ?_⟩
  refine ⟨fun h => absurd (of_decide_eq_true h) h5, fun _ => ?_⟩
  refine ⟨fun h => absurd (of_decide_eq_true h) h6, fun _ => ?_⟩
  refine ⟨fun h => absurd (of_decide_eq_true h) h7, fun _ => ?_⟩
  refine ⟨fun h => absurd (of_decide_eq_true h) h8, fun _ => ?_⟩
  refine ⟨fun h => absurd (of_decide_eq_true h) h9, fun _ => ?_⟩
  refine OpC.callV rfl rfl rfl rfl rfl rfl rfl (fun _ => reads_ok ⟨op, dst, a, b, imm, loc, off, ix, sz, fn, acq, wk, rel, pr, su, to, ze⟩) ?_
  refine OpC.callV rfl rfl rfl rfl rfl rfl rfl (fun _ => writes_ok ⟨op, dst, a, b, imm, loc, off, ix, sz, fn, acq, wk, rel, pr, su, to, ze⟩) ?_
  refine ⟨fun h => ?_, fun _ => ?_⟩
  · have h : ((decide (op = 4) || decide (op = 6)) || (decide (op = 5) || decide (op = 6))) = true := h
    rw [decide_eq_false h4, decide_eq_false h5, decide_eq_false h6] at h
    cases h
  exact rfl
end SX
end Go.Proofs.YthkedcneehdinaaGreatDoor

/- Which instructions are well formed: one plain law for the program's and the reference's answer. Printed by uid.py. -/
set_option linter.unusedVariables false
set_option maxRecDepth 100000
namespace Go.Proofs.YthkedcneehdinaaGreatDoor
namespace SX
open Go Go.Proofs
def form1 (i : In) : Bool := (rgB i.dst && eqI ⟨1, i.dst, (-1), (-1), i.imm, 0, 0, (-1), 0, 0, false, false, false, 0, 0, 0, false⟩ i)
def form2 (i : In) : Bool := ((rgB i.dst && rgB i.a) && eqI ⟨2, i.dst, i.a, (-1), 0, 0, 0, (-1), 0, 0, false, false, false, 0, 0, 0, false⟩ i)
def form3 (i : In) : Bool := (if i.b = -1 then ((((rgB i.dst && rgB i.a) && decide (1 ≤ i.fn)) && decide (i.fn ≤ 5)) && eqI ⟨3, i.dst, i.a, i.b, i.imm, 0, 0, (-1), 0, i.fn, false, false, false, 0, 0, 0, false⟩ i) else (((((rgB i.dst && rgB i.a) && decide (1 ≤ i.fn)) && decide (i.fn ≤ 5)) && rgB i.b) && eqI ⟨3, i.dst, i.a, i.b, 0, 0, 0, (-1), 0, i.fn, false, false, false, 0, 0, 0, false⟩ i))
def form4 (i : In) : Bool := (((rgB i.dst && accB i) && !(i.acq && i.wk)) && eqI ⟨4, i.dst, (-1), (-1), 0, i.loc, i.off, i.ix, i.sz, 0, i.acq, i.wk, false, 0, 0, 0, false⟩ i)
def form5 (i : In) : Bool := (if i.a = -1 then (accB i && eqI ⟨5, (-1), i.a, (-1), i.imm, i.loc, i.off, i.ix, i.sz, 0, false, false, i.rel, 0, 0, 0, false⟩ i) else ((accB i && rgB i.a) && eqI ⟨5, (-1), i.a, (-1), 0, i.loc, i.off, i.ix, i.sz, 0, false, false, i.rel, 0, 0, 0, false⟩ i))
def form6 (i : In) : Bool := ((((rgB i.dst && rgB i.a) && accB i) && (decide (i.fn = 6) || decide (i.fn = 1))) && eqI ⟨6, i.dst, i.a, (-1), 0, i.loc, i.off, i.ix, i.sz, i.fn, i.acq, false, i.rel, 0, 0, 0, false⟩ i)
def form7 (i : In) : Bool := ((fnB i.pr && fnB i.su) && eqI ⟨7, (-1), (-1), (-1), 0, 0, 0, (-1), 0, 0, false, false, false, i.pr, i.su, 0, false⟩ i)
def form8 (i : In) : Bool := (true && eqI ⟨8, (-1), (-1), (-1), 0, 0, 0, (-1), 0, 0, false, false, false, 0, 0, 0, false⟩ i)
def form9 (i : In) : Bool := (rgB i.a && eqI ⟨9, (-1), i.a, (-1), 0, 0, 0, (-1), 0, 0, false, false, false, 0, 0, i.to, i.ze⟩ i)
def formP (i : In) : Bool :=
  if i.op = 1 then form1 i else
  if i.op = 2 then form2 i else
  if i.op = 3 then form3 i else
  if i.op = 4 then form4 i else
  if i.op = 5 then form5 i else
  if i.op = 6 then form6 i else
  if i.op = 7 then form7 i else
  if i.op = 8 then form8 i else
  if i.op = 9 then form9 i else
  false
theorem formed_ok (i : In) : CtrV Tryz.prog 146 [.agg (ienc i)] (.b (formP i)) := by
  obtain ⟨op, dst, a, b, imm, loc, off, ix, sz, fn, acq, wk, rel, pr, su, to, ze⟩ := i
  by_cases h1 : op = 1
  · subst h1
    exact formed_1 dst a b imm loc off ix sz fn pr su to acq wk rel ze
  by_cases h2 : op = 2
  · subst h2
    exact formed_2 dst a b imm loc off ix sz fn pr su to acq wk rel ze
  by_cases h3 : op = 3
  · subst h3
    by_cases hb : b = -1
    · have := formed_3i dst a b imm loc off ix sz fn pr su to acq wk rel ze hb
      show CtrV _ _ _ (.b (form3 ⟨3, dst, a, b, imm, loc, off, ix, sz, fn, acq, wk, rel, pr, su, to, ze⟩))
      unfold form3
      rw [if_pos (show b = -1 from hb)]; exact this
    · have := formed_3r dst a b imm loc off ix sz fn pr su to acq wk rel ze hb
      show CtrV _ _ _ (.b (form3 ⟨3, dst, a, b, imm, loc, off, ix, sz, fn, acq, wk, rel, pr, su, to, ze⟩))
      unfold form3
      rw [if_neg (show ¬ b = -1 from hb)]; exact this
  by_cases h4 : op = 4
  · subst h4
    exact formed_4 dst a b imm loc off ix sz fn pr su to acq wk rel ze
  by_cases h5 : op = 5
  · subst h5
    by_cases hb : a = -1
    · have := formed_5i dst a b imm loc off ix sz fn pr su to acq wk rel ze hb
      show CtrV _ _ _ (.b (form5 ⟨5, dst, a, b, imm, loc, off, ix, sz, fn, acq, wk, rel, pr, su, to, ze⟩))
      unfold form5
      rw [if_pos (show a = -1 from hb)]; exact this
    · have := formed_5r dst a b imm loc off ix sz fn pr su to acq wk rel ze hb
      show CtrV _ _ _ (.b (form5 ⟨5, dst, a, b, imm, loc, off, ix, sz, fn, acq, wk, rel, pr, su, to, ze⟩))
      unfold form5
      rw [if_neg (show ¬ a = -1 from hb)]; exact this
  by_cases h6 : op = 6
  · subst h6
    exact formed_6 dst a b imm loc off ix sz fn pr su to acq wk rel ze
  by_cases h7 : op = 7
  · subst h7
    exact formed_7 dst a b imm loc off ix sz fn pr su to acq wk rel ze
  by_cases h8 : op = 8
  · subst h8
    exact formed_8 dst a b imm loc off ix sz fn pr su to acq wk rel ze
  by_cases h9 : op = 9
  · subst h9
    exact formed_9 dst a b imm loc off ix sz fn pr su to acq wk rel ze
  have := formed_0 op dst a b imm loc off ix sz fn pr su to acq wk rel ze h1 h2 h3 h4 h5 h6 h7 h8 h9
  unfold formP
  simp only [if_neg h1, if_neg h2, if_neg h3, if_neg h4, if_neg h5, if_neg h6, if_neg h7, if_neg h8, if_neg h9]
  exact this
def z0 : In := ⟨0, (-1), (-1), (-1), 0, 0, 0, (-1), 0, 0, false, false, false, 0, 0, 0, false⟩
end SX
end Go.Proofs.YthkedcneehdinaaGreatDoor

/- Right: is an instruction good between two places? Printed by uie.py. -/
set_option linter.unusedVariables false
set_option maxRecDepth 100000
namespace Go.Proofs.YthkedcneehdinaaGreatDoor
namespace SX
open Go Go.Proofs
def toX (i : In) (lo hi : Int) : Bool := decide (i.op = 9) && (decide (i.to ≤ lo) || decide (hi < i.to))
def rgtF (i : In) (lo hi : Int) : Int := if formP i = true then (if toX i lo hi = true then 35 else 0) else 34
theorem uright_ok (i : In) (lo hi : Int) : CtrV Tryz.prog 82 [.agg (ienc i), .i .i64 lo, .i .i64 hi] (.i .i64 (rgtF i lo hi)) := by
  refine Ctr.enterV tabOkF (fn := Tryz.f82) rfl rfl rfl rfl rfl rfl ?_
  refine OpC.callV rfl rfl rfl rfl rfl rfl rfl (fun _ => formed_ok i) ?_
  unfold rgtF
  cases formP i with
  | false =>
    refine ⟨fun _ => ?_, fun h => no_tf h⟩
    exact rfl
  | true =>
    refine ⟨fun h => no_ft h, fun _ => ?_⟩
    refine ⟨fun h => ?_, fun h => ?_⟩
    · have h : toX i lo hi = true := h
      rw [if_pos rfl, if_pos h]
      exact rfl
    · have h : toX i lo hi = false := h
      rw [if_pos rfl, if_neg (by rw [h]; decide)]
      exact rfl
end SX
end Go.Proofs.YthkedcneehdinaaGreatDoor

/- Texts of instructions: places of memory. Printed by asb.py. -/
set_option linter.unusedVariables false
set_option maxRecDepth 100000
namespace Go.Proofs.YthkedcneehdinaaGreatDoor
namespace SX
open Go Go.Proofs
def offF (n : Int) : List UInt8 := if n = 0 then [] else [43] ++ Lib.itoa n
def ixF (ns : List (List UInt8)) (n : Int) : List UInt8 := if 0 ≤ n then [43] ++ nmF ns n else []
def atF (ns : List (List UInt8)) (i : In) : List UInt8 := (((([91] ++ locF i.loc) ++ offF i.off) ++ ixF ns i.ix) ++ [93])
theorem accB_ok {i : In} (h : accB i = true) : (i.loc = 0 ∨ i.loc = 1 ∨ i.loc = 2) ∧ (0 ≤ i.off ∧ i.off ≤ 7) ∧ (i.ix = -1 ∨ (0 ≤ i.ix ∧ i.ix < 8)) ∧ (i.sz = 1 ∨ i.sz = 2 ∨ i.sz = 4 ∨ i.sz = 8) := by
  unfold accB at h
  simp only [Bool.and_eq_true, decide_eq_true_eq, Bool.not_eq_true'] at h
  obtain ⟨⟨⟨h1, h2⟩, h3⟩, h4⟩ := h
  have h5 := msk_cases h3
  unfold ixB rgB at h4
  simp only [Bool.or_eq_true, Bool.and_eq_true, decide_eq_true_eq] at h4
  refine ⟨by omega, by omega, h4, by omega⟩
theorem itoa_small {n : Int} (h0 : 0 ≤ n) (h7 : n ≤ 7) : (Lib.itoa n).length = 1 := by
  rcases (by omega : n = 0 ∨ n = 1 ∨ n = 2 ∨ n = 3 ∨ n = 4 ∨ n = 5 ∨ n = 6 ∨ n = 7) with rfl | rfl | rfl | rfl | rfl | rfl | rfl | rfl <;> decide +kernel
set_option maxHeartbeats 400000 in
theorem lat_ok (s0 s1 s2 s3 s4 s5 s6 s7 h : List UInt8) (rd pr : Nat) (hs : ∀ n, (nmF [s0, s1, s2, s3, s4, s5, s6, s7] n).length ≤ 3) (i : In) (ha : accB i = true) : Ctr Tryz.prog 145 [.ptr 1 1 0 [], .agg (ienc i)] [rowS s0 s1 s2 s3 s4 s5 s6 s7, langB h rd pr]
    (fun x h' => x = .s (atF [s0, s1, s2, s3, s4, s5, s6, s7] i) ∧ h' = [rowS s0 s1 s2 s3 s4 s5 s6 s7, langB h rd pr]) := by
  obtain ⟨h1, h2, h3, h4⟩ := accB_ok ha
  have hi := itoa_small h2.1 h2.2
  have hn := hs i.ix
  have hl : (locF i.loc).length = 1 := rfl
  refine Ctr.enterG tabOkF (fn := Tryz.f145) rfl rfl rfl rfl rfl rfl bndLang ?_
  obtain ⟨op, dst, a, b, imm, loc, off, ix, sz, fn, acq, wk, rel, pr', su, to, ze⟩ := i
  simp only at h1 h2 h3 h4 hi hn hl
  have hat : ∀ p q : List UInt8, offF off = p → ixF [s0, s1, s2, s3, s4, s5, s6, s7] ix = q → atF [s0, s1, s2, s3, s4, s5, s6, s7] ⟨op, dst, a, b, imm, loc, off, ix, sz, fn, acq, wk, rel, pr', su, to, ze⟩ = (((([91] ++ locF loc) ++ p) ++ q) ++ [93]) := fun p q hp hq => by subst hp; subst hq; rfl
  rcases h1 with rfl | rfl | rfl
  · refine ⟨fun _ => by show (0 : Int) ≤ 0 ∧ (0 : Int) ≤ 1 ∧ (1 : Int) ≤ 3; decide, ⟨fun _ => by show (1 : Nat) + 1 ≤ 9223372036854775807; decide, ?_⟩⟩
    refine ⟨fun h5 => ?_, fun h5 => ?_⟩
    · have h5 : (!decide (off = 0)) = true := h5
      have h5 : ¬ off = 0 := by simpa using h5
      refine OpC.callV rfl rfl rfl rfl rfl rfl rfl (fun _ => itoa_ok off (by omega) (by omega)) ?_
      refine ⟨fun _ => ?_, ⟨fun _ => ?_, ?_⟩⟩
      · show 1 + (Lib.itoa off).length ≤ 9223372036854775807
        omega
      · show (([91] ++ locF 0) : List UInt8).length + ([43] ++ Lib.itoa off).length ≤ 9223372036854775807
        simp; omega
      refine ⟨fun h6 => ?_, fun h6 => ?_⟩
      · have h6 : (0 : Int) ≤ ix := of_decide_eq_true h6
        refine OpC.callG rfl rfl rfl rfl rfl rfl (fun _ => Ctr.spread (lname_ok s0 s1 s2 s3 s4 s5 s6 s7 h rd pr ix) (fun ρ => rfl) _ [0, 1] rfl rfl ⟨rfl, rfl, trivial⟩ rfl) ?_
        refine ⟨fun _ => ?_, ⟨fun _ => ?_, ⟨fun _ => ?_, ⟨s_cg (hat _ _ (if_neg h5) (if_pos h6)).symm, _, rfl⟩⟩⟩⟩
        · show 1 + (nmF [s0, s1, s2, s3, s4, s5, s6, s7] ix).length ≤ 9223372036854775807
          omega
        · show ((([91] ++ locF 0) : List UInt8) ++ ([43] ++ Lib.itoa off)).length + ([43] ++ nmF [s0, s1, s2, s3, s4, s5, s6, s7] ix).length ≤ 9223372036854775807
          simp; omega
        · show (((([91] ++ locF 0) : List UInt8) ++ ([43] ++ Lib.itoa off)) ++ ([43] ++ nmF [s0, s1, s2, s3, s4, s5, s6, s7] ix)).length + 1 ≤ 9223372036854775807
          simp; omega
      · have h6 : ¬ (0 : Int) ≤ ix := of_decide_eq_false h6
        refine ⟨fun _ => ?_, ⟨s_cg ?_, _, rfl⟩⟩
        · show ((([91] ++ locF 0) : List UInt8) ++ ([43] ++ Lib.itoa off)).length + 1 ≤ 9223372036854775807
          simp <;> omega
        · rw [hat _ _ (if_neg h5) (if_neg h6), List.append_nil]
          rfl
    · have h5 : (!decide (off = 0)) = false := h5
      have h5 : off = 0 := by simpa using h5
      refine ⟨fun h6 => ?_, fun h6 => ?_⟩
      · have h6 : (0 : Int) ≤ ix := of_decide_eq_true h6
        refine OpC.callG rfl rfl rfl rfl rfl rfl (fun _ => Ctr.spread (lname_ok s0 s1 s2 s3 s4 s5 s6 s7 h rd pr ix) (fun ρ => rfl) _ [0, 1] rfl rfl ⟨rfl, rfl, trivial⟩ rfl) ?_
        refine ⟨fun _ => ?_, ⟨fun _ => ?_, ⟨fun _ => ?_, ⟨s_cg (hat _ _ (if_pos h5) (if_pos h6)).symm, _, rfl⟩⟩⟩⟩
        · show 1 + (nmF [s0, s1, s2, s3, s4, s5, s6, s7] ix).length ≤ 9223372036854775807
          omega
        · show (([91] ++ locF 0) : List UInt8).length + ([43] ++ nmF [s0, s1, s2, s3, s4, s5, s6, s7] ix).length ≤ 9223372036854775807
          simp; omega
        · show ((([91] ++ locF 0) : List UInt8) ++ ([43] ++ nmF [s0, s1, s2, s3, s4, s5, s6, s7] ix)).length + 1 ≤ 9223372036854775807
          simp; omega
      · have h6 : ¬ (0 : Int) ≤ ix := of_decide_eq_false h6
        refine ⟨fun _ => ?_, ⟨s_cg ?_, _, rfl⟩⟩
        · show (([91] ++ locF 0) : List UInt8).length + 1 ≤ 9223372036854775807
          simp <;> omega
        · rw [hat _ _ (if_pos h5) (if_neg h6), List.append_nil, List.append_nil]
          rfl
  · refine ⟨fun _ => by show (0 : Int) ≤ 1 ∧ (1 : Int) ≤ 2 ∧ (2 : Int) ≤ 3; decide, ⟨fun _ => by show (1 : Nat) + 1 ≤ 9223372036854775807; decide, ?_⟩⟩
    refine ⟨fun h5 => ?_, fun h5 => ?_⟩
    · have h5 : (!decide (off = 0)) = true := h5
      have h5 : ¬ off = 0 := by simpa using h5
      refine OpC.callV rfl rfl rfl rfl rfl rfl rfl (fun _ => itoa_ok off (by omega) (by omega)) ?_
      refine ⟨fun _ => ?_, ⟨fun _ => ?_, ?_⟩⟩
      · show 1 + (Lib.itoa off).length ≤ 9223372036854775807
        omega
      · show (([91] ++ locF 1) : List UInt8).length + ([43] ++ Lib.itoa off).length ≤ 9223372036854775807
        simp; omega
      refine ⟨fun h6 => ?_, fun h6 => ?_⟩
      · have h6 : (0 : Int) ≤ ix := of_decide_eq_true h6
        refine OpC.callG rfl rfl rfl rfl rfl rfl (fun _ => Ctr.spread (lname_ok s0 s1 s2 s3 s4 s5 s6 s7 h rd pr ix) (fun ρ => rfl) _ [0, 1] rfl rfl ⟨rfl, rfl, trivial⟩ rfl) ?_
        refine ⟨fun _ => ?_, ⟨fun _ => ?_, ⟨fun _ => ?_, ⟨s_cg (hat _ _ (if_neg h5) (if_pos h6)).symm, _, rfl⟩⟩⟩⟩
        · show 1 + (nmF [s0, s1, s2, s3, s4, s5, s6, s7] ix).length ≤ 9223372036854775807
          omega
        · show ((([91] ++ locF 1) : List UInt8) ++ ([43] ++ Lib.itoa off)).length + ([43] ++ nmF [s0, s1, s2, s3, s4, s5, s6, s7] ix).length ≤ 9223372036854775807
          simp; omega
        · show (((([91] ++ locF 1) : List UInt8) ++ ([43] ++ Lib.itoa off)) ++ ([43] ++ nmF [s0, s1, s2, s3, s4, s5, s6, s7] ix)).length + 1 ≤ 9223372036854775807
          simp; omega
      · have h6 : ¬ (0 : Int) ≤ ix := of_decide_eq_false h6
        refine ⟨fun _ => ?_, ⟨s_cg ?_, _, rfl⟩⟩
        · show ((([91] ++ locF 1) : List UInt8) ++ ([43] ++ Lib.itoa off)).length + 1 ≤ 9223372036854775807
          simp <;> omega
        · rw [hat _ _ (if_neg h5) (if_neg h6), List.append_nil]
          rfl
    · have h5 : (!decide (off = 0)) = false := h5
      have h5 : off = 0 := by simpa using h5
      refine ⟨fun h6 => ?_, fun h6 => ?_⟩
      · have h6 : (0 : Int) ≤ ix := of_decide_eq_true h6
        refine OpC.callG rfl rfl rfl rfl rfl rfl (fun _ => Ctr.spread (lname_ok s0 s1 s2 s3 s4 s5 s6 s7 h rd pr ix) (fun ρ => rfl) _ [0, 1] rfl rfl ⟨rfl, rfl, trivial⟩ rfl) ?_
        refine ⟨fun _ => ?_, ⟨fun _ => ?_, ⟨fun _ => ?_, ⟨s_cg (hat _ _ (if_pos h5) (if_pos h6)).symm, _, rfl⟩⟩⟩⟩
        · show 1 + (nmF [s0, s1, s2, s3, s4, s5, s6, s7] ix).length ≤ 9223372036854775807
          omega
        · show (([91] ++ locF 1) : List UInt8).length + ([43] ++ nmF [s0, s1, s2, s3, s4, s5, s6, s7] ix).length ≤ 9223372036854775807
          simp; omega
        · show ((([91] ++ locF 1) : List UInt8) ++ ([43] ++ nmF [s0, s1, s2, s3, s4, s5, s6, s7] ix)).length + 1 ≤ 9223372036854775807
          simp; omega
      · have h6 : ¬ (0 : Int) ≤ ix := of_decide_eq_false h6
        refine ⟨fun _ => ?_, ⟨s_cg ?_, _, rfl⟩⟩
        · show (([91] ++ locF 1) : List UInt8).length + 1 ≤ 9223372036854775807
          simp <;> omega
        · rw [hat _ _ (if_pos h5) (if_neg h6), List.append_nil, List.append_nil]
          rfl
  · refine ⟨fun _ => by show (0 : Int) ≤ 2 ∧ (2 : Int) ≤ 3 ∧ (3 : Int) ≤ 3; decide, ⟨fun _ => by show (1 : Nat) + 1 ≤ 9223372036854775807; decide, ?_⟩⟩
    refine ⟨fun h5 => ?_, fun h5 => ?_⟩
    · have h5 : (!decide (off = 0)) = true := h5
      have h5 : ¬ off = 0 := by simpa using h5
      refine OpC.callV rfl rfl rfl rfl rfl rfl rfl (fun _ => itoa_ok off (by omega) (by omega)) ?_
      refine ⟨fun _ => ?_, ⟨fun _ => ?_, ?_⟩⟩
      · show 1 + (Lib.itoa off).length ≤ 9223372036854775807
        omega
      · show (([91] ++ locF 2) : List UInt8).length + ([43] ++ Lib.itoa off).length ≤ 9223372036854775807
        simp; omega
      refine ⟨fun h6 => ?_, fun h6 => ?_⟩
      · have h6 : (0 : Int) ≤ ix := of_decide_eq_true h6
        refine OpC.callG rfl rfl rfl rfl rfl rfl (fun _ => Ctr.spread (lname_ok s0 s1 s2 s3 s4 s5 s6 s7 h rd pr ix) (fun ρ => rfl) _ [0, 1] rfl rfl ⟨rfl, rfl, trivial⟩ rfl) ?_
        refine ⟨fun _ => ?_, ⟨fun _ => ?_, ⟨fun _ => ?_, ⟨s_cg (hat _ _ (if_neg h5) (if_pos h6)).symm, _, rfl⟩⟩⟩⟩
        · show 1 + (nmF [s0, s1, s2, s3, s4, s5, s6, s7] ix).length ≤ 9223372036854775807
          omega
        · show ((([91] ++ locF 2) : List UInt8) ++ ([43] ++ Lib.itoa off)).length + ([43] ++ nmF [s0, s1, s2, s3, s4, s5, s6, s7] ix).length ≤ 9223372036854775807
          simp; omega
        · show (((([91] ++ locF 2) : List UInt8) ++ ([43] ++ Lib.itoa off)) ++ ([43] ++ nmF [s0, s1, s2, s3, s4, s5, s6, s7] ix)).length + 1 ≤ 9223372036854775807
          simp; omega
      · have h6 : ¬ (0 : Int) ≤ ix := of_decide_eq_false h6
        refine ⟨fun _ => ?_, ⟨s_cg ?_, _, rfl⟩⟩
        · show ((([91] ++ locF 2) : List UInt8) ++ ([43] ++ Lib.itoa off)).length + 1 ≤ 9223372036854775807
          simp <;> omega
        · rw [hat _ _ (if_neg h5) (if_neg h6), List.append_nil]
          rfl
    · have h5 : (!decide (off = 0)) = false := h5
      have h5 : off = 0 := by simpa using h5
      refine ⟨fun h6 => ?_, fun h6 => ?_⟩
      · have h6 : (0 : Int) ≤ ix := of_decide_eq_true h6
        refine OpC.callG rfl rfl rfl rfl rfl rfl (fun _ => Ctr.spread (lname_ok s0 s1 s2 s3 s4 s5 s6 s7 h rd pr ix) (fun ρ => rfl) _ [0, 1] rfl rfl ⟨rfl, rfl, trivial⟩ rfl) ?_
        refine ⟨fun _ => ?_, ⟨fun _ => ?_, ⟨fun _ => ?_, ⟨s_cg (hat _ _ (if_pos h5) (if_pos h6)).symm, _, rfl⟩⟩⟩⟩
        · show 1 + (nmF [s0, s1, s2, s3, s4, s5, s6, s7] ix).length ≤ 9223372036854775807
          omega
        · show (([91] ++ locF 2) : List UInt8).length + ([43] ++ nmF [s0, s1, s2, s3, s4, s5, s6, s7] ix).length ≤ 9223372036854775807
          simp; omega
        · show ((([91] ++ locF 2) : List UInt8) ++ ([43] ++ nmF [s0, s1, s2, s3, s4, s5, s6, s7] ix)).length + 1 ≤ 9223372036854775807
          simp; omega
      · have h6 : ¬ (0 : Int) ≤ ix := of_decide_eq_false h6
        refine ⟨fun _ => ?_, ⟨s_cg ?_, _, rfl⟩⟩
        · show (([91] ++ locF 2) : List UInt8).length + 1 ≤ 9223372036854775807
          simp <;> omega
        · rw [hat _ _ (if_pos h5) (if_neg h6), List.append_nil, List.append_nil]
          rfl
end SX
end Go.Proofs.YthkedcneehdinaaGreatDoor

/- Words of a text: a number's digits (written by tools/tkb.py). -/
set_option linter.unusedVariables false
set_option maxRecDepth 100000
namespace Go.Proofs.YthkedcneehdinaaGreatDoor
namespace SX
open Go Go.Proofs
def lowI (n : Int) : Int := bits .or .u8 n 32
theorem lower_ok (n : Int) : CtrV Tryz.prog 206 [.i .u8 n] (.i .u8 (lowI n)) := by
  refine Ctr.enterV tabOkF (fn := Tryz.f206) rfl rfl rfl rfl rfl rfl ?_
  exact rfl
/-- A byte's digit, as the program reckons it. -/
def digOk (n : Nat) : Bool :=
  if decide (48 ≤ (n : Int)) && decide ((n : Int) ≤ 57) then decide (IntKind.u8.wrap ((n : Int) - 48) = (digV n : Int))
  else if numB n then (decide (97 ≤ lowI n) && decide (lowI n ≤ 122)) && decide (IntKind.u8.wrap (IntKind.u8.wrap (lowI n - 97) + 10) = (digV n : Int)) else true
theorem digOk_all : ∀ n : Fin 256, digOk n.val = true := by decide +kernel
theorem dig_num {c : UInt8} (h : (decide (48 ≤ (c.toNat : Int)) && decide ((c.toNat : Int) ≤ 57)) = true) : IntKind.u8.wrap ((c.toNat : Int) - 48) = (digV c.toNat : Int) := by
  have := digOk_all ⟨c.toNat, c.toNat_lt⟩
  unfold digOk at this
  simp only [h, if_true, decide_eq_true_eq] at this
  exact this
theorem dig_let {c : UInt8} (hn : numB (c.toNat : Int) = true) (h : (decide (48 ≤ (c.toNat : Int)) && decide ((c.toNat : Int) ≤ 57)) = false) :
    (decide (97 ≤ lowI c.toNat) && decide (lowI c.toNat ≤ 122)) = true ∧ IntKind.u8.wrap (IntKind.u8.wrap (lowI c.toNat - 97) + 10) = (digV c.toNat : Int) := by
  have := digOk_all ⟨c.toNat, c.toNat_lt⟩
  unfold digOk at this
  simp only [h, hn, if_true, Bool.false_eq_true, if_false, Bool.and_eq_true, decide_eq_true_eq] at this
  simp only [Bool.and_eq_true, decide_eq_true_eq]
  exact this
theorem valB_snoc {b : Nat} : ∀ {l : List UInt8} {c : UInt8} {a n : Nat}, valB b l a = some n → valB b (l ++ [c]) a = if digV c.toNat < b then some (n * b + digV c.toNat) else none
  | [], c, a, n, h => by simp only [valB, Option.some.injEq] at h; subst h; simp [valB]
  | x :: l, c, a, n, h => by
    simp only [valB, List.cons_append] at h ⊢
    split at h
    · rename_i hx; rw [if_pos hx]; exact valB_snoc h
    · cases h
theorem valB_none {b : Nat} : ∀ {l r : List UInt8} {a : Nat}, valB b l a = none → valB b (l ++ r) a = none
  | [], r, a, h => by simp [valB] at h
  | x :: l, r, a, h => by
    simp only [valB, List.cons_append] at h ⊢
    split at h
    · rename_i hx; rw [if_pos hx]; exact valB_none h
    · rename_i hx; rw [if_neg hx]
theorem take_snoc {s : List UInt8} {i : Nat} (hi : i < s.length) : s.take (i + 1) = s.take i ++ [s.getD i 0] := by
  rw [List.take_add_one]
  simp [List.getElem?_eq_getElem hi, List.getD_eq_getElem?_getD]
theorem valB_next {b : Nat} {s : List UInt8} {i n : Nat} (hi : i < s.length) (h : valB b (s.take i) 0 = some n) (hd : digV (s.getD i 0).toNat < b) : valB b (s.take (i + 1)) 0 = some (n * b + digV (s.getD i 0).toNat) := by
  rw [take_snoc hi, valB_snoc h, if_pos hd]
theorem valB_bad {b : Nat} {s : List UInt8} {i n : Nat} (hi : i < s.length) (h : valB b (s.take i) 0 = some n) (hd : ¬ digV (s.getD i 0).toNat < b) : valB b s 0 = none := by
  have h1 : valB b (s.take (i + 1)) 0 = none := by rw [take_snoc hi, valB_snoc h, if_neg hd]
  have := valB_none (r := s.drop (i + 1)) h1
  rwa [List.take_append_drop] at this
/-- What ParseUint makes of digits that are few enough. -/
def puF (b : Nat) (s : List UInt8) : Option Nat := if s = [] then none else valB b s 0
def puV : Option Nat → SV
  | some n => .tup [.i .u64 n, .raw .nilIface]
  | none => .tup [.i .u64 0, .iface 213 (.i .i64 2)]
theorem wu64 {x : Int} (h1 : 0 ≤ x) (h2 : x ≤ 18446744073709551615) : IntKind.u64.wrap x = x := IntWalk.u64_in x ⟨h1, h2⟩

set_option maxHeartbeats 4000000 in
theorem ipu10_ok (s : List UInt8) (hn : ∀ c ∈ s, numB (c.toNat : Int) = true) (hl : s.length ≤ 19) : CtrV Tryz.prog 151 [.s s, .i .i64 10, .i .i64 64] (puV (puF 10 s)) := by
  refine Ctr.enterV tabOkF (fn := Tryz.f151) rfl rfl rfl rfl rfl (by unfold puV; split <;> rfl) ?_
  refine ⟨fun h => ?_, fun h => ?_⟩
  · have h : s = [] := of_decide_eq_true h
    subst h; rfl
  have hne : s ≠ [] := of_decide_eq_false h
  have hpu : puF 10 s = valB 10 s 0 := by unfold puF; rw [if_neg hne]
  refine ⟨fun _ => ?_, fun h => absurd h (by decide)⟩
  refine ⟨fun h => absurd h (by decide), fun _ => ?_⟩
  refine ⟨fun h => absurd h (by decide), fun _ => ?_⟩
  refine ⟨fun _ => ?_, fun h => absurd h (by decide)⟩
  refine ⟨fun _ => by decide, ?_⟩
  refine OpC.bytes tabOkF rfl rfl rfl rfl rfl rfl rfl rfl rfl fun ad cap => ?_
  refine WpC.loop tabOkF (β := Nat × Nat) (fun x => x.1 ≤ s.length ∧ valB 10 (s.take x.1) 0 = some x.2 ∧ x.2 < 10 ^ x.1) (fun x => [(13, .i .u64 x.2), (101, .i .i64 x.1), (12, .b false)]) (fun _ => []) (fun x => s.length - x.1) (0, 0) 23384026197294446688723656123004069511501514518720 ⟨Nat.zero_le _, rfl, by decide⟩ ?_ ?_
  · exact ⟨rfl, ⟨⟨rfl, rfl, rfl⟩, ⟨rfl, rfl, rfl⟩, ⟨rfl, rfl, rfl⟩, trivial⟩, ⟨[], rfl⟩, trivial, rfl⟩
  · rintro ⟨i, n⟩ ⟨hi, hv, hlt⟩
    simp only at hi hv hlt
    refine ⟨fun h2 => ?_, fun h2 => ?_⟩
    · have h2 : i < s.length := by
        have h2 : decide ((i : Int) < s.length) = true := h2
        simpa using h2
      have hpw : 10 ^ i ≤ 1000000000000000000 := by
        have : 10 ^ i ≤ 10 ^ 18 := Nat.pow_le_pow_right (by decide) (by omega)
        exact Nat.le_trans this (by decide)
      have hmem : numB ((s.getD i 0).toNat : Int) = true := hn _ (by
        rw [List.getD_eq_getElem?_getD, List.getElem?_eq_getElem h2]; exact List.getElem_mem h2)
      refine ⟨fun _ => ⟨by omega, by omega⟩, ?_⟩
      refine ⟨fun h3 => ?_, fun _ => ?_⟩
      · exfalso
        have h3 : (decide (((s.getD i 0).toNat : Int) = 95) && decide ((10 : Int) = 0)) = true := h3
        simp at h3
      have fin : ∀ D : Int, D = (digV (s.getD i 0).toNat : Int) → digV (s.getD i 0).toNat < 10 → IntKind.u64.wrap (IntKind.u64.wrap ((n : Int) * IntKind.u64.wrap 10) + IntKind.u64.wrap D) = ((n * 10 + digV (s.getD i 0).toNat : Nat) : Int) ∧ IntKind.u64.wrap ((n : Int) * IntKind.u64.wrap 10) = ((n * 10 : Nat) : Int) := by
        intro D hD hd
        have e1 : IntKind.u64.wrap 10 = 10 := rfl
        have e2 : IntKind.u64.wrap ((n : Int) * 10) = (n : Int) * 10 := wu64 (by omega) (by omega)
        have e3 : IntKind.u64.wrap D = D := wu64 (by omega) (by omega)
        rw [e1, e2, e3, wu64 (by omega) (by omega), hD]
        exact ⟨by push_cast; rfl, by push_cast; rfl⟩
      refine ⟨fun h4 => ?_, fun h4 => ?_⟩
      · have h4 : (decide (48 ≤ ((s.getD i 0).toNat : Int)) && decide (((s.getD i 0).toNat : Int) ≤ 57)) = true := h4
        have hD := dig_num h4
        refine ⟨fun h5 => ?_, fun h5 => ?_⟩
        · have h5 : decide (IntKind.u8.wrap 10 ≤ IntKind.u8.wrap (((s.getD i 0).toNat : Int) - 48)) = true := h5
          have h5 := of_decide_eq_true h5
          have e8 : IntKind.u8.wrap 10 = 10 := rfl
          rw [e8, hD] at h5
          show _ = puV (puF 10 s)
          rw [hpu, valB_bad h2 hv (by omega)]
          rfl
        · have h5 : decide (IntKind.u8.wrap 10 ≤ IntKind.u8.wrap (((s.getD i 0).toNat : Int) - 48)) = false := h5
          have h5 := of_decide_eq_false h5
          have e8 : IntKind.u8.wrap 10 = 10 := rfl
          rw [e8, hD] at h5
          have hd : digV (s.getD i 0).toNat < 10 := by omega
          obtain ⟨f1, f2⟩ := fin _ hD hd
          refine ⟨fun h6 => ?_, fun _ => ⟨fun h7 => ?_, fun _ => ?_⟩⟩
          · have h6 : decide ((1844674407370955162 : Int) ≤ n) = true := h6
            have h6 := of_decide_eq_true h6
            omega
          · exfalso
            have h7 : (decide (IntKind.u64.wrap (IntKind.u64.wrap ((n : Int) * IntKind.u64.wrap 10) + IntKind.u64.wrap (IntKind.u8.wrap (((s.getD i 0).toNat : Int) - 48))) < IntKind.u64.wrap ((n : Int) * IntKind.u64.wrap 10)) || decide ((18446744073709551615 : Int) < IntKind.u64.wrap (IntKind.u64.wrap ((n : Int) * IntKind.u64.wrap 10) + IntKind.u64.wrap (IntKind.u8.wrap (((s.getD i 0).toNat : Int) - 48))))) = true := h7
            rw [f1, f2] at h7
            simp only [Bool.or_eq_true, decide_eq_true_eq] at h7
            omega
          · refine ⟨(i + 1, n * 10 + digV (s.getD i 0).toNat), ⟨h2, valB_next h2 hv hd, ?_⟩, by show s.length - (i + 1) < s.length - i; omega, rfl, ⟨⟨?_, rfl, rfl⟩, ⟨?_, rfl, rfl⟩, ⟨rfl, rfl, rfl⟩, trivial⟩, ⟨[], rfl⟩, trivial, rfl⟩
            · show n * 10 + digV (s.getD i 0).toNat < 10 ^ (i + 1)
              rw [Nat.pow_succ]; omega
            · exact congrArg (SV.i .u64) f1
            · show SV.i .i64 (IntKind.i64.wrap ((i : Int) + 1)) = SV.i .i64 ((i + 1 : Nat) : Int)
              rw [w64 (by omega) (by omega)]; rfl
      · have h4 : (decide (48 ≤ ((s.getD i 0).toNat : Int)) && decide (((s.getD i 0).toNat : Int) ≤ 57)) = false := h4
        obtain ⟨hD1, hD⟩ := dig_let hmem h4
        refine OpC.callV rfl rfl rfl rfl rfl rfl rfl (fun _ => lower_ok _) ?_
        refine OpC.callV rfl rfl rfl rfl rfl rfl rfl (fun _ => lower_ok _) ?_
        refine ⟨fun _ => ?_, fun h5 => absurd (hD1.symm.trans h5) (by decide)⟩
        refine OpC.callV rfl rfl rfl rfl rfl rfl rfl (fun _ => lower_ok _) ?_
        refine ⟨fun h5 => ?_, fun h5 => ?_⟩
        · have h5 : decide (IntKind.u8.wrap 10 ≤ IntKind.u8.wrap (IntKind.u8.wrap (lowI ((s.getD i 0).toNat : Int) - 97) + 10)) = true := h5
          have h5 := of_decide_eq_true h5
          have e8 : IntKind.u8.wrap 10 = 10 := rfl
          rw [e8, hD] at h5
          show _ = puV (puF 10 s)
          rw [hpu, valB_bad h2 hv (by omega)]
          rfl
        · have h5 : decide (IntKind.u8.wrap 10 ≤ IntKind.u8.wrap (IntKind.u8.wrap (lowI ((s.getD i 0).toNat : Int) - 97) + 10)) = false := h5
          have h5 := of_decide_eq_false h5
          have e8 : IntKind.u8.wrap 10 = 10 := rfl
          rw [e8, hD] at h5
          have hd : digV (s.getD i 0).toNat < 10 := by omega
          obtain ⟨f1, f2⟩ := fin _ hD hd
          refine ⟨fun h6 => ?_, fun _ => ⟨fun h7 => ?_, fun _ => ?_⟩⟩
          · have h6 : decide ((1844674407370955162 : Int) ≤ n) = true := h6
            have h6 := of_decide_eq_true h6
            omega
          · exfalso
            have h7 : (decide (IntKind.u64.wrap (IntKind.u64.wrap ((n : Int) * IntKind.u64.wrap 10) + IntKind.u64.wrap (IntKind.u8.wrap (IntKind.u8.wrap (lowI ((s.getD i 0).toNat : Int) - 97) + 10))) < IntKind.u64.wrap ((n : Int) * IntKind.u64.wrap 10)) || decide ((18446744073709551615 : Int) < IntKind.u64.wrap (IntKind.u64.wrap ((n : Int) * IntKind.u64.wrap 10) + IntKind.u64.wrap (IntKind.u8.wrap (IntKind.u8.wrap (lowI ((s.getD i 0).toNat : Int) - 97) + 10))))) = true := h7
            rw [f1, f2] at h7
            simp only [Bool.or_eq_true, decide_eq_true_eq] at h7
            omega
          · refine ⟨(i + 1, n * 10 + digV (s.getD i 0).toNat), ⟨h2, valB_next h2 hv hd, ?_⟩, by show s.length - (i + 1) < s.length - i; omega, rfl, ⟨⟨?_, rfl, rfl⟩, ⟨?_, rfl, rfl⟩, ⟨rfl, rfl, rfl⟩, trivial⟩, ⟨[], rfl⟩, trivial, rfl⟩
            · show n * 10 + digV (s.getD i 0).toNat < 10 ^ (i + 1)
              rw [Nat.pow_succ]; omega
            · exact congrArg (SV.i .u64) f1
            · show SV.i .i64 (IntKind.i64.wrap ((i : Int) + 1)) = SV.i .i64 ((i + 1 : Nat) : Int)
              rw [w64 (by omega) (by omega)]; rfl
    · have h2 : i = s.length := by
        have h2 : decide ((i : Int) < s.length) = false := h2
        simp at h2; omega
      subst h2
      rw [List.take_length] at hv
      refine OpC.callV rfl rfl rfl rfl rfl rfl rfl (r := .b true) (fun hg => (by cases hg)) ?_
      refine ⟨fun h => (by cases h), fun _ => ?_⟩
      show _ = puV (puF 10 s)
      rw [hpu, hv]
      rfl

set_option maxHeartbeats 4000000 in
theorem ipu16_ok (s : List UInt8) (hn : ∀ c ∈ s, numB (c.toNat : Int) = true) (hl : s.length ≤ 16) : CtrV Tryz.prog 151 [.s s, .i .i64 16, .i .i64 64] (puV (puF 16 s)) := by
  refine Ctr.enterV tabOkF (fn := Tryz.f151) rfl rfl rfl rfl rfl (by unfold puV; split <;> rfl) ?_
  refine ⟨fun h => ?_, fun h => ?_⟩
  · have h : s = [] := of_decide_eq_true h
    subst h; rfl
  have hne : s ≠ [] := of_decide_eq_false h
  have hpu : puF 16 s = valB 16 s 0 := by unfold puF; rw [if_neg hne]
  refine ⟨fun _ => ?_, fun h => absurd h (by decide)⟩
  refine ⟨fun h => absurd h (by decide), fun _ => ?_⟩
  refine ⟨fun h => absurd h (by decide), fun _ => ?_⟩
  refine ⟨fun h => absurd h (by decide), fun _ => ?_⟩
  refine ⟨fun _ => ?_, fun h => absurd h (by decide)⟩
  refine ⟨fun _ => by decide, ?_⟩
  refine OpC.bytes tabOkF rfl rfl rfl rfl rfl rfl rfl rfl rfl fun ad cap => ?_
  refine WpC.loop tabOkF (β := Nat × Nat) (fun x => x.1 ≤ s.length ∧ valB 16 (s.take x.1) 0 = some x.2 ∧ x.2 < 16 ^ x.1) (fun x => [(13, .i .u64 x.2), (101, .i .i64 x.1), (12, .b false)]) (fun _ => []) (fun x => s.length - x.1) (0, 0) 23384026197294446688723656123004069511501514518720 ⟨Nat.zero_le _, rfl, by decide⟩ ?_ ?_
  · exact ⟨rfl, ⟨⟨rfl, rfl, rfl⟩, ⟨rfl, rfl, rfl⟩, ⟨rfl, rfl, rfl⟩, trivial⟩, ⟨[], rfl⟩, trivial, rfl⟩
  · rintro ⟨i, n⟩ ⟨hi, hv, hlt⟩
    simp only at hi hv hlt
    refine ⟨fun h2 => ?_, fun h2 => ?_⟩
    · have h2 : i < s.length := by
        have h2 : decide ((i : Int) < s.length) = true := h2
        simpa using h2
      have hpw : 16 ^ i ≤ 1152921504606846976 := by
        have : 16 ^ i ≤ 16 ^ 15 := Nat.pow_le_pow_right (by decide) (by omega)
        exact Nat.le_trans this (by decide)
      have hmem : numB ((s.getD i 0).toNat : Int) = true := hn _ (by
        rw [List.getD_eq_getElem?_getD, List.getElem?_eq_getElem h2]; exact List.getElem_mem h2)
      refine ⟨fun _ => ⟨by omega, by omega⟩, ?_⟩
      refine ⟨fun h3 => ?_, fun _ => ?_⟩
      · exfalso
        have h3 : (decide (((s.getD i 0).toNat : Int) = 95) && decide ((16 : Int) = 0)) = true := h3
        simp at h3
      have fin : ∀ D : Int, D = (digV (s.getD i 0).toNat : Int) → digV (s.getD i 0).toNat < 16 → IntKind.u64.wrap (IntKind.u64.wrap ((n : Int) * IntKind.u64.wrap 16) + IntKind.u64.wrap D) = ((n * 16 + digV (s.getD i 0).toNat : Nat) : Int) ∧ IntKind.u64.wrap ((n : Int) * IntKind.u64.wrap 16) = ((n * 16 : Nat) : Int) := by
        intro D hD hd
        have e1 : IntKind.u64.wrap 16 = 16 := rfl
        have e2 : IntKind.u64.wrap ((n : Int) * 16) = (n : Int) * 16 := wu64 (by omega) (by omega)
        have e3 : IntKind.u64.wrap D = D := wu64 (by omega) (by omega)
        rw [e1, e2, e3, wu64 (by omega) (by omega), hD]
        exact ⟨by push_cast; rfl, by push_cast; rfl⟩
      refine ⟨fun h4 => ?_, fun h4 => ?_⟩
      · have h4 : (decide (48 ≤ ((s.getD i 0).toNat : Int)) && decide (((s.getD i 0).toNat : Int) ≤ 57)) = true := h4
        have hD := dig_num h4
        refine ⟨fun h5 => ?_, fun h5 => ?_⟩
        · have h5 : decide (IntKind.u8.wrap 16 ≤ IntKind.u8.wrap (((s.getD i 0).toNat : Int) - 48)) = true := h5
          have h5 := of_decide_eq_true h5
          have e8 : IntKind.u8.wrap 16 = 16 := rfl
          rw [e8, hD] at h5
          show _ = puV (puF 16 s)
          rw [hpu, valB_bad h2 hv (by omega)]
          rfl
        · have h5 : decide (IntKind.u8.wrap 16 ≤ IntKind.u8.wrap (((s.getD i 0).toNat : Int) - 48)) = false := h5
          have h5 := of_decide_eq_false h5
          have e8 : IntKind.u8.wrap 16 = 16 := rfl
          rw [e8, hD] at h5
          have hd : digV (s.getD i 0).toNat < 16 := by omega
          obtain ⟨f1, f2⟩ := fin _ hD hd
          refine ⟨fun h6 => ?_, fun _ => ⟨fun h7 => ?_, fun _ => ?_⟩⟩
          · have h6 : decide ((1152921504606846976 : Int) ≤ n) = true := h6
            have h6 := of_decide_eq_true h6
            omega
          · exfalso
            have h7 : (decide (IntKind.u64.wrap (IntKind.u64.wrap ((n : Int) * IntKind.u64.wrap 16) + IntKind.u64.wrap (IntKind.u8.wrap (((s.getD i 0).toNat : Int) - 48))) < IntKind.u64.wrap ((n : Int) * IntKind.u64.wrap 16)) || decide ((18446744073709551615 : Int) < IntKind.u64.wrap (IntKind.u64.wrap ((n : Int) * IntKind.u64.wrap 16) + IntKind.u64.wrap (IntKind.u8.wrap (((s.getD i 0).toNat : Int) - 48))))) = true := h7
            rw [f1, f2] at h7
            simp only [Bool.or_eq_true, decide_eq_true_eq] at h7
            omega
          · refine ⟨(i + 1, n * 16 + digV (s.getD i 0).toNat), ⟨h2, valB_next h2 hv hd, ?_⟩, by show s.length - (i + 1) < s.length - i; omega, rfl, ⟨⟨?_, rfl, rfl⟩, ⟨?_, rfl, rfl⟩, ⟨rfl, rfl, rfl⟩, trivial⟩, ⟨[], rfl⟩, trivial, rfl⟩
            · show n * 16 + digV (s.getD i 0).toNat < 16 ^ (i + 1)
              rw [Nat.pow_succ]; omega
            · exact congrArg (SV.i .u64) f1
            · show SV.i .i64 (IntKind.i64.wrap ((i : Int) + 1)) = SV.i .i64 ((i + 1 : Nat) : Int)
              rw [w64 (by omega) (by omega)]; rfl
      · have h4 : (decide (48 ≤ ((s.getD i 0).toNat : Int)) && decide (((s.getD i 0).toNat : Int) ≤ 57)) = false := h4
        obtain ⟨hD1, hD⟩ := dig_let hmem h4
        refine OpC.callV rfl rfl rfl rfl rfl rfl rfl (fun _ => lower_ok _) ?_
        refine OpC.callV rfl rfl rfl rfl rfl rfl rfl (fun _ => lower_ok _) ?_
        refine ⟨fun _ => ?_, fun h5 => absurd (hD1.symm.trans h5) (by decide)⟩
        refine OpC.callV rfl rfl rfl rfl rfl rfl rfl (fun _ => lower_ok _) ?_
        refine ⟨fun h5 => ?_, fun h5 => ?_⟩
        · have h5 : decide (IntKind.u8.wrap 16 ≤ IntKind.u8.wrap (IntKind.u8.wrap (lowI ((s.getD i 0).toNat : Int) - 97) + 10)) = true := h5
          have h5 := of_decide_eq_true h5
          have e8 : IntKind.u8.wrap 16 = 16 := rfl
          rw [e8, hD] at h5
          show _ = puV (puF 16 s)
          rw [hpu, valB_bad h2 hv (by omega)]
          rfl
        · have h5 : decide (IntKind.u8.wrap 16 ≤ IntKind.u8.wrap (IntKind.u8.wrap (lowI ((s.getD i 0).toNat : Int) - 97) + 10)) = false := h5
          have h5 := of_decide_eq_false h5
          have e8 : IntKind.u8.wrap 16 = 16 := rfl
          rw [e8, hD] at h5
          have hd : digV (s.getD i 0).toNat < 16 := by omega
          obtain ⟨f1, f2⟩ := fin _ hD hd
          refine ⟨fun h6 => ?_, fun _ => ⟨fun h7 => ?_, fun _ => ?_⟩⟩
          · have h6 : decide ((1152921504606846976 : Int) ≤ n) = true := h6
            have h6 := of_decide_eq_true h6
            omega
          · exfalso
            have h7 : (decide (IntKind.u64.wrap (IntKind.u64.wrap ((n : Int) * IntKind.u64.wrap 16) + IntKind.u64.wrap (IntKind.u8.wrap (IntKind.u8.wrap (lowI ((s.getD i 0).toNat : Int) - 97) + 10))) < IntKind.u64.wrap ((n : Int) * IntKind.u64.wrap 16)) || decide ((18446744073709551615 : Int) < IntKind.u64.wrap (IntKind.u64.wrap ((n : Int) * IntKind.u64.wrap 16) + IntKind.u64.wrap (IntKind.u8.wrap (IntKind.u8.wrap (lowI ((s.getD i 0).toNat : Int) - 97) + 10))))) = true := h7
            rw [f1, f2] at h7
            simp only [Bool.or_eq_true, decide_eq_true_eq] at h7
            omega
          · refine ⟨(i + 1, n * 16 + digV (s.getD i 0).toNat), ⟨h2, valB_next h2 hv hd, ?_⟩, by show s.length - (i + 1) < s.length - i; omega, rfl, ⟨⟨?_, rfl, rfl⟩, ⟨?_, rfl, rfl⟩, ⟨rfl, rfl, rfl⟩, trivial⟩, ⟨[], rfl⟩, trivial, rfl⟩
            · show n * 16 + digV (s.getD i 0).toNat < 16 ^ (i + 1)
              rw [Nat.pow_succ]; omega
            · exact congrArg (SV.i .u64) f1
            · show SV.i .i64 (IntKind.i64.wrap ((i : Int) + 1)) = SV.i .i64 ((i + 1 : Nat) : Int)
              rw [w64 (by omega) (by omega)]; rfl
    · have h2 : i = s.length := by
        have h2 : decide ((i : Int) < s.length) = false := h2
        simp at h2; omega
      subst h2
      rw [List.take_length] at hv
      refine OpC.callV rfl rfl rfl rfl rfl rfl rfl (r := .b true) (fun hg => (by cases hg)) ?_
      refine ⟨fun h => (by cases h), fun _ => ?_⟩
      show _ = puV (puF 16 s)
      rw [hpu, hv]
      rfl
end SX
end Go.Proofs.YthkedcneehdinaaGreatDoor

/- Words of a text: contracts of the library; a number's value. -/
set_option linter.unusedVariables false
set_option maxRecDepth 100000
namespace Go.Proofs.YthkedcneehdinaaGreatDoor
namespace SX
open Go Go.Proofs
theorem grow_zero (w : World) : Sort.grow (w.drewN 0) #[] = w := by simp [Sort.grow, World.drewN]
theorem maxlen_tab : tabs 1 = some (.anyI .i64) := by kernel_rfl
theorem maxlen_cell {w : World} (hT : TabsIn w) : ∃ n, w.cell? ⟨1, 0, none⟩ = some (.int .i64 n) := by
  obtain ⟨n, arr, t, fr, h1, h2⟩ := hT _ _ maxlen_tab
  have h1 : w.heap[1]? = some (.cells arr t fr) := h1
  exact ⟨n, by unfold World.cell?; simp only [h1]; simpa using h2⟩
theorem sIndex_ok (s p : List UInt8) (hs : s.length ≤ 100000) : CtrV Tryz.prog 40 [.s s, .s p] (.i .i64 (Lib.index s p)) :=
  CtrV.of_grow (fn := Tryz.f40) Tryz.func40 rfl rfl (fun m => trivial) rfl fun w hT E m _ => by
    obtain ⟨n, hm⟩ := maxlen_cell hT
    refine (Any.strings_Index Tryz.TIdx ⟨⟨s⟩⟩ ⟨⟨p⟩⟩ n w (by show s.length < 4294967281; omega) hm).mono ?_
    rintro e w' ⟨he, rfl⟩
    exact ⟨he, 0, #[], (grow_zero _).symm⟩
theorem sContains_ok (s p : List UInt8) (hs : s.length ≤ 100000) : CtrV Tryz.prog 87 [.s s, .s p] (.b (Lib.contains s p)) :=
  CtrV.of_grow (fn := Tryz.f87) Tryz.func87 rfl rfl (fun m => trivial) rfl fun w hT E m _ => by
    obtain ⟨n, hm⟩ := maxlen_cell hT
    refine (Any.strings_Contains Tryz.TCon ⟨⟨s⟩⟩ ⟨⟨p⟩⟩ n w (by show s.length < 4294967281; omega) hm).mono ?_
    rintro e w' ⟨he, rfl⟩
    exact ⟨he, 0, #[], (grow_zero _).symm⟩
theorem sIndexByte_ok (s : List UInt8) (c : Int) : CtrV Tryz.prog 47 [.s s, .i .u8 c] (.i .i64 (Lib.indexByte s c.toNat.toUInt8)) :=
  CtrV.of_grow (fn := Tryz.f47) Tryz.func47 rfl rfl (fun m => trivial) rfl fun w hT E m _ => by
    refine (Any.strings_IndexByte Tryz.TIxb ⟨⟨s⟩⟩ c w).mono ?_
    rintro e w' ⟨he, rfl⟩
    exact ⟨he, 0, #[], (grow_zero _).symm⟩
theorem no_mark {s : List UInt8} {c : UInt8} (h : c ∉ s) : Lib.contains s [c] = false := by
  have key : ∀ s : List UInt8, c ∉ s → Lib.indexByte s c = -1 := by
    intro s
    induction s with
    | nil => intro _; rfl
    | cons b l ih =>
      intro h
      simp only [List.mem_cons, not_or] at h
      unfold Lib.indexByte
      have hb : (b == c) = false := by simp; exact fun e => h.1 e.symm
      rw [hb, ih h.2]; rfl
  unfold Lib.contains
  rw [Lib.index_one, key s h]
  rfl
theorem drKeep_no : drKeep = false := rfl
theorem syn_tab : tabs 3 = some .ifc := by kernel_rfl
/-- The error of a text that is no number. -/
theorem toErr_ok (f s : List UInt8) (hs : s.length ≤ 100000) (b k : Int) : Ctr Tryz.prog 152 [.s f, .s s, .i .i64 b, .i .i64 k, .iface 213 (.i .i64 2)] [] (fun r h => (∃ v, r = .iface 215 (.raw v) ∧ cellV v = true) ∧ h = []) := by
  refine ⟨fun C E m w hr ha => ?_⟩
  have hrun : (callFunc 152 (denL E [.s f, .s s, .i .i64 b, .i .i64 k, .iface 213 (.i .i64 2)]).toArray).run Tryz.prog w = .ok (.enter 152 (denL E [.s f, .s s, .i .i64 b, .i .i64 k, .iface 213 (.i .i64 2)]).toArray) w :=
    enters_of Tryz.func152 (by kernel_rfl) rfl _ w
  obtain ⟨tt, v, t, fr, h1⟩ := hr.tabs _ _ syn_tab
  have h1 : w.heap[3]? = some (.cells #[.iface tt v] t fr) := h1
  have hc : w.cell? ⟨3, 0, none⟩ = some (.iface tt v) := by unfold World.cell?; simp only [h1]; rfl
  unfold callX
  rw [hrun]
  refine (AnyPu.strconv_toError_syntax Tryz.TErr ⟨⟨f⟩⟩ ⟨⟨s⟩⟩ b k (.iface tt v) w (by show s.length ≤ 281474976710656; omega) hc (.inr ⟨_, _, rfl⟩)).mono ?_
  rintro e w' ⟨N, rfl, _, _, hw⟩
  refine ⟨_, rfl, .iface 215 (.raw (.pointer (some ⟨N, 0, none⟩))), [], E, m, rfl, ⟨⟨_, rfl, rfl⟩, rfl⟩, ⟨?_, rfl⟩, .refl .., hr.below drKeep_no hw⟩
  simp [Ok, live]
/-- ParseUint's answer. -/
def PuR (x : Option Nat) (r : SV) : Prop :=
  match x with
  | some n => r = .tup [.i .u64 n, .raw .nilIface]
  | none => ∃ v, r = .tup [.i .u64 0, .iface 215 (.raw v)] ∧ cellV v = true
theorem pu_of (b : Nat) (s : List UInt8) (hs : s.length ≤ 100000) (hi : CtrV Tryz.prog 151 [.s s, .i .i64 b, .i .i64 64] (puV (puF b s))) : Ctr Tryz.prog 88 [.s s, .i .i64 b, .i .i64 64] [] (fun r h => PuR (puF b s) r ∧ h = []) := by
  have key : Ctr Tryz.prog 88 [.s s, .i .i64 b, .i .i64 64] [] (fun r h => PuR (puF b s) r ∧ Bnd 0 r) := by
    refine Ctr.enter tabOkF (fn := Tryz.f88) rfl rfl rfl rfl rfl ?_
    cases hx : puF b s with
    | some n =>
      rw [hx] at hi
      refine OpC.callV rfl rfl rfl rfl rfl rfl rfl (fun _ => hi) ?_
      refine ⟨fun h => (by cases h), fun _ => ?_⟩
      exact ⟨rfl, rfl⟩
    | none =>
      rw [hx] at hi
      refine OpC.callV rfl rfl rfl rfl rfl rfl rfl (fun _ => hi) ?_
      refine ⟨fun _ => ?_, fun h => by cases h⟩
      refine OpC.callL rfl rfl rfl rfl [] 0 rfl rfl rfl (toErr_ok [80, 97, 114, 115, 101, 85, 105, 110, 116] s hs b 64) rfl rfl rfl rfl trivial rfl (fun r H' hk => ?_) ?_
      · rw [hk.2]; exact ⟨Nat.le_refl _, Nat.le_refl _⟩
      rintro r H' ⟨⟨v, rfl, hv⟩, rfl⟩
      exact ⟨⟨v, rfl, hv⟩, rfl⟩
  exact key.trim callX_m fun r H1 ⟨h1, h2⟩ => ⟨[], H1, rfl, Nat.zero_le _, trivial, h2, h1, rfl⟩
/-- number's answer. -/
def NumR (x : Option Nat) (r : SV) : Prop :=
  match x with
  | some n => r = .tup [.i .i64 (IntKind.i64.wrap n), .b true]
  | none => ∃ v, r = .tup [.i .i64 v, .b false]
theorem numDs_mem {w : List UInt8} {c : UInt8} (h : c ∈ numDs w) : c ∈ w := by
  unfold numDs at h
  split at h
  · exact List.mem_of_mem_drop h
  · exact h
theorem numDs_len (w : List UInt8) : (numDs w).length ≤ w.length := by
  unfold numDs; split
  · simp
  · exact Nat.le_refl _
theorem pu_any (w : List UInt8) (hn : ∀ c ∈ w, numB (c.toNat : Int) = true) (hl : (numDs w).length ≤ numMost w) : CtrV Tryz.prog 151 [.s (numDs w), .i .i64 (numBase w), .i .i64 64] (puV (puF (numBase w) (numDs w))) := by
  unfold numBase numMost at *
  split at hl
  · rename_i h; simp only [h, if_true]; exact ipu16_ok _ (fun c hc => hn c (numDs_mem hc)) hl
  · rename_i h; simp only [h, if_false]; exact ipu10_ok _ (fun c hc => hn c (numDs_mem hc)) hl
theorem numF_eq {w : List UInt8} (hl : (numDs w).length ≤ numMost w) : numF w = (match puF (numBase w) (numDs w) with | none => none | some n => if n ≤ 9223372036854775808 then some n else none) := by
  unfold numF puF
  rw [if_neg (by omega)]
  split
  · rfl
  · rfl
theorem number_ok (w : List UInt8) (hn : ∀ c ∈ w, numB (c.toNat : Int) = true) (hw : w.length ≤ 10000) : Ctr Tryz.prog 45 [.s w] [] (fun r h => NumR (numF w) r ∧ h = []) := by
  have hnd := numDs_len w
  have hcon : Lib.contains (numDs w) [95] = false := no_mark fun h => by
    have := hn _ (numDs_mem h)
    exact absurd this (by decide)
  have key : Ctr Tryz.prog 45 [.s w] [] (fun r h => NumR (numF w) r ∧ Bnd 0 r) := by
    refine Ctr.enter tabOkF (fn := Tryz.f45) rfl rfl rfl rfl rfl ?_
    refine OpC.callV rfl rfl rfl rfl rfl rfl rfl (fun _ => cutPrefix_ok w [48, 120]) ?_
    cases hx : hexB w with
    | true =>
      have hp : pre w [48, 120] = true := hx
      have hds : cutP w [48, 120] = numDs w := by
        unfold cutP numDs; rw [hp, hx]; simp
      have hb : numBase w = 16 := by unfold numBase; rw [hx]; rfl
      have hm : numMost w = 16 := by unfold numMost; rw [hx]; rfl
      rw [hp, hds]
      refine ⟨fun _ => ?_, fun h => by cases h⟩
      refine OpC.callV rfl rfl rfl rfl rfl rfl rfl (fun _ => sContains_ok (numDs w) [95] (by omega)) ?_
      refine ⟨fun h => ?_, fun h => ?_⟩
      · have h : (decide ((16 : Int) < ((numDs w)).length) || Lib.contains (numDs w) [95]) = true := h
        rw [hcon, Bool.or_false] at h
        have h := of_decide_eq_true h
        have h0 : numF w = none := by unfold numF; rw [if_pos (by rw [hm]; omega)]
        rw [h0]
        exact ⟨⟨0, rfl⟩, rfl⟩
      · have h : (decide ((16 : Int) < ((numDs w)).length) || Lib.contains (numDs w) [95]) = false := h
        rw [hcon, Bool.or_false] at h
        have h := of_decide_eq_false h
        have hl : (numDs w).length ≤ numMost w := by rw [hm]; omega
        have hpu := pu_any w hn hl
        rw [hb] at hpu
        rw [numF_eq hl, hb]
        refine OpC.callL rfl rfl rfl rfl [] 0 rfl rfl rfl (pu_of 16 (numDs w) (by omega) hpu) rfl rfl rfl rfl trivial rfl (fun r H' hk => ?_) ?_
        · rw [hk.2]; exact ⟨Nat.le_refl _, Nat.le_refl _⟩
        rintro r H' ⟨hr, rfl⟩
        cases hx2 : puF 16 (numDs w) with
        | some n =>
          rw [hx2] at hr
          have hr : r = .tup [.i .u64 n, .raw .nilIface] := hr
          subst hr
          refine ⟨?_, rfl⟩
          by_cases h2 : n ≤ 9223372036854775808
          · have e : decide ((n : Int) ≤ 9223372036854775808) = true := decide_eq_true (by omega)
            show NumR (if n ≤ 9223372036854775808 then some n else none) (SV.tup [.i .i64 (IntKind.i64.wrap n), .b (true && decide ((n : Int) ≤ 9223372036854775808))])
            rw [if_pos h2, e]
            rfl
          · have e : decide ((n : Int) ≤ 9223372036854775808) = false := decide_eq_false (by omega)
            show NumR (if n ≤ 9223372036854775808 then some n else none) (SV.tup [.i .i64 (IntKind.i64.wrap n), .b (true && decide ((n : Int) ≤ 9223372036854775808))])
            rw [if_neg h2, e]
            exact ⟨_, rfl⟩
        | none =>
          rw [hx2] at hr
          obtain ⟨v, hr, _⟩ := hr
          subst hr
          exact ⟨⟨_, rfl⟩, rfl⟩
    | false =>
      have hp : pre w [48, 120] = false := hx
      have hds : numDs w = w := by unfold numDs; rw [hx]; rfl
      have hb : numBase w = 10 := by unfold numBase; rw [hx]; rfl
      have hm : numMost w = 19 := by unfold numMost; rw [hx]; rfl
      rw [hp]
      rw [hds] at hcon hnd
      refine ⟨fun h => (by cases h), fun _ => ?_⟩
      refine OpC.callV rfl rfl rfl rfl rfl rfl rfl (fun _ => sContains_ok w [95] (by omega)) ?_
      refine ⟨fun h => ?_, fun h => ?_⟩
      · have h : (decide ((19 : Int) < (w).length) || Lib.contains w [95]) = true := h
        rw [hcon, Bool.or_false] at h
        have h := of_decide_eq_true h
        have h0 : numF w = none := by unfold numF; rw [if_pos (by rw [hm, hds]; omega)]
        rw [h0]
        exact ⟨⟨0, rfl⟩, rfl⟩
      · have h : (decide ((19 : Int) < (w).length) || Lib.contains w [95]) = false := h
        rw [hcon, Bool.or_false] at h
        have h := of_decide_eq_false h
        have hl : (numDs w).length ≤ numMost w := by rw [hm, hds]; omega
        have hpu := pu_any w hn hl
        rw [hb, hds] at hpu
        rw [numF_eq hl, hb, hds]
        refine OpC.callL rfl rfl rfl rfl [] 0 rfl rfl rfl (pu_of 10 w (by omega) hpu) rfl rfl rfl rfl trivial rfl (fun r H' hk => ?_) ?_
        · rw [hk.2]; exact ⟨Nat.le_refl _, Nat.le_refl _⟩
        rintro r H' ⟨hr, rfl⟩
        cases hx2 : puF 10 w with
        | some n =>
          rw [hx2] at hr
          have hr : r = .tup [.i .u64 n, .raw .nilIface] := hr
          subst hr
          refine ⟨?_, rfl⟩
          by_cases h2 : n ≤ 9223372036854775808
          · have e : decide ((n : Int) ≤ 9223372036854775808) = true := decide_eq_true (by omega)
            show NumR (if n ≤ 9223372036854775808 then some n else none) (SV.tup [.i .i64 (IntKind.i64.wrap n), .b (true && decide ((n : Int) ≤ 9223372036854775808))])
            rw [if_pos h2, e]
            rfl
          · have e : decide ((n : Int) ≤ 9223372036854775808) = false := decide_eq_false (by omega)
            show NumR (if n ≤ 9223372036854775808 then some n else none) (SV.tup [.i .i64 (IntKind.i64.wrap n), .b (true && decide ((n : Int) ≤ 9223372036854775808))])
            rw [if_neg h2, e]
            exact ⟨_, rfl⟩
        | none =>
          rw [hx2] at hr
          obtain ⟨v, hr, _⟩ := hr
          subst hr
          exact ⟨⟨_, rfl⟩, rfl⟩
  exact key.trim callX_m fun r H1 ⟨h1, h2⟩ => ⟨[], H1, rfl, Nat.zero_le _, trivial, h2, h1, rfl⟩
end SX
end Go.Proofs.YthkedcneehdinaaGreatDoor

/- Words of a text: the program's Tokens (written by tools/tkd.py). -/
set_option linter.unusedVariables false
set_option maxRecDepth 100000
namespace Go.Proofs.YthkedcneehdinaaGreatDoor
namespace SX
open Go Go.Proofs
theorem tkenc_w (t : Tk) : wdL (tkenc t) = 4 := rfl
def rowK (N : Nat) (ts : List Tk) (ver : Nat) : SB := .mem 42 [.arr N Tk tk0 4 tkenc ts] ver 4
theorem bndTk {M N ver : Nat} {ts : List Tk} : BndB M (rowK N ts ver) := ⟨fun _ => rfl, trivial⟩
theorem mark_all : ∀ n : Fin 256, decide ((0 : Int) ≤ Lib.indexByte marksL (UInt8.ofNat n.val)) = decide (UInt8.ofNat n.val ∈ marksL) := by decide +kernel
theorem mark_ix (c : UInt8) : decide ((0 : Int) ≤ Lib.indexByte marksL ((c.toNat : Int).toNat.toUInt8)) = decide (c ∈ marksL) := by
  have h := mark_all ⟨c.toNat, c.toNat_lt⟩
  have e : UInt8.ofNat c.toNat = c := by simp
  simp only [e] at h
  have e2 : ((c.toNat : Int).toNat.toUInt8) = c := by simp
  rw [e2]; exact h
/-- What Tokens hands back. -/
def TokK (s : List UInt8) (r : SV) (h : List SB) : Prop :=
  (∃ ts ver, tokF s = (ts, 0, 0) ∧ r = .tup [.sl 0 ver 0 ts.length none 0, .i .i64 0, .i .i64 0] ∧ h = [rowK ts.length ts ver]) ∨
  (∃ e p, tokF s = ([], e, p) ∧ e ≠ 0 ∧ r = .tup [.nils, .i .i64 e, .i .i64 p] ∧ h = [])
set_option maxHeartbeats 4000000 in
theorem tokens_ok (s : List UInt8) : Ctr Tryz.prog 13 [.s s] [] (TokK s) := by
  have key : Ctr Tryz.prog 13 [.s s] [] (fun r h => (∃ ts ver Y, tokF s = (ts, 0, 0) ∧ r = .tup [.sl 0 ver 0 ts.length none 0, .i .i64 0, .i .i64 0] ∧ h = rowK ts.length ts ver :: Y) ∨
      (∃ (e : Int) (p : Nat), tokF s = ([], e, (p : Int)) ∧ e ≠ 0 ∧ r = .tup [.nils, .i .i64 e, .i .i64 p])) := by
    refine Ctr.enter tabOkF (fn := Tryz.f13) rfl rfl rfl rfl rfl ?_
    refine ⟨fun h1 => ?_, fun h1 => ?_⟩
    · have h1 : 8192 < s.length := by
        have h1 : decide ((8192 : Int) < s.length) = true := h1
        simp at h1; omega
      exact .inr ⟨2, 0, by unfold tokF; rw [if_pos h1]; rfl, by decide, rfl⟩
    have h1 : s.length ≤ 8192 := by
      have h1 : decide ((8192 : Int) < s.length) = false := h1
      simp at h1; omega
    refine WpC.shift (Shift.row (d := 5) rfl 3 42 [.arr 0 Tk tk0 4 tkenc []] (fun E => rfl) (fun m V => ⟨⟨rfl, rfl, tkenc_w, fun j hj => by omega⟩, trivial⟩)) ?_
    refine WpC.loop tabOkF (β := Nat × Nat × List Tk × Nat × Nat) (fun x => x.1 ≤ s.length ∧ s.length < x.1 + x.2.2.2.2 ∧ tokC s x.2.2.2.2 x.1 x.2.2.1 = tokF s ∧ x.2.1 ≤ x.1 ∧ x.2.2.1.length = x.2.1) (fun x => [(6, .i .i64 x.1), (5, .sl 0 x.2.2.2.1 0 x.2.1 none 0)]) (fun x => [rowK x.2.1 x.2.2.1 x.2.2.2.1]) (fun x => s.length - x.1) (0, 0, [], 0, s.length + 1) 41538374868278621028243970633703420 ⟨Nat.zero_le _, by show s.length < 0 + (s.length + 1); omega, by unfold tokF; rw [if_neg (by omega)], Nat.le_refl _, rfl⟩ ?_ ?_
    · exact ⟨rfl, ⟨⟨rfl, rfl, rfl⟩, ⟨rfl, rfl, rfl⟩, trivial⟩, ⟨[], rfl⟩, ⟨bndTk, trivial⟩, rfl⟩
    · rintro ⟨p, N, ts, ver, f⟩ ⟨hi, hf, hc, hlt, hNt⟩
      simp only at hi hf hc hlt hNt
      refine ⟨fun h2 => ?_, fun h2 => ?_⟩
      · have h2 : p < s.length := by
          have h2 : decide ((p : Int) < s.length) = true := h2
          simpa using h2
        obtain ⟨f', rfl, hstep⟩ := tokC_step (out := ts) h2 hf
        rw [hc] at hstep
        have hX : ((s.take s.length).drop (p : Int).toNat) = s.drop p := by rw [List.take_length]; rfl
        have hXl : ((s.take s.length).drop (p : Int).toNat).length = s.length - p := by rw [hX, List.length_drop]
        have hXne : ((s.take s.length).drop (p : Int).toNat) ≠ [] := fun e => by rw [e] at hXl; simp at hXl; omega
        have hob1 : (0 : Int) ≤ p ∧ (p : Int) ≤ s.length := by omega
        refine ⟨fun _ => hob1, ?_⟩
        have hob2 : (0 : Int) ≤ 0 ∧ (0 : Int) < ((s.take s.length).drop (p : Int).toNat).length := by omega
        refine ⟨fun _ => hob2, ?_⟩
        refine ⟨fun h3 => ?_, fun h3 => ?_⟩
        · have h3 : (decide (cd ((s.take s.length).drop (p : Int).toNat) 0 = 32) || decide (cd ((s.take s.length).drop (p : Int).toNat) 0 = 9) || decide (cd ((s.take s.length).drop (p : Int).toNat) 0 = 10)) = true := h3
          have hst : stepF (s.drop p) p = .skip 1 := by
            unfold stepF
            rw [if_pos (by rw [← hX]; exact h3)]
          rw [hst] at hstep
          have k1 : p + 1 ≤ s.length := by omega
          have k2 : s.length < p + 1 + f' := by omega
          have k3 : N ≤ p + 1 := by omega
          have k4 : s.length - (p + 1) < s.length - p := by omega
          refine ⟨(p + 1, N, ts, ver, f'), ⟨k1, k2, hstep.symm, k3, hNt⟩, k4, rfl, ⟨⟨?_, rfl, rfl⟩, ⟨rfl, rfl, rfl⟩, trivial⟩, ⟨_, rfl⟩, ⟨bndTk, trivial⟩, rfl⟩
          show SV.i .i64 (IntKind.i64.wrap ((p : Int) + 1)) = SV.i .i64 ((p + 1 : Nat) : Int)
          rw [w64 (by omega) (by omega)]; rfl
        have h3 : (decide (cd ((s.take s.length).drop (p : Int).toNat) 0 = 32) || decide (cd ((s.take s.length).drop (p : Int).toNat) 0 = 9) || decide (cd ((s.take s.length).drop (p : Int).toNat) 0 = 10)) = false := h3
        refine OpC.callV rfl rfl rfl rfl rfl rfl rfl (fun _ => hasPrefix_ok ((s.take s.length).drop (p : Int).toNat) [40, 42]) ?_
        refine ⟨fun h4 => ?_, fun h4 => ?_⟩
        · have h4 : pre ((s.take s.length).drop (p : Int).toNat) [40, 42] = true := h4
          have hl2 : 2 ≤ ((s.take s.length).drop (p : Int).toNat).length := pre_len h4
          have hob : (0 : Int) ≤ 2 ∧ (2 : Int) ≤ ((s.take s.length).drop (p : Int).toNat).length := by omega
          refine ⟨fun _ => hob, ?_⟩
          have hY : (((s.take s.length).drop (p : Int).toNat).take ((s.take s.length).drop (p : Int).toNat).length).drop (2 : Int).toNat = (s.drop p).drop 2 := by rw [List.take_length, hX]; rfl
          refine OpC.callV rfl rfl rfl rfl rfl rfl rfl (fun _ => sIndex_ok ((((s.take s.length).drop (p : Int).toNat).take ((s.take s.length).drop (p : Int).toNat).length).drop (2 : Int).toNat) [42, 41] (by rw [hY]; simp; omega)) ?_
          refine ⟨fun h5 => ?_, fun h5 => ?_⟩
          · have h5 : decide (Lib.index ((((s.take s.length).drop (p : Int).toNat).take ((s.take s.length).drop (p : Int).toNat).length).drop (2 : Int).toNat) [42, 41] < 0) = true := h5
            have h5 := of_decide_eq_true h5
            rw [hY] at h5
            have hst : stepF (s.drop p) p = .err 24 := by
              unfold stepF
              rw [if_neg (by rw [← hX, h3]; decide)]
              rw [if_pos (by rw [← hX]; exact h4)]
              rw [if_pos h5]
            rw [hst] at hstep
            exact .inr ⟨24, p, hstep, by decide, rfl⟩
          · have h5 : decide (Lib.index ((((s.take s.length).drop (p : Int).toNat).take ((s.take s.length).drop (p : Int).toNat).length).drop (2 : Int).toNat) [42, 41] < 0) = false := h5
            have h5 := of_decide_eq_false h5
            have hle := Lib.index_le ((((s.take s.length).drop (p : Int).toNat).take ((s.take s.length).drop (p : Int).toNat).length).drop (2 : Int).toNat) [42, 41]
            have hroom := Lib.index_room ((((s.take s.length).drop (p : Int).toNat).take ((s.take s.length).drop (p : Int).toNat).length).drop (2 : Int).toNat) [42, 41] (by omega)
            rw [hY] at h5 hle hroom
            simp only [List.length_drop, List.length_cons, List.length_nil] at hle hroom
            have hst : stepF (s.drop p) p = .skip ((Lib.index ((s.drop p).drop 2) [42, 41]).toNat + 4) := by
              unfold stepF
              rw [if_neg (by rw [← hX, h3]; decide), if_pos (by rw [← hX]; exact h4), if_neg h5]
            rw [hst] at hstep
            have k1 : p + ((Lib.index ((s.drop p).drop 2) [42, 41]).toNat + 4) ≤ s.length := by omega
            have k2 : s.length < p + ((Lib.index ((s.drop p).drop 2) [42, 41]).toNat + 4) + f' := by omega
            have k3 : N ≤ p + ((Lib.index ((s.drop p).drop 2) [42, 41]).toNat + 4) := by omega
            have k4 : s.length - (p + ((Lib.index ((s.drop p).drop 2) [42, 41]).toNat + 4)) < s.length - p := by omega
            refine ⟨(p + ((Lib.index ((s.drop p).drop 2) [42, 41]).toNat + 4), N, ts, ver, f'), ⟨k1, k2, hstep.symm, k3, hNt⟩, k4, rfl, ⟨⟨?_, rfl, rfl⟩, ⟨rfl, rfl, rfl⟩, trivial⟩, ⟨_, rfl⟩, ⟨bndTk, trivial⟩, rfl⟩
            show SV.i .i64 (IntKind.i64.wrap ((p : Int) + IntKind.i64.wrap (Lib.index ((((s.take s.length).drop (p : Int).toNat).take ((s.take s.length).drop (p : Int).toNat).length).drop (2 : Int).toNat) [42, 41] + 4))) = SV.i .i64 ((p + ((Lib.index ((s.drop p).drop 2) [42, 41]).toNat + 4) : Nat) : Int)
            rw [hY, w64 (x := Lib.index ((s.drop p).drop 2) [42, 41] + 4) (by omega) (by omega), w64 (by omega) (by omega)]
            exact i_cg (by omega)
        have h4 : pre ((s.take s.length).drop (p : Int).toNat) [40, 42] = false := h4
        refine OpC.callV rfl rfl rfl rfl rfl rfl rfl (fun _ => digit_ok (cd ((s.take s.length).drop (p : Int).toNat) 0)) ?_
        refine ⟨fun h6 => ?_, fun h6 => ?_⟩
        · have h6 : digB (cd ((s.take s.length).drop (p : Int).toNat) 0) = true := h6
          have hr1 := rowF_le numB ((s.take s.length).drop (p : Int).toNat)
          have hr0 : 0 < rowF numB ((s.take s.length).drop (p : Int).toNat) := rowF_pos hXne (by unfold numB; rw [h6]; simp)
          refine OpC.callV rfl rfl rfl rfl rfl rfl rfl (fun _ => row_ok 43 numB isnum_ok ((s.take s.length).drop (p : Int).toNat) (by omega)) ?_
          have hob : (0 : Int) ≤ (rowF numB ((s.take s.length).drop (p : Int).toNat) : Nat) ∧ ((rowF numB ((s.take s.length).drop (p : Int).toNat) : Nat) : Int) ≤ ((s.take s.length).drop (p : Int).toNat).length := by omega
          refine ⟨fun _ => hob, ?_⟩
          refine OpC.callL rfl rfl rfl rfl [] 0 rfl rfl rfl (number_ok (((s.take s.length).drop (p : Int).toNat).take (rowF numB ((s.take s.length).drop (p : Int).toNat))) (rowF_all numB ((s.take s.length).drop (p : Int).toNat)) (by rw [List.length_take]; omega)) rfl rfl rfl rfl trivial rfl (fun r H' hk => ?_) ?_
          · rw [hk.2]; exact ⟨Nat.le_refl _, Nat.le_refl _⟩
          rintro r H' ⟨hr, rfl⟩
          cases hx : numF (((s.take s.length).drop (p : Int).toNat).take (rowF numB ((s.take s.length).drop (p : Int).toNat))) with
          | none =>
            rw [hx] at hr
            obtain ⟨v, rfl⟩ := hr
            refine ⟨fun _ => ?_, fun h => by cases h⟩
            have hst : stepF (s.drop p) p = .err 23 := by
              unfold stepF
              rw [if_neg (by rw [← hX, h3]; decide)]
              rw [if_neg (by rw [← hX, h4]; decide)]
              rw [if_pos (by rw [← hX]; exact h6)]
              rw [← hX, hx]
            rw [hst] at hstep
            exact .inr ⟨23, p, hstep, by decide, rfl⟩
          | some n =>
            rw [hx] at hr
            have hr : r = .tup [.i .i64 (IntKind.i64.wrap n), .b true] := hr
            subst hr
            refine ⟨fun h => (by cases h), fun _ => ?_⟩
            refine OpC.yld 0 rfl (yld_app_row tabOkF rfl rfl rfl rfl rfl rfl rfl rfl rfl (SrcA.sl rfl rfl rfl rfl (by decide) rfl) (Joins.arrN (y := ⟨2, ((s.take s.length).drop (p : Int).toNat).take (rowF numB ((s.take s.length).drop (p : Int).toNat)), IntKind.i64.wrap n, p⟩) hNt rfl tkenc_w) (by decide) ?_ ?_) (fun d hd => by cases hd; rfl) ?_
            · exact Nat.le_trans (show N + 1 ≤ 10000 by omega) (by decide)
            · show (N + 1) * 40 ≤ 140737488355328
              omega
            have hlen : (⟨2, ((s.take s.length).drop (p : Int).toNat).take (rowF numB ((s.take s.length).drop (p : Int).toNat)), IntKind.i64.wrap n, p⟩ : Tk).s.length ≤ s.length - p := by
              show (List.take _ _).length ≤ _
              rw [List.length_take, hXl]; omega
            have hpos : 0 < (⟨2, ((s.take s.length).drop (p : Int).toNat).take (rowF numB ((s.take s.length).drop (p : Int).toNat)), IntKind.i64.wrap n, p⟩ : Tk).s.length := by
              show 0 < (List.take _ _).length
              rw [List.length_take, hXl]
              omega
            have hst : stepF (s.drop p) p = .tok ⟨2, ((s.take s.length).drop (p : Int).toNat).take (rowF numB ((s.take s.length).drop (p : Int).toNat)), IntKind.i64.wrap n, p⟩ := by
              unfold stepF
              rw [if_neg (by rw [← hX, h3]; decide)]
              rw [if_neg (by rw [← hX, h4]; decide)]
              rw [if_pos (by rw [← hX]; exact h6)]
              rw [← hX, hx]
            rw [hst] at hstep
            have k1 : p + (⟨2, ((s.take s.length).drop (p : Int).toNat).take (rowF numB ((s.take s.length).drop (p : Int).toNat)), IntKind.i64.wrap n, p⟩ : Tk).s.length ≤ s.length := by omega
            have k2 : s.length < p + (⟨2, ((s.take s.length).drop (p : Int).toNat).take (rowF numB ((s.take s.length).drop (p : Int).toNat)), IntKind.i64.wrap n, p⟩ : Tk).s.length + f' := by omega
            have k3 : N + 1 ≤ p + (⟨2, ((s.take s.length).drop (p : Int).toNat).take (rowF numB ((s.take s.length).drop (p : Int).toNat)), IntKind.i64.wrap n, p⟩ : Tk).s.length := by omega
            have k5 : (ts ++ [(⟨2, ((s.take s.length).drop (p : Int).toNat).take (rowF numB ((s.take s.length).drop (p : Int).toNat)), IntKind.i64.wrap n, p⟩ : Tk)]).length = N + 1 := by rw [List.length_append, List.length_singleton]; omega
            have k4 : s.length - (p + (⟨2, ((s.take s.length).drop (p : Int).toNat).take (rowF numB ((s.take s.length).drop (p : Int).toNat)), IntKind.i64.wrap n, p⟩ : Tk).s.length) < s.length - p := by omega
            refine ⟨(p + (⟨2, ((s.take s.length).drop (p : Int).toNat).take (rowF numB ((s.take s.length).drop (p : Int).toNat)), IntKind.i64.wrap n, p⟩ : Tk).s.length, N + 1, ts ++ [⟨2, ((s.take s.length).drop (p : Int).toNat).take (rowF numB ((s.take s.length).drop (p : Int).toNat)), IntKind.i64.wrap n, p⟩], ver + 1, f'), ⟨k1, k2, hstep.symm, k3, k5⟩, k4, rfl, ⟨⟨?_, rfl, rfl⟩, ⟨rfl, rfl, rfl⟩, trivial⟩, ⟨_, rfl⟩, ⟨bndTk, trivial⟩, rfl⟩
            · show SV.i .i64 (IntKind.i64.wrap ((p : Int) + ((⟨2, ((s.take s.length).drop (p : Int).toNat).take (rowF numB ((s.take s.length).drop (p : Int).toNat)), IntKind.i64.wrap n, p⟩ : Tk).s.length : Int))) = SV.i .i64 ((p + (⟨2, ((s.take s.length).drop (p : Int).toNat).take (rowF numB ((s.take s.length).drop (p : Int).toNat)), IntKind.i64.wrap n, p⟩ : Tk).s.length : Nat) : Int)
              rw [w64 (by omega) (by omega)]; rfl
        have h6 : digB (cd ((s.take s.length).drop (p : Int).toNat) 0) = false := h6
        refine OpC.callV rfl rfl rfl rfl rfl rfl rfl (fun _ => letter_ok (cd ((s.take s.length).drop (p : Int).toNat) 0)) ?_
        refine ⟨fun h8 => ?_, fun h8 => ?_⟩
        · have h8 : (letB (cd ((s.take s.length).drop (p : Int).toNat) 0) || decide (cd ((s.take s.length).drop (p : Int).toNat) 0 = 95)) = true := h8
          have hr1 := rowF_le namB ((s.take s.length).drop (p : Int).toNat)
          have hr0 : 0 < rowF namB ((s.take s.length).drop (p : Int).toNat) := rowF_pos hXne (by
            simp only [Bool.or_eq_true] at h8
            unfold namB
            rcases h8 with h8 | h8 <;> rw [h8] <;> simp)
          refine OpC.callV rfl rfl rfl rfl rfl rfl rfl (fun _ => row_ok 46 namB isnam_ok ((s.take s.length).drop (p : Int).toNat) (by omega)) ?_
          have hob : (0 : Int) ≤ (rowF namB ((s.take s.length).drop (p : Int).toNat) : Nat) ∧ ((rowF namB ((s.take s.length).drop (p : Int).toNat) : Nat) : Int) ≤ ((s.take s.length).drop (p : Int).toNat).length := by omega
          refine ⟨fun _ => hob, ?_⟩
          refine OpC.yld 0 rfl (yld_app_row tabOkF rfl rfl rfl rfl rfl rfl rfl rfl rfl (SrcA.sl rfl rfl rfl rfl (by decide) rfl) (Joins.arrN (y := ⟨1, ((s.take s.length).drop (p : Int).toNat).take (rowF namB ((s.take s.length).drop (p : Int).toNat)), 0, p⟩) hNt rfl tkenc_w) (by decide) ?_ ?_) (fun d hd => by cases hd; rfl) ?_
          · exact Nat.le_trans (show N + 1 ≤ 10000 by omega) (by decide)
          · show (N + 1) * 40 ≤ 140737488355328
            omega
          have hlen : (⟨1, ((s.take s.length).drop (p : Int).toNat).take (rowF namB ((s.take s.length).drop (p : Int).toNat)), 0, p⟩ : Tk).s.length ≤ s.length - p := by
            show (List.take _ _).length ≤ _
            rw [List.length_take, hXl]; omega
          have hpos : 0 < (⟨1, ((s.take s.length).drop (p : Int).toNat).take (rowF namB ((s.take s.length).drop (p : Int).toNat)), 0, p⟩ : Tk).s.length := by
            show 0 < (List.take _ _).length
            rw [List.length_take, hXl]
            omega
          have hst : stepF (s.drop p) p = .tok ⟨1, ((s.take s.length).drop (p : Int).toNat).take (rowF namB ((s.take s.length).drop (p : Int).toNat)), 0, p⟩ := by
            unfold stepF
            rw [if_neg (by rw [← hX, h3]; decide)]
            rw [if_neg (by rw [← hX, h4]; decide)]
            rw [if_neg (by rw [← hX, h6]; decide)]
            rw [if_pos (by rw [← hX]; exact h8)]
            rw [← hX]
          rw [hst] at hstep
          have k1 : p + (⟨1, ((s.take s.length).drop (p : Int).toNat).take (rowF namB ((s.take s.length).drop (p : Int).toNat)), 0, p⟩ : Tk).s.length ≤ s.length := by omega
          have k2 : s.length < p + (⟨1, ((s.take s.length).drop (p : Int).toNat).take (rowF namB ((s.take s.length).drop (p : Int).toNat)), 0, p⟩ : Tk).s.length + f' := by omega
          have k3 : N + 1 ≤ p + (⟨1, ((s.take s.length).drop (p : Int).toNat).take (rowF namB ((s.take s.length).drop (p : Int).toNat)), 0, p⟩ : Tk).s.length := by omega
          have k5 : (ts ++ [(⟨1, ((s.take s.length).drop (p : Int).toNat).take (rowF namB ((s.take s.length).drop (p : Int).toNat)), 0, p⟩ : Tk)]).length = N + 1 := by rw [List.length_append, List.length_singleton]; omega
          have k4 : s.length - (p + (⟨1, ((s.take s.length).drop (p : Int).toNat).take (rowF namB ((s.take s.length).drop (p : Int).toNat)), 0, p⟩ : Tk).s.length) < s.length - p := by omega
          refine ⟨(p + (⟨1, ((s.take s.length).drop (p : Int).toNat).take (rowF namB ((s.take s.length).drop (p : Int).toNat)), 0, p⟩ : Tk).s.length, N + 1, ts ++ [⟨1, ((s.take s.length).drop (p : Int).toNat).take (rowF namB ((s.take s.length).drop (p : Int).toNat)), 0, p⟩], ver + 1, f'), ⟨k1, k2, hstep.symm, k3, k5⟩, k4, rfl, ⟨⟨?_, rfl, rfl⟩, ⟨rfl, rfl, rfl⟩, trivial⟩, ⟨_, rfl⟩, ⟨bndTk, trivial⟩, rfl⟩
          · show SV.i .i64 (IntKind.i64.wrap ((p : Int) + ((⟨1, ((s.take s.length).drop (p : Int).toNat).take (rowF namB ((s.take s.length).drop (p : Int).toNat)), 0, p⟩ : Tk).s.length : Int))) = SV.i .i64 ((p + (⟨1, ((s.take s.length).drop (p : Int).toNat).take (rowF namB ((s.take s.length).drop (p : Int).toNat)), 0, p⟩ : Tk).s.length : Nat) : Int)
            rw [w64 (by omega) (by omega)]; rfl
        have h8 : (letB (cd ((s.take s.length).drop (p : Int).toNat) 0) || decide (cd ((s.take s.length).drop (p : Int).toNat) 0 = 95)) = false := h8
        refine OpC.callV rfl rfl rfl rfl rfl rfl rfl (fun _ => hasPrefix_ok ((s.take s.length).drop (p : Int).toNat) [47, 92]) ?_
        refine OpC.callV rfl rfl rfl rfl rfl rfl rfl (fun _ => hasPrefix_ok ((s.take s.length).drop (p : Int).toNat) [92, 47]) ?_
        refine ⟨fun h9 => ?_, fun h9 => ?_⟩
        · have h9 : (pre ((s.take s.length).drop (p : Int).toNat) [47, 92] || pre ((s.take s.length).drop (p : Int).toNat) [92, 47]) = true := h9
          have hl2 : 2 ≤ ((s.take s.length).drop (p : Int).toNat).length := by
            simp only [Bool.or_eq_true] at h9
            rcases h9 with h9 | h9 <;> exact pre_len h9
          have hob : (0 : Int) ≤ 2 ∧ (2 : Int) ≤ ((s.take s.length).drop (p : Int).toNat).length := by omega
          refine WpC.dr tabOkF mixed 0 ?_
          refine ⟨fun _ => hob, ?_⟩
          refine ⟨by kernel_rfl, ?_⟩
          refine OpC.yld 0 rfl (yld_app_row tabOkF rfl rfl rfl rfl rfl rfl rfl rfl rfl (SrcA.sl rfl rfl rfl rfl (by decide) rfl) (Joins.arrN (y := ⟨3, ((s.take s.length).drop (p : Int).toNat).take 2, 0, p⟩) hNt rfl tkenc_w) (by decide) ?_ ?_) (fun d hd => by cases hd; rfl) ?_
          · exact Nat.le_trans (show N + 1 ≤ 10000 by omega) (by decide)
          · show (N + 1) * 40 ≤ 140737488355328
            omega
          have hlen : (⟨3, ((s.take s.length).drop (p : Int).toNat).take 2, 0, p⟩ : Tk).s.length ≤ s.length - p := by
            show (List.take _ _).length ≤ _
            rw [List.length_take, hXl]; omega
          have hpos : 0 < (⟨3, ((s.take s.length).drop (p : Int).toNat).take 2, 0, p⟩ : Tk).s.length := by
            show 0 < (List.take _ _).length
            rw [List.length_take, hXl]
            omega
          have hst : stepF (s.drop p) p = .tok ⟨3, ((s.take s.length).drop (p : Int).toNat).take 2, 0, p⟩ := by
            unfold stepF
            rw [if_neg (by rw [← hX, h3]; decide)]
            rw [if_neg (by rw [← hX, h4]; decide)]
            rw [if_neg (by rw [← hX, h6]; decide)]
            rw [if_neg (by rw [← hX, h8]; decide)]
            rw [if_pos (by rw [← hX]; exact h9)]
            rw [← hX]
          rw [hst] at hstep
          have k1 : p + (⟨3, ((s.take s.length).drop (p : Int).toNat).take 2, 0, p⟩ : Tk).s.length ≤ s.length := by omega
          have k2 : s.length < p + (⟨3, ((s.take s.length).drop (p : Int).toNat).take 2, 0, p⟩ : Tk).s.length + f' := by omega
          have k3 : N + 1 ≤ p + (⟨3, ((s.take s.length).drop (p : Int).toNat).take 2, 0, p⟩ : Tk).s.length := by omega
          have k5 : (ts ++ [(⟨3, ((s.take s.length).drop (p : Int).toNat).take 2, 0, p⟩ : Tk)]).length = N + 1 := by rw [List.length_append, List.length_singleton]; omega
          have k4 : s.length - (p + (⟨3, ((s.take s.length).drop (p : Int).toNat).take 2, 0, p⟩ : Tk).s.length) < s.length - p := by omega
          refine ⟨(p + (⟨3, ((s.take s.length).drop (p : Int).toNat).take 2, 0, p⟩ : Tk).s.length, N + 1, ts ++ [⟨3, ((s.take s.length).drop (p : Int).toNat).take 2, 0, p⟩], ver + 1, f'), ⟨k1, k2, hstep.symm, k3, k5⟩, k4, rfl, ⟨⟨?_, rfl, rfl⟩, ⟨rfl, rfl, rfl⟩, trivial⟩, ⟨_, rfl⟩, ⟨bndTk, trivial⟩, rfl⟩
          · show SV.i .i64 (IntKind.i64.wrap ((p : Int) + ((⟨3, ((s.take s.length).drop (p : Int).toNat).take 2, 0, p⟩ : Tk).s.length : Int))) = SV.i .i64 ((p + (⟨3, ((s.take s.length).drop (p : Int).toNat).take 2, 0, p⟩ : Tk).s.length : Nat) : Int)
            rw [w64 (by omega) (by omega)]; rfl
        have h9 : (pre ((s.take s.length).drop (p : Int).toNat) [47, 92] || pre ((s.take s.length).drop (p : Int).toNat) [92, 47]) = false := h9
        refine OpC.callV rfl rfl rfl rfl rfl rfl rfl (fun _ => sIndexByte_ok marksL (cd ((s.take s.length).drop (p : Int).toNat) 0)) ?_
        have hmk := mark_ix (((s.take s.length).drop (p : Int).toNat).getD 0 0)
        refine ⟨fun h10 => ?_, fun h10 => ?_⟩
        · have h10 : decide ((0 : Int) ≤ Lib.indexByte marksL (cd ((s.take s.length).drop (p : Int).toNat) 0).toNat.toUInt8) = true := h10
          have hk : (s.drop p).getD 0 0 ∈ marksL := by rw [← hX]; exact of_decide_eq_true (hmk.symm.trans h10)
          have hob : (0 : Int) ≤ 1 ∧ (1 : Int) ≤ ((s.take s.length).drop (p : Int).toNat).length := by omega
          refine WpC.dr tabOkF mixed 0 ?_
          refine ⟨fun _ => hob, ?_⟩
          refine ⟨by kernel_rfl, ?_⟩
          refine OpC.yld 0 rfl (yld_app_row tabOkF rfl rfl rfl rfl rfl rfl rfl rfl rfl (SrcA.sl rfl rfl rfl rfl (by decide) rfl) (Joins.arrN (y := ⟨3, ((s.take s.length).drop (p : Int).toNat).take 1, 0, p⟩) hNt rfl tkenc_w) (by decide) ?_ ?_) (fun d hd => by cases hd; rfl) ?_
          · exact Nat.le_trans (show N + 1 ≤ 10000 by omega) (by decide)
          · show (N + 1) * 40 ≤ 140737488355328
            omega
          have hlen : (⟨3, ((s.take s.length).drop (p : Int).toNat).take 1, 0, p⟩ : Tk).s.length ≤ s.length - p := by
            show (List.take _ _).length ≤ _
            rw [List.length_take, hXl]; omega
          have hpos : 0 < (⟨3, ((s.take s.length).drop (p : Int).toNat).take 1, 0, p⟩ : Tk).s.length := by
            show 0 < (List.take _ _).length
            rw [List.length_take, hXl]
            omega
          have hst : stepF (s.drop p) p = .tok ⟨3, ((s.take s.length).drop (p : Int).toNat).take 1, 0, p⟩ := by
            unfold stepF
            rw [if_neg (by rw [← hX, h3]; decide)]
            rw [if_neg (by rw [← hX, h4]; decide)]
            rw [if_neg (by rw [← hX, h6]; decide)]
            rw [if_neg (by rw [← hX, h8]; decide)]
            rw [if_neg (by rw [← hX, h9]; decide)]
            rw [if_pos hk]
            rw [← hX]
          rw [hst] at hstep
          have k1 : p + (⟨3, ((s.take s.length).drop (p : Int).toNat).take 1, 0, p⟩ : Tk).s.length ≤ s.length := by omega
          have k2 : s.length < p + (⟨3, ((s.take s.length).drop (p : Int).toNat).take 1, 0, p⟩ : Tk).s.length + f' := by omega
          have k3 : N + 1 ≤ p + (⟨3, ((s.take s.length).drop (p : Int).toNat).take 1, 0, p⟩ : Tk).s.length := by omega
          have k5 : (ts ++ [(⟨3, ((s.take s.length).drop (p : Int).toNat).take 1, 0, p⟩ : Tk)]).length = N + 1 := by rw [List.length_append, List.length_singleton]; omega
          have k4 : s.length - (p + (⟨3, ((s.take s.length).drop (p : Int).toNat).take 1, 0, p⟩ : Tk).s.length) < s.length - p := by omega
          refine ⟨(p + (⟨3, ((s.take s.length).drop (p : Int).toNat).take 1, 0, p⟩ : Tk).s.length, N + 1, ts ++ [⟨3, ((s.take s.length).drop (p : Int).toNat).take 1, 0, p⟩], ver + 1, f'), ⟨k1, k2, hstep.symm, k3, k5⟩, k4, rfl, ⟨⟨?_, rfl, rfl⟩, ⟨rfl, rfl, rfl⟩, trivial⟩, ⟨_, rfl⟩, ⟨bndTk, trivial⟩, rfl⟩
          · show SV.i .i64 (IntKind.i64.wrap ((p : Int) + ((⟨3, ((s.take s.length).drop (p : Int).toNat).take 1, 0, p⟩ : Tk).s.length : Int))) = SV.i .i64 ((p + (⟨3, ((s.take s.length).drop (p : Int).toNat).take 1, 0, p⟩ : Tk).s.length : Nat) : Int)
            rw [w64 (by omega) (by omega)]; rfl
        · have h10 : decide ((0 : Int) ≤ Lib.indexByte marksL (cd ((s.take s.length).drop (p : Int).toNat) 0).toNat.toUInt8) = false := h10
          have hk : ¬ (s.drop p).getD 0 0 ∈ marksL := by rw [← hX]; exact of_decide_eq_false (hmk.symm.trans h10)
          have hst : stepF (s.drop p) p = .err 20 := by
            unfold stepF
            rw [if_neg (by rw [← hX, h3]; decide)]
            rw [if_neg (by rw [← hX, h4]; decide)]
            rw [if_neg (by rw [← hX, h6]; decide)]
            rw [if_neg (by rw [← hX, h8]; decide)]
            rw [if_neg (by rw [← hX, h9]; decide)]
            rw [if_neg hk]

          rw [hst] at hstep
          exact .inr ⟨20, p, hstep, by decide, rfl⟩
      · have h2 : p = s.length := by
          have h2 : decide ((p : Int) < s.length) = false := h2
          simp at h2; omega
        rw [tokC_end (by omega)] at hc
        subst hNt
        exact .inl ⟨ts, ver, _, hc.symm, rfl, rfl⟩
  exact key.trim callX_m fun r H1 hk => by
    rcases hk with ⟨ts, ver, Y, h1, h2, h3⟩ | ⟨e, p, h1, h2, h3⟩
    · exact ⟨[rowK ts.length ts ver], Y, h3, Nat.zero_le _, ⟨bndTk, trivial⟩, by rw [h2]; rfl, .inl ⟨ts, ver, h1, h2, rfl⟩⟩
    · exact ⟨[], H1, rfl, Nat.zero_le _, trivial, by rw [h3]; rfl, .inr ⟨e, p, h1, h2, h3, rfl⟩⟩
end SX
end Go.Proofs.YthkedcneehdinaaGreatDoor

/- The program's scan.Tokens: its words lie in memory that stays. -/
set_option linter.unusedVariables false
set_option maxRecDepth 100000
namespace Go.Proofs.YthkedcneehdinaaGreatDoor
namespace SX
open Go Go.Proofs
theorem tkw (x : Tk) : wdL (tkenc x) = 4 := rfl
theorem tkok (x : Tk) (m : Mem) : OkL m [] (tkenc x) := by simp [tkenc, OkL, isUnit, Ok]
theorem Rel.gone {E : Env} {C : Fr} {m : Mem} {h : List SB} {w : World} (hr : Rel E C m h w) {k ver : Nat} {B : SB} (hk : h[k]? = some B) (hl : (SB.gone ver).lim = B.lim) : Rel E C m (h.set k (.gone ver)) w := by
  have hvs : vers (h.set k (.gone ver)) = vers h := vers_set (B' := .gone ver) hk hl
  have hkl : k < h.length := (List.getElem?_eq_some_iff.1 hk).1
  have hgk : (h.set k (.gone ver))[k]? = some (.gone ver) := by simp [List.getElem?_set, hkl]
  have hge : ∀ j, j ≠ k → (h.set k (.gone ver))[j]? = h[j]? := fun j hj => List.getElem?_set_ne (Ne.symm hj)
  have hblk : ∀ j b, BlkAt E (h.set k (.gone ver)) j b → j ≠ k ∧ BlkAt E h j b := by
    rintro j b ⟨B', hB', hb⟩
    by_cases hj : j = k
    · subst hj; rw [hgk] at hB'; cases hB'; exact hb.elim
    · rw [hge j hj] at hB'; exact ⟨hj, B', hB', hb⟩
  refine ⟨hr.os, hr.tape, hr.output, hr.im, hr.fr, hr.mf, ?_, ?_, ?_, ?_⟩
  · intro j B' hB'
    by_cases hj : j = k
    · subst hj; rw [hgk] at hB'; cases hB'; trivial
    · rw [hge j hj] at hB'; rw [hvs]; exact hr.bl j B' hB'
  · rw [hvs]; exact hr.nn
  · intro j b hb; exact hr.sp j b (hblk j b hb).2
  · intro i j b h1 h2; exact hr.inj i j b (hblk i b h1).2 (hblk j b h2).2
/-- A row that is handed back, ahead of two numbers, stays. -/
theorem Cp.row3 {α : Type} {d : α} {n : Nat} {enc : α → List SV} {X : List Value → World → (Value → World → Prop) → Prop} (hX : XMono X) {args : List SV} {H : List SB} {ty : TypeId} {g : Nat} (hn : n = g + 1) (hw : ∀ x, wdL (enc x) = n) (hok : ∀ x m, OkL m [] (enc x)) {K : SV → List SB → Prop}
    (h : Cp X args H (fun r h => (∃ (xs : List α) (ver : Nat) (y z : SV), r = .tup [.sl 0 ver 0 xs.length none 0, y, z] ∧ h = [.mem ty [.arr xs.length α d n enc xs] ver n] ∧ ∀ ad cap, K (.tup [.imm α d n enc xs ad cap, y, z]) [.gone ver]) ∨ K r h)) : Cp X args H K := by
  subst hn
  refine ⟨fun C E m w hr ha => hX _ _ _ _ (h.out C E m w hr ha) fun v w' ⟨r, H', E', m', h1, h2, h3, h4, h5⟩ => ?_⟩
  rcases h2 with ⟨xs, ver, y, z, rfl, rfl, hk⟩ | h2
  · have h3 := h3
    simp only [Ok, OkA] at h3
    obtain ⟨⟨⟨_, o1⟩, ⟨ly, o2⟩, ⟨lz, o3⟩, _⟩, _⟩ := h3
    have ht : ∀ vs, den E' (.tup vs) = .tuple (denL E' vs).toArray := fun vs => by simp [den, wrapV, cells]
    by_cases hv : ver = 0
    · subst hv
      simp only [Ok] at o1
      have hl0 : xs = [] := List.eq_nil_of_length_eq_zero (by simpa using o1.2)
      subst hl0
      have e7 : ∃ ad cap, den E' (.sl 0 0 0 ([] : List α).length none 0) = den E' (.imm α d (g + 1) enc ([] : List α) ad cap) := by
        cases he : E' 0 0 with
        | none => exact ⟨none, 0, by simp [den, wrapV, cells, he]⟩
        | some bc => obtain ⟨b, c⟩ := bc; exact ⟨some ⟨b, 0, none⟩, c, by simp [den, wrapV, cells, he]⟩
      obtain ⟨ad, cap, e7⟩ := e7
      refine ⟨_, _, E', m', ?_, hk ad cap, ?_, h4, Rel.gone (k := 0) (ver := 0) h5 rfl rfl⟩
      · rw [h1, ht, ht]
        show Value.tuple (den E' (.sl 0 0 0 ([] : List α).length none 0) :: denL E' [y, z]).toArray = Value.tuple (den E' (.imm α d (g + 1) enc ([] : List α) ad cap) :: denL E' [y, z]).toArray
        rw [e7]
      · refine ⟨?_, rfl⟩
        simp only [Ok, OkA]
        exact ⟨⟨rfl, Nat.zero_le _, fun h => absurd rfl h, hw, fun j hj => absurd hj (Nat.not_lt_zero _)⟩, ⟨ly, o2⟩, ⟨lz, o3⟩, trivial⟩
    · have hrep : Rep E' C m' ⟨[.sl 0 ver 0 xs.length none 0], [.mem ty [.arr xs.length α d (g + 1) enc xs] ver (g + 1)]⟩ ⟨#[den E' (.sl 0 ver 0 xs.length none 0)], []⟩ w' :=
        ⟨rfl, fun q x u hx hu => by
          rcases q with _ | q
          · simp at hx hu; subst hx; subst hu
            exact ⟨by simpa only [Ok] using o1, rfl⟩
          · simp at hx, rfl, h5⟩
      obtain ⟨m2, b, c, e1, e2, e3⟩ := still_base (k := 0) hrep rfl rfl hv hw hok
      obtain ⟨ad, cap, e4⟩ := still_slot (j := 0) (i := 0) (len := xs.length) e2 e3 rfl hw hok (by simp) (by omega)
      have e5 := e4.sl 0 _ _ rfl rfl
      simp only [List.drop_zero, List.take_length] at e5
      have e6 : Ok m2 (vers [SB.gone ver]) (.imm α d (g + 1) enc xs (some ad) cap) ∧ den E' (.sl 0 ver 0 xs.length none 0) = den E' (.imm α d (g + 1) enc xs (some ad) cap) := e5
      refine ⟨_, _, E', m2, ?_, hk (some ad) cap, ?_, h4.trans e1, e4.rel⟩
      · rw [h1, ht, ht]
        show Value.tuple (den E' (.sl 0 ver 0 xs.length none 0) :: denL E' [y, z]).toArray = Value.tuple (den E' (.imm α d (g + 1) enc xs (some ad) cap) :: denL E' [y, z]).toArray
        rw [e6.2]
      · refine ⟨?_, rfl⟩
        simp only [Ok, OkA]
        have k1 := e6.1
        simp only [Ok] at k1
        exact ⟨⟨rfl, k1⟩, ⟨ly, Ok.mono e1.mm y _ _ e1.vv o2⟩, ⟨lz, Ok.mono e1.mm z _ _ e1.vv o3⟩, trivial⟩
  · exact ⟨r, H', E', m', h1, h2, h3, h4, h5⟩
/-- What the words' reader hands back, in memory that stays. -/
def TokI (s : List UInt8) (r : SV) (h : List SB) : Prop :=
  (∃ ts ad cap ver, tokF s = (ts, 0, 0) ∧ r = .tup [.imm Tk tk0 4 tkenc ts ad cap, .i .i64 0, .i .i64 0] ∧ h = [.gone ver]) ∨
  (∃ e p, tokF s = ([], e, p) ∧ e ≠ 0 ∧ r = .tup [.nils, .i .i64 e, .i .i64 p] ∧ h = [])
theorem tokensI_ok (s : List UInt8) : Ctr Tryz.prog 13 [.s s] [] (TokI s) := by
  refine Cp.row3 (α := Tk) (d := tk0) (enc := tkenc) (n := 4) (g := 3) (ty := 42) callX_m rfl tkw tkok ((tokens_ok s).mono callX_m ?_)
  rintro r h (⟨ts, ver, h1, rfl, rfl⟩ | ⟨e, p, h1, he, rfl, rfl⟩)
  · exact .inl ⟨ts, ver, _, _, rfl, rfl, fun ad cap => .inl ⟨ts, ad, cap, ver, h1, rfl, rfl⟩⟩
  · exact .inr (.inr ⟨e, p, h1, he, rfl, rfl⟩)
end SX
end Go.Proofs.YthkedcneehdinaaGreatDoor

/- Is a text one name? -/
set_option linter.unusedVariables false
set_option maxRecDepth 100000
namespace Go.Proofs.YthkedcneehdinaaGreatDoor
namespace SX
open Go Go.Proofs
def namedF (s : List UInt8) : Bool := match tokF s with
  | ([t], e, _) => decide (e = 0) && (decide (t.k = 1) && decide (t.s = s))
  | _ => false
set_option maxHeartbeats 1000000 in
theorem named_ok (s : List UInt8) : CtrV Tryz.prog 83 [.s s] (.b (namedF s)) := by
  refine Ctr.enterV tabOkF (fn := Tryz.f83) rfl rfl rfl rfl rfl rfl ?_
  refine OpC.callL rfl rfl rfl rfl [] 1 rfl rfl rfl (tokensI_ok s) rfl rfl rfl rfl trivial rfl (fun r H' hk => ?_) ?_
  · rcases hk with ⟨ts, ad, cap, B, h1, rfl, rfl⟩ | ⟨e, p, h1, he, rfl, rfl⟩
    · exact ⟨Nat.zero_le _, Nat.le_refl _⟩
    · exact ⟨Nat.zero_le _, Nat.zero_le _⟩
  rintro r H' (⟨ts, ad, cap, B, h1, rfl, rfl⟩ | ⟨e, p, h1, he, rfl, rfl⟩)
  · have hob : ((decide ((0 : Int) = 0) && decide ((ts.length : Int) = 1)) == true) = true → (0 : Int) ≤ 0 ∧ (0 : Int) < (ts.length : Int) := by
      intro hg
      simp at hg
      omega
    refine ⟨hob, ?_⟩
    refine ⟨fun hg => ?_, ?_⟩
    · have hg : ((((decide ((0 : Int) = 0) && decide ((ts.length : Int) = 1)) && decide ((ts.getD 0 tk0).k = 1)) == true)) = true := hg
      simp at hg
      show (0 : Int) ≤ 0 ∧ (0 : Int) < (ts.length : Int)
      omega
    refine b_cg ?_
    show (((decide ((0 : Int) = 0) && decide ((ts.length : Int) = 1)) && decide ((ts.getD 0 tk0).k = 1)) && decide ((ts.getD 0 tk0).s = s)) = namedF s
    unfold namedF
    rw [h1]
    rcases ts with _ | ⟨t, _ | ⟨u, ts⟩⟩
    · simp
    · simp
    · simp
      omega
  · have hb : ((decide (e = 0) && decide ((0 : Int) = 1)) == true) = false := by rw [decide_eq_false he]; rfl
    have hb2 : (((decide (e = 0) && decide ((0 : Int) = 1)) && decide ((0 : Int) = 1)) == true) = false := by rw [decide_eq_false he]; rfl
    refine OpC.skipG rfl hb (.raw (.pointer none)) ?_
    refine OpC.skipG rfl hb (.raw (.pointer none)) ?_
    refine OpC.skipG rfl hb (.i .i64 0) ?_
    refine OpC.skipG rfl hb2 (.raw (.pointer none)) ?_
    refine OpC.skipG rfl hb2 (.raw (.pointer none)) ?_
    refine OpC.skipG rfl hb2 (.s []) ?_
    refine b_cg ?_
    show (((decide (e = 0) && decide ((0 : Int) = 1)) && decide ((0 : Int) = 1)) && decide ([] = s)) = namedF s
    unfold namedF
    rw [h1, decide_eq_false he]
    rfl
end SX
end Go.Proofs.YthkedcneehdinaaGreatDoor

/- Words read as an instruction, plain: the readers' steps, the program's and the reference's; they answer alike. -/
set_option linter.unusedVariables false
set_option maxRecDepth 100000
namespace Go.Proofs.YthkedcneehdinaaGreatDoor
namespace SX
open Go Go.Proofs
/-- A language: its registers, what stands ahead of a number. -/
structure Lg where
  s0 : List UInt8
  s1 : List UInt8
  s2 : List UInt8
  s3 : List UInt8
  s4 : List UInt8
  s5 : List UInt8
  s6 : List UInt8
  s7 : List UInt8
  h : List UInt8
def Lg.ix (L : Lg) (v : List UInt8) : Int := idxF L.s0 L.s1 L.s2 L.s3 L.s4 L.s5 L.s6 L.s7 v
def lgA : Lg := ⟨[88, 48], [88, 49], [88, 50], [88, 51], [88, 52], [88, 53], [88, 54], [88, 55], [35]⟩
/-- A reader's state: where it stands, what is wrong, where. -/
structure RS where
  p : Nat
  e : Int
  q : Int
def tkAt (ts : List Tk) (p : Nat) : Tk := ts.getD p tk0
def whF (ts : List Tk) (p : Nat) : Int := if p < ts.length then (tkAt ts p).a else if ts.length = 0 then 0 else IntKind.i64.wrap ((tkAt ts (ts.length - 1)).a + ((tkAt ts (ts.length - 1)).s.length : Int))
def failF (s : RS) (e q : Int) : RS := if s.e = 0 then ⟨s.p, e, q⟩ else s
def takeB (ts : List Tk) (m : List UInt8) (p : Nat) : Bool := decide (p < ts.length) && (decide ((tkAt ts p).s = m) && !decide ((tkAt ts p).k = 2))
def goF (s : RS) : RS := ⟨s.p + 1, s.e, s.q⟩
def locI (v : List UInt8) : Int := if v = [120] then 0 else if v = [121] then 1 else if v = [122] then 2 else -1
/-! The program's. -/
def missP (ts : List Tk) (s : RS) : RS := if s.p < ts.length then failF s 22 (whF ts s.p) else failF s 24 (whF ts s.p)
def markP (ts : List Tk) (m : List UInt8) (s : RS) : RS := if s.e = 0 then (if takeB ts m s.p then goF s else missP ts s) else s
def wordP (ts : List Tk) (s : RS) : List UInt8 × RS := if s.e = 0 then (if (tkAt ts s.p).k = 1 then ((tkAt ts s.p).s, goF s) else ([], missP ts s)) else ([], s)
def ofP (f : List UInt8 → Int) (ts : List Tk) (s : RS) : Int × RS := if f (wordP ts s).1 < 0 then (0, failF (wordP ts s).2 21 (whF ts s.p)) else (f (wordP ts s).1, (wordP ts s).2)
def regP (L : Lg) (ts : List Tk) (s : RS) : Int × RS := ofP L.ix ts s
def nmP (ts : List Tk) (g : Int) (s : RS) : Int × RS := if (tkAt ts s.p).k = 2 then (IntKind.i64.wrap (g * (tkAt ts s.p).n), goF s) else (0, missP ts s)
def numP (ts : List Tk) (s : RS) : Int × RS := if s.e = 0 then (if takeB ts [45] s.p then nmP ts (-1) (goF s) else nmP ts 1 s) else (0, s)
def immP (L : Lg) (ts : List Tk) (s : RS) : Int × RS := numP ts (if L.h = [] then s else markP ts L.h s)
def nmdB (ts : List Tk) (s : RS) : Bool := decide ((tkAt ts s.p).k = 1)
/-- A register, a number (0: as it was): one of both. -/
def eitP (L : Lg) (ts : List Tk) (s : RS) : (Int × Int) × RS := if nmdB ts s then (((regP L ts s).1, 0), (regP L ts s).2) else ((-1, (immP L ts s).1), (immP L ts s).2)
def ixP (L : Lg) (ts : List Tk) (i : In) (s : RS) : In × RS := ({ i with ix := (regP L ts s).1 }, (regP L ts s).2)
def plusP (L : Lg) (ts : List Tk) (i : In) (s : RS) : In × RS :=
  if (tkAt ts s.p).k = 2 then (if takeB ts [43] (goF s).p then ixP L ts { i with off := (tkAt ts s.p).n } (goF (goF s)) else ({ i with off := (tkAt ts s.p).n }, goF s)) else ixP L ts i s
def memP (L : Lg) (ts : List Tk) (i : In) (z : Int) (s : RS) : In × RS :=
  let w := ofP locI ts (markP ts [91] s)
  let i1 : In := { i with loc := w.1, sz := z }
  let r := if decide (w.2.e = 0) && takeB ts [43] w.2.p then plusP L ts i1 (goF w.2) else (i1, w.2)
  (r.1, markP ts [93] r.2)
/-! The reference's. -/
/-! Both answer alike. -/
theorem failF_e {s : RS} {e q : Int} (he : e ≠ 0) : (failF s e q).e ≠ 0 := by
  unfold failF
  split
  · exact he
  · assumption
theorem miss_e (ts : List Tk) (s : RS) : (missP ts s).e ≠ 0 := by unfold missP; split <;> exact failF_e (by decide)
theorem at_lt {ts : List Tk} {p : Nat} (h : (tkAt ts p).k ≠ 0) : p < ts.length := by
  by_cases hp : p < ts.length
  · exact hp
  · exact absurd (by unfold tkAt; rw [List.getD_eq_getElem?_getD, List.getElem?_eq_none (by omega)]; rfl) h
end SX
end Go.Proofs.YthkedcneehdinaaGreatDoor

/- Words read as an x86 instruction, plain: the program's and the reference's answer alike. -/
set_option linter.unusedVariables false
set_option maxRecDepth 100000
namespace Go.Proofs.YthkedcneehdinaaGreatDoor
namespace SX
open Go Go.Proofs
def none_ (op : Int) : In := ⟨op, -1, -1, -1, 0, 0, 0, -1, 0, 0, false, false, false, 0, 0, 0, false⟩
def in0 : In := ⟨0, 0, 0, 0, 0, 0, 0, 0, 0, 0, false, false, false, 0, 0, 0, false⟩
/-- Ends a text with another one? -/
def sufB (s e : List UInt8) : Bool := decide (e.length ≤ s.length) && decide (s.drop (s.length - e.length) = e)
def cutS (s e : List UInt8) : List UInt8 := if sufB s e then s.take (s.length - e.length) else s
/-- The size that a name's end tells; what stands ahead of it. -/
def sizP (e0 e1 e2 e3 s : List UInt8) : List UInt8 × Int :=
  if sufB s e0 then (cutS s e0, 1) else if sufB s e1 then (cutS s e1, 2) else if sufB s e2 then (cutS s e2, 4) else if sufB s e3 then (cutS s e3, 8) else (s, 0)
def idx6 (s0 s1 s2 s3 s4 s5 v : List UInt8) : Int := if v = s0 then 0 else if v = s1 then 1 else if v = s2 then 2 else if v = s3 then 3 else if v = s4 then 4 else if v = s5 then 5 else -1
/-- What is read: an instruction, is it known, a label. -/
structure Rd where
  i : In
  known : Bool
  lb : List UInt8
/-! The reference's. -/
/-! Names. -/
theorem pre_iff {s h : List UInt8} : pre s h = true ↔ ∃ r, s = h ++ r := by
  unfold pre
  simp only [List.drop_zero, Bool.and_eq_true, decide_eq_true_eq]
  constructor
  · rintro ⟨h1, h2⟩
    exact ⟨s.drop h.length, by conv => lhs; rw [← List.take_append_drop h.length s, h2]⟩
  · rintro ⟨r, rfl⟩
    exact ⟨by simp; omega, by simp⟩
end SX
end Go.Proofs.YthkedcneehdinaaGreatDoor

/- An instruction parsed, plain: from the words to the answer; the program's and the reference's are alike. -/
set_option linter.unusedVariables false
set_option maxRecDepth 100000
namespace Go.Proofs.YthkedcneehdinaaGreatDoor
namespace SX
open Go Go.Proofs
/-- What is answered. -/
structure Pr where
  i : In
  lb : List UInt8
  e : Int
  q : Int
def rs0 : RS := ⟨0, 0, 0⟩
def outF (x : Rd) (s : RS) : Pr := if s.e = 0 then ⟨x.i, x.lb, 0, 0⟩ else ⟨in0, [], s.e, s.q⟩
def moreF (ts : List Tk) (s : RS) : RS := if s.p < ts.length then failF s 25 (whF ts s.p) else s
def endP (ts : List Tk) (first : Int) (x : Rd × RS) : Pr :=
  let s4 := moreF ts (if x.1.known then x.2 else failF x.2 21 first)
  outF x.1 (if rgtF x.1.i 0 1 = 34 then failF s4 34 first else s4)
def parseP (rd : List Tk → List UInt8 → RS → Rd × RS) (ts : List Tk) : Pr := endP ts (whF ts 0) (rd ts (wordP ts rs0).1 (wordP ts rs0).2)
theorem fail_dead {s : RS} (h : ¬ s.e = 0) (e q : Int) : failF s e q = s := by unfold failF; rw [if_neg h]
end SX
end Go.Proofs.YthkedcneehdinaaGreatDoor

/- Words read as a RISC-V instruction, plain: the program's and the reference's answer alike. -/
set_option linter.unusedVariables false
set_option maxRecDepth 100000
namespace Go.Proofs.YthkedcneehdinaaGreatDoor
namespace SX
open Go Go.Proofs
/-! The reference's. -/
/-! Names. -/
end SX
end Go.Proofs.YthkedcneehdinaaGreatDoor

/- Words read as an Arm instruction, plain: the program's and the reference's answer alike. -/
set_option linter.unusedVariables false
set_option maxRecDepth 100000
namespace Go.Proofs.YthkedcneehdinaaGreatDoor
namespace SX
open Go Go.Proofs
def fnA (v : List UInt8) : Int := idx6 [] [65, 68, 68] [83, 85, 66] [69, 79, 82] [65, 78, 68] [79, 82, 82] v
/-- Which barrier; -1: none. -/
def brI (v : List UInt8) : Int := if v = [83, 89] then 0 else if v = [76, 68] then 1 else if v = [83, 84] then 2 else -1
def prA (k : Int) : Int := if k = 1 then 1 else if k = 2 then 2 else 3
def suA (k : Int) : Int := if k = 2 then 2 else 3
def sizA (nm : List UInt8) : List UInt8 × Int := sizP [66] [72] [87] [] nm
def restA (i : In) (rest : List UInt8) (z : Int) : In × Bool :=
  if rest = [] ∨ rest = [65] ∨ rest = [76] ∨ rest = [65, 76] then ({ i with acq := pre rest [65], rel := sufB rest [76], sz := z }, true) else (i, false)
def memA (nm : List UInt8) : In × Bool :=
  let z := sizA nm
  if z.1 = [76, 68, 82] ∨ z.1 = [76, 68, 65, 82] ∨ z.1 = [76, 68, 65, 80, 82] then ({ none_ 4 with acq := decide (z.1 = [76, 68, 65, 82]), wk := decide (z.1 = [76, 68, 65, 80, 82]), sz := z.2 }, true)
  else if z.1 = [83, 84, 82] ∨ z.1 = [83, 84, 76, 82] then ({ none_ 5 with rel := decide (z.1 = [83, 84, 76, 82]), sz := z.2 }, true)
  else if pre z.1 [83, 87, 80] = true then restA { none_ 6 with fn := 6 } (z.1.drop 3) z.2
  else if pre z.1 [76, 68, 65, 68, 68] = true then restA { none_ 6 with fn := 1 } (z.1.drop 5) z.2
  else ({ none_ 6 with fn := 1 }, false)
def readAP (ts : List Tk) (nm : List UInt8) (s : RS) : Rd × RS :=
  if nm = [77, 79, 86] then
    let r := regP lgA ts s
    let w := eitP lgA ts (markP ts [44] r.2)
    (⟨{ none_ (if 0 ≤ w.1.1 then 2 else 1) with dst := r.1, a := w.1.1, imm := w.1.2 }, true, []⟩, w.2)
  else if 0 < fnA nm then
    let r := regP lgA ts s
    let v := regP lgA ts (markP ts [44] r.2)
    let w := eitP lgA ts (markP ts [44] v.2)
    (⟨{ none_ 3 with dst := r.1, fn := fnA nm, a := v.1, b := w.1.1, imm := w.1.2 }, true, []⟩, w.2)
  else if nm = [68, 77, 66] then
    let w := ofP brI ts s
    (⟨{ none_ 7 with pr := prA w.1, su := suA w.1 }, true, []⟩, w.2)
  else if nm = [73, 83, 66] then (⟨none_ 8, true, []⟩, s)
  else if nm = [67, 66, 90] ∨ nm = [67, 66, 78, 90] then
    let r := regP lgA ts s
    let w := wordP ts (markP ts [44] r.2)
    (⟨{ none_ 9 with a := r.1, ze := decide (nm = [67, 66, 90]) }, true, w.1⟩, w.2)
  else if (memA nm).2 = true then
    if (memA nm).1.op = 4 then
      let r := regP lgA ts s
      let m := memP lgA ts { (memA nm).1 with dst := r.1 } (memA nm).1.sz (markP ts [44] r.2)
      (⟨m.1, true, []⟩, m.2)
    else if (memA nm).1.op = 5 then
      let r := regP lgA ts s
      let m := memP lgA ts { (memA nm).1 with a := r.1 } (memA nm).1.sz (markP ts [44] r.2)
      (⟨m.1, true, []⟩, m.2)
    else
      let r := regP lgA ts s
      let v := regP lgA ts (markP ts [44] r.2)
      let m := memP lgA ts { (memA nm).1 with a := r.1, dst := v.1 } (memA nm).1.sz (markP ts [44] v.2)
      (⟨m.1, true, []⟩, m.2)
  else (⟨(memA nm).1, false, []⟩, s)
/-! The reference's. -/
/-! Names. -/
end SX
end Go.Proofs.YthkedcneehdinaaGreatDoor

/- Words of a text: what each of them is like. -/
set_option linter.unusedVariables false
set_option maxRecDepth 100000
namespace Go.Proofs.YthkedcneehdinaaGreatDoor
namespace SX
open Go Go.Proofs
theorem cd_take {s : List UInt8} {n : Nat} (h : 0 < n) : cd (s.take n) 0 = cd s 0 := by
  unfold cd
  rw [List.getD_eq_getElem?_getD, List.getElem?_take_of_lt h, List.getD_eq_getElem?_getD]
end SX
end Go.Proofs.YthkedcneehdinaaGreatDoor

/- Words of a text that is put together: what they are. -/
set_option linter.unusedVariables false
set_option maxRecDepth 100000
namespace Go.Proofs.YthkedcneehdinaaGreatDoor
namespace SX
open Go Go.Proofs
def nmB (w : List UInt8) : Bool := (w.all fun c => namB (c.toNat : Int)) && (letB (cd w 0) || decide (cd w 0 = 95))
def stopB (p : Int → Bool) : List UInt8 → Bool
  | [] => true
  | c :: _ => !p (c.toNat : Int)
def mkB (c : UInt8) : Bool := decide (c ∈ ([36, 35, 91, 93, 43, 45, 44] : List UInt8))
/-- What a word is, without its place. -/
abbrev Ky := Int × List UInt8 × Int
def key (t : Tk) : Ky := (t.k, t.s, t.n)
inductive Toks : List UInt8 → List Ky → Prop
  | nil : Toks [] []
  | sp {r : List UInt8} {ks : List Ky} : Toks r ks → Toks (32 :: r) ks
  | nam {w r : List UInt8} {ks : List Ky} : nmB w = true → stopB namB r = true → Toks r ks → Toks (w ++ r) ((1, w, 0) :: ks)
  | num {w r : List UInt8} {n : Nat} {ks : List Ky} : (w.all fun c => numB (c.toNat : Int)) = true → digB (cd w 0) = true → stopB numB r = true → numF w = some n → Toks r ks → Toks (w ++ r) ((2, w, IntKind.i64.wrap n) :: ks)
  | mrk {c : UInt8} {r : List UInt8} {ks : List Ky} : mkB c = true → Toks r ks → Toks (c :: r) ((3, [c], 0) :: ks)
theorem rowF_app {p : Int → Bool} : ∀ {w r : List UInt8}, (w.all fun c => p (c.toNat : Int)) = true → stopB p r = true → rowF p (w ++ r) = w.length
  | [], [], _, _ => rfl
  | [], c :: r, _, h => by
    have h : p (c.toNat : Int) = false := by simpa [stopB] using h
    simp [rowF, h]
  | c :: w, r, h, hs => by
    simp only [List.all_cons, Bool.and_eq_true] at h
    simp only [List.cons_append, rowF, h.1, if_true, List.length_cons, rowF_app h.2 hs]
theorem cd_app {w r : List UInt8} (h : w ≠ []) : cd (w ++ r) 0 = cd w 0 := by
  match w, h with
  | c :: w, _ => rfl
theorem pre_head {s : List UInt8} {x : List UInt8} {a : UInt8} (h : cd s 0 ≠ (a.toNat : Int)) : pre s (a :: x) = false := by
  cases hq : pre s (a :: x) with
  | false => rfl
  | true =>
    obtain ⟨r, rfl⟩ := pre_iff.1 hq
    exact absurd rfl h
theorem nm_ne {w : List UInt8} (h : nmB w = true) : w ≠ [] := by rintro rfl; exact absurd h (by decide)
theorem let_range {n : Int} (h : letB n = true ∨ n = 95) : (97 ≤ n ∧ n ≤ 122) ∨ (65 ≤ n ∧ n ≤ 90) ∨ n = 95 := by
  rcases h with h | h
  · unfold letB at h
    simp only [Bool.or_eq_true, Bool.and_eq_true, decide_eq_true_eq] at h
    omega
  · omega
theorem let_rest {n : Int} (h : (97 ≤ n ∧ n ≤ 122) ∨ (65 ≤ n ∧ n ≤ 90) ∨ n = 95) : (decide (n = 32) || decide (n = 9) || decide (n = 10)) = false ∧ n ≠ 40 ∧ digB n = false := by
  refine ⟨?_, by omega, ?_⟩
  · rw [decide_eq_false (by omega), decide_eq_false (by omega), decide_eq_false (by omega)]; rfl
  · unfold digB
    rcases h with h | h | h
    · rw [decide_eq_false (show ¬ n ≤ 57 by omega), Bool.and_false]
    · rw [decide_eq_false (show ¬ n ≤ 57 by omega), Bool.and_false]
    · subst h; rfl
theorem step_nam {w r : List UInt8} {p : Nat} (h : nmB w = true) (hs : stopB namB r = true) : stepF (w ++ r) p = .tok ⟨1, w, 0, p⟩ := by
  have hne := nm_ne h
  unfold nmB at h
  simp only [Bool.and_eq_true, Bool.or_eq_true, decide_eq_true_eq] at h
  obtain ⟨h1, h2⟩ := h
  obtain ⟨g1, g2, g3⟩ := let_rest (let_range h2)
  unfold stepF
  rw [cd_app hne, g1, pre_head (a := 40) (x := [42]) (by rw [cd_app hne]; exact g2), g3]
  have h3 : (letB (cd w 0) || decide (cd w 0 = 95)) = true := by simpa using h2
  rw [h3, rowF_app h1 hs]
  simp
theorem step_num {w r : List UInt8} {p n : Nat} (h : (w.all fun c => numB (c.toNat : Int)) = true) (hd : digB (cd w 0) = true) (hs : stopB numB r = true) (hn : numF w = some n) : stepF (w ++ r) p = .tok ⟨2, w, IntKind.i64.wrap n, p⟩ := by
  have hne : w ≠ [] := by rintro rfl; exact absurd hd (by decide)
  have hr : 48 ≤ cd w 0 ∧ cd w 0 ≤ 57 := by
    unfold digB at hd
    simpa using hd
  unfold stepF
  rw [cd_app hne, pre_head (a := 40) (x := [42]) (by rw [cd_app hne]; show cd w 0 ≠ 40; omega), hd, rowF_app h hs]
  rw [decide_eq_false (show ¬ cd w 0 = 32 by omega), decide_eq_false (show ¬ cd w 0 = 9 by omega), decide_eq_false (show ¬ cd w 0 = 10 by omega)]
  rw [List.take_left, hn]
  rfl
theorem step_mrk {c : UInt8} {r : List UInt8} {p : Nat} (h : mkB c = true) : stepF (c :: r) p = .tok ⟨3, [c], 0, p⟩ := by
  unfold mkB at h
  simp only [decide_eq_true_eq, List.mem_cons, List.not_mem_nil, or_false] at h
  have key : ∀ x : UInt8, cd (x :: r) 0 = (x.toNat : Int) := fun x => rfl
  unfold stepF
  rcases h with rfl | rfl | rfl | rfl | rfl | rfl | rfl
  all_goals
    rw [pre_head (a := 40) (x := [42]) (by rw [key]; decide), pre_head (a := 47) (x := [92]) (by rw [key]; decide), pre_head (a := 92) (x := [47]) (by rw [key]; decide)]
    rfl
theorem step_sp {r : List UInt8} {p : Nat} : stepF (32 :: r) p = .skip 1 := rfl
theorem toks_tokC {x : List UInt8} {ks : List Ky} (h : Toks x ks) : ∀ {s : List UInt8} {f p : Nat} {out : List Tk}, s.drop p = x → p ≤ s.length → s.length < p + f → ∃ ts : List Tk, tokC s f p out = (out ++ ts, 0, 0) ∧ ts.map key = ks := by
  induction h with
  | nil =>
    intro s f p out hx hp hf
    have : s.length ≤ p := by
      have := congrArg List.length hx
      simp at this; omega
    exact ⟨[], by rw [tokC_end this, List.append_nil], rfl⟩
  | sp _ ih =>
    rename_i r ks _
    intro s f p out hx hp hf
    have hl : p < s.length := by
      have := congrArg List.length hx
      simp at this; omega
    obtain ⟨f', rfl, hst⟩ := tokC_step (out := out) hl hf
    rw [hx, step_sp] at hst
    have hd : s.drop (p + 1) = r := by rw [← List.drop_drop, hx]; rfl
    obtain ⟨ts, h1, h2⟩ := ih (s := s) (f := f') (p := p + 1) (out := out) hd hl (by omega)
    exact ⟨ts, hst.trans h1, h2⟩
  | nam hw hs _ ih =>
    rename_i w r ks _
    intro s f p out hx hp hf
    have hwl : 0 < w.length := List.length_pos_iff.2 (nm_ne hw)
    have hl : p + w.length ≤ s.length := by
      have := congrArg List.length hx
      simp at this; omega
    obtain ⟨f', rfl, hst⟩ := tokC_step (out := out) (by omega) hf
    rw [hx, step_nam hw hs] at hst
    have hd : s.drop (p + w.length) = r := by rw [← List.drop_drop, hx, List.drop_left]
    obtain ⟨ts, h1, h2⟩ := ih (s := s) (f := f') (p := p + w.length) (out := out ++ [⟨1, w, 0, p⟩]) hd hl (by omega)
    exact ⟨⟨1, w, 0, p⟩ :: ts, by rw [hst]; simpa using h1, by simp [h2, key]⟩
  | num hw hd0 hs hn _ ih =>
    rename_i w r n ks _
    intro s f p out hx hp hf
    have hwl : 0 < w.length := List.length_pos_iff.2 (by rintro rfl; exact absurd hd0 (by decide))
    have hl : p + w.length ≤ s.length := by
      have := congrArg List.length hx
      simp at this; omega
    obtain ⟨f', rfl, hst⟩ := tokC_step (out := out) (by omega) hf
    rw [hx, step_num hw hd0 hs hn] at hst
    have hd : s.drop (p + w.length) = r := by rw [← List.drop_drop, hx, List.drop_left]
    obtain ⟨ts, h1, h2⟩ := ih (s := s) (f := f') (p := p + w.length) (out := out ++ [⟨2, w, IntKind.i64.wrap n, p⟩]) hd hl (by omega)
    exact ⟨⟨2, w, IntKind.i64.wrap n, p⟩ :: ts, by rw [hst]; simpa using h1, by simp [h2, key]⟩
  | mrk hc _ ih =>
    rename_i c r ks _
    intro s f p out hx hp hf
    have hl : p + 1 ≤ s.length := by
      have := congrArg List.length hx
      simp at this; omega
    obtain ⟨f', rfl, hst⟩ := tokC_step (out := out) (by omega) hf
    rw [hx, step_mrk hc] at hst
    have hd : s.drop (p + 1) = r := by rw [← List.drop_drop, hx]; rfl
    obtain ⟨ts, h1, h2⟩ := ih (s := s) (f := f') (p := p + 1) (out := out ++ [⟨3, [c], 0, p⟩]) hd hl (by omega)
    exact ⟨⟨3, [c], 0, p⟩ :: ts, by rw [hst]; simpa using h1, by simp [h2, key]⟩
theorem toks_tokF {s : List UInt8} {ks : List Ky} (h : Toks s ks) (hl : s.length ≤ 8192) : ∃ ts : List Tk, tokF s = (ts, 0, 0) ∧ ts.map key = ks := by
  obtain ⟨ts, h1, h2⟩ := toks_tokC h (s := s) (f := s.length + 1) (p := 0) (out := []) rfl (Nat.zero_le _) (by omega)
  exact ⟨ts, by unfold tokF; rw [if_neg (by omega), h1]; rfl, h2⟩
/-! Digits. -/
theorem dec_all (u : Nat) : ∀ c ∈ Lib.decDigits u, 48 ≤ c.toNat ∧ c.toNat ≤ 57 := by
  induction u using Nat.strongRecOn with
  | _ u ih =>
    intro c hc
    have hd : ∀ d, d < 10 → (UInt8.ofNat (48 + d)).toNat = 48 + d := fun d hd => UInt8.toNat_ofNat_of_lt' (by show 48 + d < 256; omega)
    rw [Lib.decDigits] at hc
    split at hc
    · rename_i h
      rw [List.mem_singleton] at hc
      rw [hc, hd u h]; omega
    · rcases List.mem_append.1 hc with hc | hc
      · exact ih (u / 10) (by omega) c hc
      · rw [List.mem_singleton] at hc
        rw [hc, hd _ (Nat.mod_lt _ (by decide))]
        have := Nat.mod_lt u (show 10 > 0 by decide)
        omega
theorem dec_ne (u : Nat) : Lib.decDigits u ≠ [] := by
  rw [Lib.decDigits]
  split <;> simp
theorem valB_app {b : Nat} : ∀ (xs : List UInt8) (c : UInt8) (n : Nat), valB b (xs ++ [c]) n = (match valB b xs n with | none => none | some m => if digV c.toNat < b then some (m * b + digV c.toNat) else none)
  | [], c, n => by simp only [List.nil_append, valB]
  | x :: xs, c, n => by
    simp only [List.cons_append, valB]
    split
    · exact valB_app xs c _
    · rfl
theorem dec_val (u : Nat) : valB 10 (Lib.decDigits u) 0 = some u := by
  induction u using Nat.strongRecOn with
  | _ u ih =>
    have hd : ∀ d, d < 10 → digV (UInt8.ofNat (48 + d)).toNat = d := fun d hd => by
      have e : (UInt8.ofNat (48 + d)).toNat = 48 + d := UInt8.toNat_ofNat_of_lt' (by show 48 + d < 256; omega)
      rw [e]; unfold digV; rw [if_pos (by omega)]; omega
    rw [Lib.decDigits]
    split
    · rename_i h
      simp only [valB]
      rw [hd u h, if_pos h, Nat.zero_mul, Nat.zero_add]
    · rw [valB_app, ih (u / 10) (by omega)]
      have h1 := Nat.mod_lt u (show 10 > 0 by decide)
      dsimp only
      rw [hd _ h1, if_pos h1]
      congr 1; omega
theorem nDig_le : ∀ (k u : Nat), u < 10 ^ (k + 1) → Lib.nDigits u ≤ k + 1
  | 0, u, h => by rw [Lib.nDigits_small (by simpa using h)]; exact Nat.le_refl _
  | k + 1, u, h => by
    by_cases h0 : u < 10
    · rw [Lib.nDigits_small h0]; omega
    · rw [Lib.nDigits_big h0]
      rw [Nat.pow_succ] at h
      have := nDig_le k (u / 10) (by omega)
      omega
theorem dec_num {u : Nat} (h : u ≤ 9223372036854775808) : numF (Lib.decDigits u) = some u := by
  have hx : hexB (Lib.decDigits u) = false := by
    cases hq : hexB (Lib.decDigits u) with
    | false => rfl
    | true =>
      obtain ⟨r, hr⟩ := pre_iff.1 hq
      have := dec_all u 120 (by rw [hr]; simp)
      exact absurd this.2 (by decide)
  have hl : (Lib.decDigits u).length ≤ 19 := by
    rw [Lib.decDigits_length]
    exact nDig_le 18 u (Nat.lt_of_le_of_lt h (by decide))
  unfold numF numMost numDs numBase
  rw [hx]
  simp only [Bool.false_eq_true, if_false]
  rw [if_neg (by omega), if_neg (dec_ne u), dec_val]
  dsimp only
  rw [if_pos h]
theorem toks_dec {u : Nat} (hn : u ≤ 9223372036854775808) {r : List UInt8} {ks : List Ky} (hs : stopB numB r = true) (h : Toks r ks) : Toks (Lib.decDigits u ++ r) ((2, Lib.decDigits u, IntKind.i64.wrap u) :: ks) := by
  have ha := dec_all u
  have hd : ∀ c ∈ Lib.decDigits u, digB (c.toNat : Int) = true := fun c hc => by
    obtain ⟨h1, h2⟩ := ha c hc
    unfold digB
    rw [decide_eq_true (by omega), decide_eq_true (by omega)]; rfl
  refine .num ?_ ?_ hs (dec_num hn) h
  · refine List.all_eq_true.2 fun c hc => ?_
    unfold numB
    rw [hd c hc, Bool.or_true]
  · have hne := dec_ne u
    match hq : Lib.decDigits u, hne with
    | c :: r', _ => exact hd c (by rw [hq]; simp)
/-- A number's words. -/
def numK (n : Int) : List Ky := if n < 0 then [(3, [45], 0), (2, Lib.decDigits n.natAbs, IntKind.i64.wrap n.natAbs)] else [(2, Lib.decDigits n.toNat, IntKind.i64.wrap n.toNat)]
theorem toks_itoa {n : Int} (h1 : -9223372036854775808 ≤ n) (h2 : n ≤ 9223372036854775807) {r : List UInt8} {ks : List Ky} (hs : stopB numB r = true) (h : Toks r ks) : Toks (Lib.itoa n ++ r) (numK n ++ ks) := by
  unfold Lib.itoa numK
  split
  · exact .mrk (c := 45) (by decide) (toks_dec (by omega) hs h)
  · exact toks_dec (by omega) hs h
theorem step_skip {s : List UInt8} {p n : Nat} (h : stepF s p = .skip n) : 1 ≤ n := by
  unfold stepF at h
  split at h
  · cases h; exact Nat.le_refl _
  split at h
  · split at h <;> cases h
    omega
  split at h
  · split at h <;> cases h
  split at h
  · cases h
  split at h
  · cases h
  split at h <;> cases h
theorem step_len {s : List UInt8} {p : Nat} {t : Tk} (h : stepF s p = .tok t) : t.s.length ≤ s.length := by
  unfold stepF at h
  split at h
  · cases h
  split at h
  · split at h <;> cases h
  split at h
  · split at h <;> cases h
    exact List.length_take_le' _ _
  split at h
  · cases h; exact List.length_take_le' _ _
  split at h
  · cases h; exact List.length_take_le' _ _
  split at h
  · cases h; exact List.length_take_le' _ _
  · cases h
theorem step_name {s : List UInt8} {p : Nat} {t : Tk} (h : stepF s p = .tok t) (hk : t.k = 1) (hs : t.s = s) (hne : 0 < s.length) : nmB s = true := by
  unfold stepF at h
  split at h
  · cases h
  split at h
  · split at h <;> cases h
  split at h
  · split at h <;> cases h
    exact absurd hk (by show ¬ (2 : Int) = 1; decide)
  split at h
  · rename_i hl
    cases h
    have hs : s.take (rowF namB s) = s := hs
    unfold nmB
    rw [hl, Bool.and_true]
    refine List.all_eq_true.2 fun c hc => rowF_all namB s c (by rw [hs]; exact hc)
  split at h
  · cases h; exact absurd hk (by show ¬ (3 : Int) = 1; decide)
  split at h
  · cases h; exact absurd hk (by show ¬ (3 : Int) = 1; decide)
  · cases h
/-- A text that is one name. -/
theorem named_nm {s : List UInt8} (h : namedF s = true) : nmB s = true := by
  unfold namedF at h
  split at h
  · rename_i t e q ht
    simp only [Bool.and_eq_true, decide_eq_true_eq] at h
    obtain ⟨_, hk, hs⟩ := h
    have hlen : s.length ≤ 8192 := by
      cases Nat.lt_or_ge 8192 s.length with
      | inl hq => unfold tokF at ht; rw [if_pos hq] at ht; cases ht
      | inr hq => exact hq
    have hne : 0 < s.length := by
      cases Nat.eq_zero_or_pos s.length with
      | inl hq => obtain rfl := List.length_eq_zero_iff.1 hq; cases ht
      | inr hq => exact hq
    -- words that come behind a place are no longer than what is behind it
    have short : ∀ (f p : Nat) (out : List Tk) (x : Tk), x ∈ (tokC s f p out).1 → x ∈ out ∨ x.s.length ≤ s.length - p := by
      intro f
      induction f with
      | zero => intro p out x hx; exact .inl hx
      | succ f ih =>
        intro p out x hx
        unfold tokC at hx
        split at hx
        · exact .inl hx
        · split at hx
          · rcases ih _ _ _ hx with hx | hx
            · exact .inl hx
            · exact .inr (by omega)
          · rename_i y hy
            have hyl : y.s.length ≤ s.length - p := by
              have := step_len hy
              simpa using this
            rcases ih _ _ _ hx with hx | hx
            · rcases List.mem_append.1 hx with hx | hx
              · exact .inl hx
              · rw [List.mem_singleton.1 hx]; exact .inr hyl
            · exact .inr (by omega)
          · cases hx
    unfold tokF at ht
    rw [if_neg (by omega)] at ht
    have ht2 := ht
    unfold tokC at ht
    rw [if_neg (by omega)] at ht
    rw [List.drop_zero] at ht
    split at ht
    · rename_i n hn
      have hn1 := step_skip hn
      have := short s.length (0 + n) [] t (by rw [ht]; simp)
      rcases this with h0 | h0
      · cases h0
      · rw [hs] at h0; omega
    · rename_i y hy
      have hyt : y = t := by
        have keep : ∀ (f p : Nat) (out : List Tk) (r : List Tk) (e q : Int), tokC s f p out = (r, e, q) → r = [] ∨ ∃ z, r = out ++ z := by
          intro f
          induction f with
          | zero => intro p out r e q hh; cases hh; exact .inr ⟨[], by simp⟩
          | succ f ih =>
            intro p out r e q hh
            unfold tokC at hh
            split at hh
            · cases hh; exact .inr ⟨[], by simp⟩
            · split at hh
              · exact ih _ _ _ _ _ hh
              · rename_i t' _
                rcases ih _ _ _ _ _ hh with hh | ⟨z, hh⟩
                · exact .inl hh
                · exact .inr ⟨t' :: z, by rw [hh]; simp⟩
              · cases hh; exact .inl rfl
        rcases keep _ _ _ _ _ _ ht with h0 | ⟨z, h0⟩
        · cases h0
        · have h1 : t = y := by simpa using congrArg List.head? h0
          exact h1.symm
      subst hyt
      exact step_name hy hk hs hne
    · cases ht
  · cases h
end SX
end Go.Proofs.YthkedcneehdinaaGreatDoor

/- Instructions' texts, word by word; read again. -/
set_option linter.unusedVariables false
set_option maxRecDepth 100000
namespace Go.Proofs.YthkedcneehdinaaGreatDoor
namespace SX
open Go Go.Proofs
def Lg.rs (L : Lg) : List (List UInt8) := [L.s0, L.s1, L.s2, L.s3, L.s4, L.s5, L.s6, L.s7]
/-- A language that reads its own names. -/
structure LgOk (L : Lg) : Prop where
  nil : L.ix [] < 0
  ix : ∀ r, 0 ≤ r → r < 8 → L.ix (nmF L.rs r) = r
  nm : ∀ r, 0 ≤ r → r < 8 → nmB (nmF L.rs r) = true
  h : L.h = [] ∨ ∃ c, L.h = [c] ∧ mkB c = true
theorem lgOk_of {L : Lg} (h0 : L.ix [] < 0) (h1 : ∀ n : Fin 8, L.ix (nmF L.rs (n.val : Int)) = (n.val : Int) ∧ nmB (nmF L.rs (n.val : Int)) = true) (hh : L.h = [] ∨ ∃ c, L.h = [c] ∧ mkB c = true) : LgOk L :=
  ⟨h0, fun r a b => by have := (h1 ⟨r.toNat, by omega⟩).1; rwa [show ((r.toNat : Nat) : Int) = r by omega] at this, fun r a b => by have := (h1 ⟨r.toNat, by omega⟩).2; rwa [show ((r.toNat : Nat) : Int) = r by omega] at this, hh⟩
theorem lgA_ok : LgOk lgA := lgOk_of (by decide) (by decide) (.inr ⟨35, rfl, by decide⟩)
/-! What stands behind a place. -/
def st (p : Nat) : RS := ⟨p, 0, 0⟩
def Dr (ts : List Tk) (p : Nat) (l : List Ky) : Prop := (ts.map key).drop p = l
theorem Dr.at' {ts : List Tk} {p : Nat} {k : Int} {s : List UInt8} {n : Int} {l : List Ky} (h : Dr ts p ((k, s, n) :: l)) : (tkAt ts p).k = k ∧ (tkAt ts p).s = s ∧ (tkAt ts p).n = n ∧ p < ts.length ∧ Dr ts (p + 1) l := by
  unfold Dr at h
  have hl : p < ts.length := by
    have := congrArg List.length h
    simp at this; omega
  have h0 : (ts.map key)[p]? = some (k, s, n) := by
    have := congrArg List.head? h
    rwa [List.head?_drop, List.head?_cons] at this
  rw [List.getElem?_map, List.getElem?_eq_getElem hl] at h0
  have e : tkAt ts p = ts[p] := by unfold tkAt; rw [List.getD_eq_getElem?_getD, List.getElem?_eq_getElem hl]; rfl
  simp only [Option.map_some, Option.some.injEq, key, Prod.mk.injEq] at h0
  refine ⟨by rw [e]; exact h0.1, by rw [e]; exact h0.2.1, by rw [e]; exact h0.2.2, hl, ?_⟩
  unfold Dr
  rw [← List.drop_drop, h]; rfl
theorem Dr.end' {ts : List Tk} {p : Nat} (h : Dr ts p []) : ts.length ≤ p := by
  have := congrArg List.length h
  simp at this; omega
theorem mark_at {ts : List Tk} {p : Nat} {m : List UInt8} {l : List Ky} (h : Dr ts p ((3, m, 0) :: l)) : markP ts m (st p) = st (p + 1) ∧ Dr ts (p + 1) l := by
  obtain ⟨h1, h2, _, h4, h5⟩ := h.at'
  refine ⟨?_, h5⟩
  unfold markP takeB st
  dsimp only
  rw [if_pos rfl, h1, h2, decide_eq_true h4]
  simp [goF]
theorem take_at {ts : List Tk} {p : Nat} {m : List UInt8} {l : List Ky} (h : Dr ts p ((3, m, 0) :: l)) : takeB ts m p = true := by
  obtain ⟨h1, h2, _, h4, h5⟩ := h.at'
  unfold takeB
  rw [h1, h2, decide_eq_true h4]
  simp
theorem take_no {ts : List Tk} {p : Nat} {m s : List UInt8} {k n : Int} {l : List Ky} (h : Dr ts p ((k, s, n) :: l)) (hs : k = 2 ∨ s ≠ m) : takeB ts m p = false := by
  obtain ⟨h1, h2, _, h4, h5⟩ := h.at'
  unfold takeB
  rw [h1, h2]
  rcases hs with hs | hs
  · rw [hs]; simp
  · rw [decide_eq_false hs]; simp
theorem reg_at {L : Lg} (hL : LgOk L) {ts : List Tk} {p : Nat} {r : Int} {l : List Ky} (h0 : 0 ≤ r) (h8 : r < 8) (h : Dr ts p ((1, nmF L.rs r, 0) :: l)) : regP L ts (st p) = (r, st (p + 1)) ∧ Dr ts (p + 1) l := by
  obtain ⟨h1, h2, _, h4, h5⟩ := h.at'
  refine ⟨?_, h5⟩
  have hw : wordP ts (st p) = (nmF L.rs r, st (p + 1)) := by
    unfold wordP
    rw [if_pos (show (st p).e = 0 from rfl)]
    rw [show (st p).p = p from rfl, h1, if_pos rfl, h2]; rfl
  unfold regP ofP
  rw [hw]
  dsimp only
  rw [hL.ix r h0 h8, if_neg (by omega)]
theorem word_at {ts : List Tk} {p : Nat} {w : List UInt8} {l : List Ky} (h : Dr ts p ((1, w, 0) :: l)) : wordP ts (st p) = (w, st (p + 1)) ∧ Dr ts (p + 1) l := by
  obtain ⟨h1, h2, _, h4, h5⟩ := h.at'
  refine ⟨?_, h5⟩
  unfold wordP
  rw [if_pos (show (st p).e = 0 from rfl)]
  rw [show (st p).p = p from rfl, h1, if_pos rfl, h2]; rfl
theorem nm_at {ts : List Tk} {p : Nat} {g : Int} {s : List UInt8} {n : Int} {l : List Ky} (h : Dr ts p ((2, s, n) :: l)) : nmP ts g (st p) = (IntKind.i64.wrap (g * n), st (p + 1)) ∧ Dr ts (p + 1) l := by
  obtain ⟨h1, _, h3, h4, h5⟩ := h.at'
  refine ⟨?_, h5⟩
  unfold nmP
  rw [show (st p).p = p from rfl, h1, if_pos rfl, h3]; rfl
theorem num_at {ts : List Tk} {p : Nat} {n : Int} {l : List Ky} (h1 : -9223372036854775808 ≤ n) (h2 : n ≤ 9223372036854775807) (h : Dr ts p (numK n ++ l)) : ∃ p', numP ts (st p) = (n, st p') ∧ Dr ts p' l := by
  unfold numK at h
  unfold numP
  rw [if_pos (show (st p).e = 0 from rfl), show (st p).p = p from rfl]
  split at h
  · rename_i hn
    have h : Dr ts p ((3, [45], 0) :: (2, Lib.decDigits n.natAbs, IntKind.i64.wrap n.natAbs) :: l) := h
    rw [take_at h, if_pos rfl]
    obtain ⟨e1, e2⟩ := nm_at (g := -1) h.at'.2.2.2.2
    refine ⟨p + 1 + 1, ?_, e2⟩
    rw [show goF (st p) = st (p + 1) from rfl, e1]
    congr 1
    rw [IntKind.wrap_i64, IntKind.wrap_i64]
    omega
  · rename_i hn
    have h : Dr ts p ((2, Lib.decDigits n.toNat, IntKind.i64.wrap n.toNat) :: l) := h
    rw [take_no h (.inl rfl), if_neg (by decide)]
    obtain ⟨e1, e2⟩ := nm_at (g := 1) h
    refine ⟨p + 1, ?_, e2⟩
    rw [e1]
    congr 1
    rw [IntKind.wrap_i64, IntKind.wrap_i64]
    omega
/-- A number with what stands ahead of it. -/
def immK (L : Lg) (n : Int) : List Ky := (match L.h with | [] => [] | c :: _ => [(3, [c], 0)]) ++ numK n
theorem imm_at {L : Lg} (hL : LgOk L) {ts : List Tk} {p : Nat} {n : Int} {l : List Ky} (h1 : -9223372036854775808 ≤ n) (h2 : n ≤ 9223372036854775807) (h : Dr ts p (immK L n ++ l)) : ∃ p', immP L ts (st p) = (n, st p') ∧ Dr ts p' l := by
  unfold immK at h
  unfold immP
  rcases hL.h with e | ⟨c, e, _⟩
  · rw [e] at h ⊢
    rw [if_pos rfl]
    exact num_at h1 h2 h
  · rw [e] at h ⊢
    have h : Dr ts p ((3, [c], 0) :: (numK n ++ l)) := h
    obtain ⟨e1, e2⟩ := mark_at h
    rw [if_neg (by simp), e1]
    exact num_at h1 h2 e2
theorem eit_reg {L : Lg} (hL : LgOk L) {ts : List Tk} {p : Nat} {r : Int} {l : List Ky} (h0 : 0 ≤ r) (h8 : r < 8) (h : Dr ts p ((1, nmF L.rs r, 0) :: l)) : eitP L ts (st p) = ((r, 0), st (p + 1)) ∧ Dr ts (p + 1) l := by
  obtain ⟨e1, e2⟩ := reg_at hL h0 h8 h
  refine ⟨?_, e2⟩
  unfold eitP nmdB
  rw [show (st p).p = p from rfl, h.at'.1, e1]
  rfl
theorem immK_head {L : Lg} (hL : LgOk L) (n : Int) : ∃ k s m r, immK L n = (k, s, m) :: r ∧ k ≠ 1 := by
  unfold immK
  rcases hL.h with e | ⟨c, e, _⟩
  · rw [e]
    unfold numK
    by_cases h : n < 0
    · rw [if_pos h]; exact ⟨3, _, _, _, rfl, by decide⟩
    · rw [if_neg h]; exact ⟨2, _, _, _, rfl, by decide⟩
  · rw [e]
    exact ⟨3, _, _, _, rfl, by decide⟩
theorem eit_imm {L : Lg} (hL : LgOk L) {ts : List Tk} {p : Nat} {n : Int} {l : List Ky} (h1 : -9223372036854775808 ≤ n) (h2 : n ≤ 9223372036854775807) (h : Dr ts p (immK L n ++ l)) : ∃ p', eitP L ts (st p) = ((-1, n), st p') ∧ Dr ts p' l := by
  obtain ⟨p', e1, e2⟩ := imm_at hL h1 h2 h
  refine ⟨p', ?_, e2⟩
  obtain ⟨k, s, m, r, hk, hne⟩ := immK_head hL n
  rw [hk] at h
  have h : Dr ts p ((k, s, m) :: (r ++ l)) := h
  unfold eitP nmdB
  rw [show (st p).p = p from rfl, h.at'.1, decide_eq_false hne, e1]
  rfl
/-- A MEM's words. -/
def memK (L : Lg) (i : In) : List Ky := (3, [91], 0) :: (1, locF i.loc, 0) :: ((if i.off = 0 then [] else (3, [43], 0) :: numK i.off) ++ ((if 0 ≤ i.ix then [(3, [43], 0), (1, nmF L.rs i.ix, 0)] else []) ++ [(3, [93], 0)]))
theorem loc_of {n : Int} (h : n = 0 ∨ n = 1 ∨ n = 2) : locI (locF n) = n ∧ nmB (locF n) = true := by rcases h with rfl | rfl | rfl <;> decide
theorem ofP_loc {ts : List Tk} {p : Nat} {n : Int} {l : List Ky} (hn : n = 0 ∨ n = 1 ∨ n = 2) (h : Dr ts p ((1, locF n, 0) :: l)) : ofP locI ts (st p) = (n, st (p + 1)) ∧ Dr ts (p + 1) l := by
  obtain ⟨e1, e2⟩ := word_at h
  refine ⟨?_, e2⟩
  unfold ofP
  rw [e1]
  dsimp only
  rw [(loc_of hn).1, if_neg (by omega)]
theorem mem_at {L : Lg} (hL : LgOk L) {ts : List Tk} {p : Nat} {i j : In} {z : Int} {l : List Ky} (ha : accB i = true) (h : Dr ts p (memK L i ++ l)) : ∃ p', memP L ts j z (st p) = ({ j with loc := i.loc, off := (if i.off = 0 then j.off else i.off), ix := (if 0 ≤ i.ix then i.ix else j.ix), sz := z }, st p') ∧ Dr ts p' l := by
  obtain ⟨a1, a2, a3, a4⟩ := accB_ok ha
  unfold memK at h
  have h : Dr ts p ((3, [91], 0) :: (1, locF i.loc, 0) :: (((if i.off = 0 then [] else (3, [43], 0) :: numK i.off) ++ ((if 0 ≤ i.ix then [(3, [43], 0), (1, nmF L.rs i.ix, 0)] else []) ++ [(3, [93], 0)])) ++ l)) := h
  obtain ⟨e1, h1⟩ := mark_at h
  obtain ⟨e2, h2⟩ := ofP_loc a1 h1
  unfold memP
  rw [e1, e2]
  dsimp only
  rw [show (st (p + 1 + 1)).e = 0 from rfl, show (st (p + 1 + 1)).p = p + 1 + 1 from rfl]
  by_cases ho : i.off = 0
  · rw [if_pos ho] at h2 ⊢
    by_cases hx : 0 ≤ i.ix
    · rw [if_pos hx] at h2 ⊢
      have h2 : Dr ts (p + 1 + 1) ((3, [43], 0) :: (1, nmF L.rs i.ix, 0) :: (3, [93], 0) :: l) := h2
      have h3 := h2.at'.2.2.2.2
      rw [take_at h2]
      simp only [decide_true, Bool.and_self, if_true]
      obtain ⟨e3, h4⟩ := reg_at hL (r := i.ix) hx (by omega) h3
      obtain ⟨e4, h5⟩ := mark_at h4
      refine ⟨p + 1 + 1 + 1 + 1 + 1, ?_, h5⟩
      have e5 : plusP L ts { j with loc := i.loc, sz := z } (goF (st (p + 1 + 1))) = ({ j with loc := i.loc, sz := z, ix := i.ix }, st (p + 1 + 1 + 1 + 1)) := by
        unfold plusP
        rw [show goF (st (p + 1 + 1)) = st (p + 1 + 1 + 1) from rfl, show (st (p + 1 + 1 + 1)).p = p + 1 + 1 + 1 from rfl, h3.at'.1, if_neg (by decide)]
        unfold ixP
        rw [e3]
      rw [e5]
      dsimp only
      rw [e4]
    · rw [if_neg hx] at h2 ⊢
      have h2 : Dr ts (p + 1 + 1) ((3, [93], 0) :: l) := h2
      obtain ⟨e4, h5⟩ := mark_at h2
      rw [take_no h2 (.inr (by decide))]
      simp only [Bool.and_false, Bool.false_eq_true, if_false]
      rw [e4]
      exact ⟨_, rfl, h5⟩
  · rw [if_neg ho] at h2 ⊢
    have hnk : numK i.off = [(2, Lib.decDigits i.off.toNat, IntKind.i64.wrap i.off.toNat)] := by unfold numK; rw [if_neg (by omega)]
    rw [hnk] at h2
    have h2 : Dr ts (p + 1 + 1) ((3, [43], 0) :: (2, Lib.decDigits i.off.toNat, IntKind.i64.wrap i.off.toNat) :: (((if 0 ≤ i.ix then [(3, [43], 0), (1, nmF L.rs i.ix, 0)] else []) ++ [(3, [93], 0)]) ++ l)) := by simpa using h2
    have h3 := h2.at'.2.2.2.2
    obtain ⟨q1, q2, q3, q4, h4⟩ := h3.at'
    have hw : IntKind.i64.wrap (i.off.toNat : Int) = i.off := by rw [w64 (by omega) (by omega)]; omega
    rw [take_at h2]
    simp only [decide_true, Bool.and_self, if_true]
    unfold plusP
    rw [show goF (st (p + 1 + 1)) = st (p + 1 + 1 + 1) from rfl, show (st (p + 1 + 1 + 1)).p = p + 1 + 1 + 1 from rfl, q1, if_pos rfl, q3, hw]
    rw [show goF (st (p + 1 + 1 + 1)) = st (p + 1 + 1 + 1 + 1) from rfl, show (st (p + 1 + 1 + 1 + 1)).p = p + 1 + 1 + 1 + 1 from rfl]
    by_cases hx : 0 ≤ i.ix
    · rw [if_pos hx] at h4 ⊢
      have h4 : Dr ts (p + 1 + 1 + 1 + 1) ((3, [43], 0) :: (1, nmF L.rs i.ix, 0) :: (3, [93], 0) :: l) := h4
      have h5 := h4.at'.2.2.2.2
      rw [take_at h4, if_pos rfl]
      obtain ⟨e3, h6⟩ := reg_at hL (r := i.ix) hx (by omega) h5
      obtain ⟨e4, h7⟩ := mark_at h6
      unfold ixP
      rw [show goF (st (p + 1 + 1 + 1 + 1)) = st (p + 1 + 1 + 1 + 1 + 1) from rfl, e3]
      dsimp only
      rw [e4]
      exact ⟨_, rfl, h7⟩
    · rw [if_neg hx] at h4 ⊢
      have h4 : Dr ts (p + 1 + 1 + 1 + 1) ((3, [93], 0) :: l) := h4
      obtain ⟨e4, h5⟩ := mark_at h4
      rw [take_no h4 (.inr (by decide)), if_neg (by decide)]
      dsimp only
      rw [e4]
      exact ⟨_, rfl, h5⟩
/-! Texts. -/
theorem toks_reg {L : Lg} (hL : LgOk L) {r : Int} (h0 : 0 ≤ r) (h8 : r < 8) {x : List UInt8} {ks : List Ky} (hs : stopB namB x = true) (h : Toks x ks) : Toks (nmF L.rs r ++ x) ((1, nmF L.rs r, 0) :: ks) := .nam (hL.nm r h0 h8) hs h
theorem toks_imm {L : Lg} (hL : LgOk L) {n : Int} (h1 : -9223372036854775808 ≤ n) (h2 : n ≤ 9223372036854775807) {x : List UInt8} {ks : List Ky} (hs : stopB numB x = true) (h : Toks x ks) : Toks ((L.h ++ Lib.itoa n) ++ x) (immK L n ++ ks) := by
  unfold immK
  rcases hL.h with e | ⟨c, e, hc⟩
  · rw [e]
    exact toks_itoa h1 h2 hs h
  · rw [e]
    exact .mrk hc (toks_itoa h1 h2 hs h)
theorem toks_mem {L : Lg} (hL : LgOk L) {i : In} (ha : accB i = true) {x : List UInt8} {ks : List Ky} (h : Toks x ks) : Toks (atF L.rs i ++ x) (memK L i ++ ks) := by
  obtain ⟨a1, a2, a3, a4⟩ := accB_ok ha
  unfold atF memK offF ixF
  have h1 : Toks ([93] ++ x) ((3, [93], 0) :: ks) := .mrk (by decide) h
  have h2 : Toks ((if 0 ≤ i.ix then [43] ++ nmF L.rs i.ix else []) ++ ([93] ++ x)) ((if 0 ≤ i.ix then [(3, [43], 0), (1, nmF L.rs i.ix, 0)] else []) ++ ((3, [93], 0) :: ks)) := by
    by_cases hx : 0 ≤ i.ix
    · rw [if_pos hx, if_pos hx]
      exact .mrk (c := 43) (by decide) (toks_reg hL hx (by omega) rfl h1)
    · rw [if_neg hx, if_neg hx]; exact h1
  have h3 : Toks ((if i.off = 0 then [] else [43] ++ Lib.itoa i.off) ++ ((if 0 ≤ i.ix then [43] ++ nmF L.rs i.ix else []) ++ ([93] ++ x))) ((if i.off = 0 then [] else (3, [43], 0) :: numK i.off) ++ ((if 0 ≤ i.ix then [(3, [43], 0), (1, nmF L.rs i.ix, 0)] else []) ++ ((3, [93], 0) :: ks))) := by
    by_cases ho : i.off = 0
    · rw [if_pos ho, if_pos ho]; exact h2
    · rw [if_neg ho, if_neg ho]
      refine .mrk (c := 43) (by decide) (toks_itoa (by omega) (by omega) ?_ h2)
      split <;> rfl
  have hst : stopB namB ((if i.off = 0 then [] else [43] ++ Lib.itoa i.off) ++ ((if 0 ≤ i.ix then [43] ++ nmF L.rs i.ix else []) ++ ([93] ++ x))) = true := by
    split
    · split <;> rfl
    · rfl
  have h4 := Toks.mrk (c := 91) (by decide) (Toks.nam (loc_of a1).2 hst h3)
  simpa using h4
theorem toks_line {nm x : List UInt8} {ks : List Ky} (hn : nmB nm = true) (h : Toks x ks) : Toks ((nm ++ [32]) ++ x) ((1, nm, 0) :: ks) := by
  have := Toks.nam (r := 32 :: x) hn rfl (.sp h)
  simpa using this
/-- A text, read: what its words come to. -/
theorem parse_of {rd : List Tk → List UInt8 → RS → Rd × RS} {t nm : List UInt8} {ks : List Ky} {i : In} {lb : List UInt8} (ht : Toks t ((1, nm, 0) :: ks)) (hl : t.length ≤ 8192) (hf : formP i = true)
    (hr : ∀ ts, Dr ts 1 ks → ∃ p', rd ts nm (st 1) = (⟨i, true, lb⟩, st p') ∧ Dr ts p' []) : ∃ ts, tokF t = (ts, 0, 0) ∧ parseP rd ts = ⟨i, lb, 0, 0⟩ := by
  obtain ⟨ts, h1, h2⟩ := toks_tokF ht hl
  refine ⟨ts, h1, ?_⟩
  have h0 : Dr ts 0 ((1, nm, 0) :: ks) := h2
  obtain ⟨e1, e2⟩ := word_at h0
  obtain ⟨p', e3, e4⟩ := hr ts e2
  unfold parseP
  rw [show rs0 = st 0 from rfl, e1]
  dsimp only
  rw [e3]
  unfold endP moreF
  dsimp only
  have hlt : ¬ p' < ts.length := by have := e4.end'; omega
  rw [if_pos rfl, show (st p').p = p' from rfl, if_neg hlt]
  have h34 : ¬ rgtF i 0 1 = 34 := by
    unfold rgtF
    rw [hf, if_pos rfl]
    split <;> decide
  rw [if_neg h34]
  rfl
end SX
end Go.Proofs.YthkedcneehdinaaGreatDoor

/- The reference's texts of instructions: pieces. Printed by rfa.py. -/
set_option linter.unusedVariables false
set_option maxRecDepth 100000
namespace Go.Proofs.YthkedcneehdinaaGreatDoor
namespace SX
open Go Go.Proofs
def szT (a z : Int) : List UInt8 := if a = 1 then endF z [66] [87] [76] [81] else if a = 2 then endF z [98] [104] [119] [100] else endF z [66] [72] [87] []
def fnT (a n : Int) : List UInt8 := if a = 2 then [[], [97, 100, 100], [115, 117, 98], [120, 111, 114], [97, 110, 100], [111, 114]].getD n.toNat [] else if a = 3 then [[], [65, 68, 68], [83, 85, 66], [69, 79, 82], [65, 78, 68], [79, 82, 82]].getD n.toNat [] else [[], [65, 68, 68], [83, 85, 66], [88, 79, 82], [65, 78, 68], [79, 82]].getD n.toNat []
def brT (a : Int) (z : Bool) : List UInt8 := if a = 2 then (bif z then [98, 101, 113, 122] else [98, 110, 101, 122]) else if a = 3 then (bif z then [67, 66, 90] else [67, 66, 78, 90]) else (bif z then [74, 90] else [74, 78, 90])
end SX
end Go.Proofs.YthkedcneehdinaaGreatDoor

/- Texts of instructions, plain, of the three machines. -/
set_option linter.unusedVariables false
set_option maxRecDepth 100000
namespace Go.Proofs.YthkedcneehdinaaGreatDoor
namespace SX
open Go Go.Proofs
def ldT (acq wk : Bool) : List UInt8 := if wk = true then [76, 68, 65, 80, 82] else if acq = true then [76, 68, 65, 82] else [76, 68, 82]
def stT (rel : Bool) : List UInt8 := if rel = true then [83, 84, 76, 82] else [83, 84, 82]
def swT (i : In) : List UInt8 := (((if i.fn = 1 then [76, 68, 65, 68, 68] else [83, 87, 80]) ++ (if i.acq = true then [65] else [])) ++ (if i.rel = true then [76] else [])) ++ szT 3 i.sz
/-- Arm. -/
def paT (i : In) (lb : List UInt8) : List UInt8 :=
  if i.op = 1 then lineF [77, 79, 86] [nmF (regsL 3) i.dst, orF (regsL 3) [35] (-1) i.imm]
  else if i.op = 2 then lineF [77, 79, 86] [nmF (regsL 3) i.dst, nmF (regsL 3) i.a]
  else if i.op = 3 then lineF (fnT 3 i.fn) [nmF (regsL 3) i.dst, nmF (regsL 3) i.a, orF (regsL 3) [35] i.b i.imm]
  else if i.op = 4 then lineF (ldT i.acq i.wk ++ szT 3 i.sz) [nmF (regsL 3) i.dst, atF (regsL 3) i]
  else if i.op = 5 then (if i.a < 0 then [] else lineF (stT i.rel ++ szT 3 i.sz) [nmF (regsL 3) i.a, atF (regsL 3) i])
  else if i.op = 6 then lineF (swT i) [nmF (regsL 3) i.a, nmF (regsL 3) i.dst, atF (regsL 3) i]
  else if i.op = 7 then (if i.pr = 3 ∧ i.su = 3 then lineF [68, 77, 66] [[83, 89]] else if i.pr = 1 ∧ i.su = 3 then lineF [68, 77, 66] [[76, 68]] else if i.pr = 2 ∧ i.su = 2 then lineF [68, 77, 66] [[83, 84]] else [])
  else if i.op = 8 then [73, 83, 66]
  else if i.op = 9 then lineF (brT 3 i.ze) [nmF (regsL 3) i.a, lb]
  else []
theorem jn2 {x y : List UInt8} : Lib.join [x, y] [44] = x ++ ([44] ++ y) := by simp [Lib.join, List.intercalate]
theorem jn3 {x y z : List UInt8} : Lib.join [x, y, z] [44] = x ++ ([44] ++ (y ++ ([44] ++ z))) := by simp [Lib.join, List.intercalate]
theorem jn1 {x : List UInt8} : Lib.join [x] [44] = x := by simp [Lib.join, List.intercalate]
theorem line_ne {n : List UInt8} {xs : List (List UInt8)} : lineF n xs ≠ [] := by unfold lineF; simp
variable {dst a b imm loc off ix sz fn pr su to : Int} {acq wk rel ze : Bool} {lb : List UInt8}
end SX
end Go.Proofs.YthkedcneehdinaaGreatDoor
