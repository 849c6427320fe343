/- A part of SX: symbolic and concrete runs of the program, with contracts of functions; lemmas without further conditions. -/
import Derived.Lib.LaidTab
import Derived.Sort.Grow
import Derived.Deep.Draws
import Derived.Below
import Derived.Shelf.Strconv.Itoa3
import Derived.Lib.ItoaLen
import Derived.Lib.ConvBytes
import Derived.Test.YthkedcneehdinaaGreatDoorRows
import Derived.Shelf.Vars
import Derived.IntWalk
import Derived.Lib.Index
import Derived.Shelf.Strings.OnBuilder
import Derived.Shelf.Strings.Search3
import Derived.Shelf.Small.Strs
import Derived.Shelf.Pu.ToError
import Derived.Lib.IndexMore
import Derived.Lib.IndexBytes
import Derived.Test.YthkedcneehdinaaGreatDoorWF
set_option linter.unusedVariables false
set_option linter.unusedSimpArgs false
set_option linter.unusedSectionVars false
/- SX: append onto a row's first elements, so many as a number says. -/
set_option linter.unusedVariables false
set_option linter.unusedSimpArgs false
namespace Go.Proofs.YthkedcneehdinaaGreatDoor
namespace SX
open Go
section
variable {P : Program} {T : Tb} {ops : Array Oper} {o : Oper}
theorem yld_app_trim (hT : TabOk P T) {t : List SV} {h : List SB} {s x : Operand} {ty tx e : TypeId} (hop : o.op = .call { callee := .builtin .append, args := #[s, x], argTypes := #[ty, tx] }) (hg : guardOf ops t o = some []) {ti te : TI} (ht : T ty = some ti) (hk : ti.k = .slice e) (hte : T e = some te) {g : Nat} (hsz : te.size = g + 1)
    {k ver M n : Nat} (hb : evG [] t s = .sl k ver 0 M none 0) {N nn : Nat} {α : Type} {d : α} {enc : α → List SV} {ys : List α} {news segs' : List SV} (hh : h[k]? = some (.mem e [.arr N α d nn enc ys] ver (g + 1))) (hM : M ≤ N) (hnn : nn = g + 1) {rb : List Nat} (hs : SrcA T t h x tx te.size n news rb) (hkr : k ∉ rb) (hj : Joins [.arr M α d nn enc (ys.take M)] news segs') (hn : 0 < n) (h63 : M + n ≤ maxLen) (hby : (M + n) * te.bytes ≤ 140737488355328) :
    Yld P ops o (rowE o k ver M n g e segs' rb) ⟨t, h⟩ := by
  have hkl : k < h.length := (List.getElem?_eq_some_iff.1 hh).1
  have hs2 : SrcA T t (h.set k (.mem e [.arr M α d nn enc (ys.take M)] ver (g + 1))) x tx te.size n news rb := hs.like rfl fun j hj => List.getElem?_set_ne (fun e => hkr (by rw [e]; exact hj))
  have hy := yld_app_row (P := P) (ops := ops) (o := o) hT (h := h.set k (.mem e [.arr M α d nn enc (ys.take M)] ver (g + 1))) hop hg ht hk hte hsz hb (by simp [List.getElem?_set, hkl]) (by simp only [wdL, wd, Nat.add_zero]; rw [hsz, hnn]) hs2 hj hn h63 hby
  refine ⟨fun S' hl1 hl2 h1 h2 h3 C E m a w hr => ?_⟩
  have hk2 : S'.h[k]? = some (.mem e [.arr N α d nn enc ys] ver (g + 1)) := by rw [h2 k (by simp [rowE])]; exact hh
  have hkl2 : k < S'.h.length := (List.getElem?_eq_some_iff.1 hk2).1
  obtain ⟨t', h'⟩ := S'
  obtain ⟨E', m', hx, hr2⟩ := Shift.trim (t := t') (h := h') hk2 hM hnn C E m a w hr
  have := hy.out ⟨t', h'.set k (.mem e [.arr M α d nn enc (ys.take M)] ver (g + 1))⟩ hl1 (by simpa using hl2) h1 (fun j hj => by
    by_cases e0 : j = k
    · subst e0; simp [List.getElem?_set, hkl, hkl2]
    · simp only [List.getElem?_set_ne (Ne.symm e0)]; exact h2 j hj) h3 C E' m' a w hr2
  have hput : (rowE o k ver M n g e segs' rb).put ⟨t', h'.set k (.mem e [.arr M α d nn enc (ys.take M)] ver (g + 1))⟩ = (rowE o k ver M n g e segs' rb).put ⟨t', h'⟩ := by
    simp [Eff.put, rowE, setB, List.set_set]
  rw [hput] at this
  unfold opW at this ⊢
  have next : ∀ a' w', (∃ E2 m2, Ext E' m' (vers (h'.set k (.mem e [.arr M α d nn enc (ys.take M)] ver (g + 1)))) E2 m2 (vers ((rowE o k ver M n g e segs' rb).put ⟨t', h'⟩).h) ∧ Rep E2 C m2 ((rowE o k ver M n g e segs' rb).put ⟨t', h'⟩) a' w') →
      ∃ E2 m2, Ext E m (vers h') E2 m2 (vers ((rowE o k ver M n g e segs' rb).put ⟨t', h'⟩).h) ∧ Rep E2 C m2 ((rowE o k ver M n g e segs' rb).put ⟨t', h'⟩) a' w' := by
    rintro a' w' ⟨E2, m2, k1, k2⟩
    exact ⟨E2, m2, hx.trans k1, k2⟩
  split
  · rename_i hw
    rw [if_pos hw] at this
    exact wp_onlyN this next
  · rename_i hw
    rw [if_neg hw] at this
    exact next _ _ this
end
end SX
end Go.Proofs.YthkedcneehdinaaGreatDoor

/- SX: a contract of the kit's that lets the world grow, as one of SX. -/
set_option linter.unusedVariables false
set_option linter.unusedSimpArgs false
namespace Go.Proofs.YthkedcneehdinaaGreatDoor
namespace SX
open Go Go.Proofs Go.Sort
theorem Rel.tabs {E C m H w} (h : Rel E C m H w) : TabsIn w := h.mf.2.mono h.im
theorem tabIs_of {P : Program} {w : World} {n : String} {g : Nat} {k : IntKind} {zs : List Int} (hT : TabsIn w) (hg : P.globalNamed n = some g) (ht : SX.tabs g = some (.ints k zs)) : Lib.TabIs P w n k zs := by
  obtain ⟨t, fr, h⟩ := hT g _ ht
  have h : w.heap[g]? = some (.cells (zs.map (.int k)).toArray t fr) := h
  unfold Lib.TabIs World.var?
  rw [hg]
  simp only [Option.bind_some, h]
theorem Rel.grown {E C m w} (h : Rel E C m [] w) (k : Nat) (os : Array Obj) : Rel E C m [] (Sort.grow (w.drewN k) os) := by
  refine ⟨h.os, h.tape, ⟨h.output.1, h.output.2.trans (Nat.le_add_right _ _)⟩, fun b o hb => ?_, fun b o hb => ?_, h.mf, fun k B hB => by simp at hB, fun k v hv => (Vle_nil hv).elim, ?_, ?_⟩
  · have h1 := h.im b o hb
    show (w.heap ++ os)[b]? = some o
    rw [Array.getElem?_append_left (size_of_heap h1)]; exact h1
  · have h1 := h.fr b o hb
    show (w.heap ++ os)[b]? = some o
    rw [Array.getElem?_append_left (size_of_heap h1)]; exact h1
  · rintro k b ⟨B, hB, _⟩; simp at hB
  · rintro j k b ⟨B, hB, _⟩; simp at hB
/-- Below what was there the world is as it was. -/
theorem Rel.below {E C m H w w'} (hd : drKeep = false) (h : Rel E C m H w) (hb : Go.RowKit.Below w.heap.size w w') : Rel E C m H w' := by
  have hk : ∀ b o, w.heap[b]? = some o → w'.heap[b]? = some o := fun b o hbo => by rw [hb.block b (size_of_heap hbo)]; exact hbo
  refine ⟨hb.os.trans h.os, hb.tape.trans h.tape, ⟨hb.output.trans h.output.1, fun e => by rw [hd] at e; cases e⟩, fun b o hbo => hk b o (h.im b o hbo), fun b o hbo => hk b o (h.fr b o hbo), h.mf, fun k B hB => ?_, h.nn, h.sp, h.inj⟩
  refine (h.bl k B hB).mono (.refl ..) (fun _ _ => rfl) fun b hbk => ?_
  obtain ⟨o, ho⟩ := (h.bl k B hB).block hB b ⟨B, hB, hbk⟩
  rw [hk b o ho, ho]
theorem CtrV.of_grow {P : Program} {f : FuncId} {fn : Func} {c : Code} (hf : P.funcs[f]? = some fn) (hb : fn.body = some c) (hnm : (fn.name == "runtime.NumGoroutine") = false) {args : List SV} {r : SV} (hok : ∀ m, Ok m [] r) (hl : live r = true)
    (h : ∀ w, TabsIn w → ∀ E m, OkA m [] args → Calls P f (denL E args).toArray w (fun e w' => e = .returned (den E r) ∧ ∃ k os, w' = grow (w.drewN k) os)) : CtrV P f args r := by
  refine ⟨fun C E m w hr ha => ?_⟩
  have hrun : (callFunc f (denL E args).toArray).run P w = .ok (.enter f (denL E args).toArray) w := by
    have h1 : fn.name ≠ "runtime.NumGoroutine" := by simpa using hnm
    simp [callFunc, hf, h1, hb]
  unfold callX
  rw [hrun]
  refine (h w hr.tabs E m ha).mono ?_
  rintro e w' ⟨rfl, k, os, rfl⟩
  exact ⟨_, rfl, r, [], E, m, rfl, ⟨rfl, rfl⟩, ⟨hok m, hl⟩, .refl .., hr.grown k os⟩
end SX
end Go.Proofs.YthkedcneehdinaaGreatDoor

/- strconv.Itoa: its contract, and the reference's Digits. -/
set_option linter.unusedVariables false
set_option maxRecDepth 100000
namespace Go.Proofs.YthkedcneehdinaaGreatDoor
namespace SX
open Go Go.Proofs
theorem pow10_tab : tabs 5 = some (.ints .u64 Lib.pow10Tab) := by kernel_rfl
theorem itoa_ok (n : Int) (h0 : -9223372036854775808 ≤ n) (h1 : n ≤ 9223372036854775807) : CtrV Tryz.prog 76 [.i .i64 n] (.s (Lib.itoa n)) :=
  CtrV.of_grow (fn := Tryz.f76) Tryz.func76 rfl rfl (fun m => trivial) rfl fun w hT E m _ =>
    Any.strconv_Itoa Tryz.Itoa n h0 h1 w (tabIs_of hT (by kernel_rfl) pow10_tab)
end SX
end Go.Proofs.YthkedcneehdinaaGreatDoor

/- SX: []byte(string): a row that stays. -/
set_option linter.unusedVariables false
set_option linter.unusedSimpArgs false
namespace Go.Proofs.YthkedcneehdinaaGreatDoor
namespace SX
open Go
def byE (c : UInt8) : List SV := [.i .u8 (c.toNat : Int)]
section
variable {P : Program} {T : Tb} {ops : Array Oper} {o : Oper}
theorem OpC.bytes (hT : TabOk P T) {K : St → Prop} {t : List SV} {h : List SB} {src dst : TypeId} {x : Operand} (hop : o.op = .convert src dst x) (hg : guardOf ops t o = some []) {s : List UInt8} (hx : evG [] t x = .s s) {ts td te : TI} {e : TypeId}
    (h1 : T src = some ts) (h2 : ts.k = .str) (h3 : T dst = some td) (h4 : td.k = .slice e) (h5 : T e = some te) (h6 : te.k = .int .u8) (hK : ∀ ad cap, putK t h o.dst (.imm UInt8 0 1 byE s (some ad) cap) K) : OpC P T ops o K ⟨t, h⟩ := by
  refine ⟨fun C E m a w hr => ?_⟩
  have hwant : Region.wanted o (yielded ops a.tmps) = true := by simp [Region.wanted, guard_none hg]
  unfold opW
  rw [hwant, if_pos rfl]
  obtain ⟨g1, g2⟩ := (hr.evs .nil).live (o := x) (by rw [hx]; rfl)
  rw [hx] at g2
  have hxv : a.eval x = .string ⟨⟨s⟩⟩ := by rw [g2]; simp [den_v]
  have hs := (hT.ti src ts h1).str h2
  have hd := (hT.ti dst td h3).slice h4
  have he := TiOk.int_und (hT.ti e te h5) h6
  have hrun := Lib.run_convert_string_bytes w src dst e ⟨⟨s⟩⟩ hs hd he
  simp only [Oper.wp, execOp, hop, hxv, Sem.run_bind, hrun, Result.andThen_ok, Sem.run_pure, Oper.upon]
  have hfresh : ∀ b o', w.heap[b]? = some o' → b < w.heap.size := fun b o' hb => size_of_heap hb
  have hmn : m w.heap.size = none := by
    cases hm : m w.heap.size with
    | none => rfl
    | some o' => have := hfresh _ _ (hr.rel.im _ _ hm); omega
  have hFn : C.F w.heap.size = none := by
    cases hm : C.F w.heap.size with
    | none => rfl
    | some o' => have := hfresh _ _ (hr.rel.fr _ _ hm); omega
  have hm1 : ∀ b o', m b = some o' → (fun b => if b = w.heap.size then some (.cells (Lib.bytesCells w e ⟨⟨s⟩⟩) e ((Lib.bytesCells w e ⟨⟨s⟩⟩).size, (Lib.bytesCells w e ⟨⟨s⟩⟩).size + 1)) else m b) b = some o' := fun b o' hb => by
    have : b ≠ w.heap.size := fun e => by subst e; rw [hmn] at hb; cases hb
    simp only [if_neg this]; exact hb
  have hx' : Ext E m (vers h) E (fun b => if b = w.heap.size then some (.cells (Lib.bytesCells w e ⟨⟨s⟩⟩) e ((Lib.bytesCells w e ⟨⟨s⟩⟩).size, (Lib.bytesCells w e ⟨⟨s⟩⟩).size + 1)) else m b) (vers h) := ⟨hm1, fun _ _ h => h, fun _ _ _ => rfl⟩
  have hold : ∀ b o', w.heap[b]? = some o' → (Lib.bytesWorld w e ⟨⟨s⟩⟩).heap[b]? = some o' := fun b o' hb => by rw [Lib.bytesWorld_at_old _ _ _ _ (hfresh _ _ hb)]; exact hb
  have hos : (Lib.bytesWorld w e ⟨⟨s⟩⟩).os = w.os ∧ (Lib.bytesWorld w e ⟨⟨s⟩⟩).tape = w.tape ∧ (Lib.bytesWorld w e ⟨⟨s⟩⟩).output = w.output ∧ w.drawn ≤ (Lib.bytesWorld w e ⟨⟨s⟩⟩).drawn := by
    simp [Lib.bytesWorld, World.freeze, World.alloc, World.drew, -World.alloc_eq, -World.drew_eq]
  have hrel : Rel E C (fun b => if b = w.heap.size then some (.cells (Lib.bytesCells w e ⟨⟨s⟩⟩) e ((Lib.bytesCells w e ⟨⟨s⟩⟩).size, (Lib.bytesCells w e ⟨⟨s⟩⟩).size + 1)) else m b) h (Lib.bytesWorld w e ⟨⟨s⟩⟩) := by
    refine ⟨hos.1.trans hr.rel.os, hos.2.1.trans hr.rel.tape, ⟨hos.2.2.1.trans hr.rel.output.1, hr.rel.output.2.trans hos.2.2.2⟩, fun b o' hb => ?_, fun b o' hb => hold b o' (hr.rel.fr b o' hb), ⟨fun b o' hb => ?_, hr.rel.mf.2.mono hm1⟩, fun k B hB => ?_, hr.rel.nn, fun k b hb => ?_, hr.rel.inj⟩
    · by_cases hbs : b = w.heap.size
      · subst hbs; simp only [if_true] at hb; cases hb; exact Lib.bytesWorld_at_new w e ⟨⟨s⟩⟩
      · simp only [if_neg hbs] at hb; exact hold b o' (hr.rel.im b o' hb)
    · have : b ≠ w.heap.size := fun e => by subst e; rw [hFn] at hb; cases hb
      simp only [if_neg this]; exact hr.rel.mf.1 b o' hb
    · refine (hr.rel.bl k B hB).mono hx' (fun _ _ => rfl) fun b hb => ?_
      obtain ⟨o', ho'⟩ := (hr.rel.bl k B hB).block hB b ⟨B, hB, hb⟩
      rw [hold b o' ho', ho']
    · have := hr.rel.sp k b hb
      obtain ⟨B, hB, hb'⟩ := id hb
      obtain ⟨o', ho'⟩ := (hr.rel.bl k B hB).block hB b hb
      have hne : b ≠ w.heap.size := fun e => by have := hfresh _ _ ho'; omega
      simp only [if_neg hne]; exact this
  have hcap : s.length ≤ grownCap w (⟨⟨s⟩⟩ : ByteArray).size 0 e := by
    have := grownCap_ge w (⟨⟨s⟩⟩ : ByteArray).size 0 e
    exact this
  have hk := hK ⟨w.heap.size, 0, none⟩ (grownCap w (⟨⟨s⟩⟩ : ByteArray).size 0 e)
  rw [putK_eq] at hk
  refine ⟨E, _, _, hk, hx', ?_⟩
  refine (hr.up hx' hrel).putG (o := o) (p := []) .nil (x := .imm UInt8 0 1 byE s (some ⟨w.heap.size, 0, none⟩) (grownCap w (⟨⟨s⟩⟩ : ByteArray).size 0 e)) (v := .slice (some ⟨w.heap.size, 0, none⟩) s.length (grownCap w (⟨⟨s⟩⟩ : ByteArray).size 0 e)) (fun _ => .inr ⟨⟨?_, rfl⟩, by simp [den, wrapV, cells]⟩) (fun h => by cases h)
  simp only [Ok]
  refine ⟨hcap, fun hne => ⟨_, Lib.bytesCells w e ⟨⟨s⟩⟩, e, _, rfl, rfl, if_pos rfl, fun j hj u c hu => ?_⟩, fun _ => rfl, fun j hj => by simp [byE, OkL, Ok, isUnit]⟩
  have hu0 : u = 0 := by
    cases u with
    | zero => rfl
    | succ u => simp [byE, cellsL, cells] at hu
  subst hu0
  have hc : c = .int .u8 ((s.getD j 0).toNat : Int) := by simpa [byE, cellsL, cells] using hu.symm
  subst hc
  simp only [Nat.zero_add, Nat.mul_one, Nat.add_zero]
  unfold Lib.bytesCells
  rw [Array.getElem?_append_left (by simpa using hj)]
  simp [List.getD_eq_getElem?_getD, List.getElem?_eq_getElem hj, hj]
end
end SX
end Go.Proofs.YthkedcneehdinaaGreatDoor

/- SX: a nil slice in a tracked block is from now on a row that has nothing yet. -/
set_option linter.unusedVariables false
set_option linter.unusedSimpArgs false
namespace Go.Proofs.YthkedcneehdinaaGreatDoor
namespace SX
open Go
theorem Shift.rowIn {t : List SV} {h : List SB} {i : Nat} {ty' : TypeId} {pre post : List SV} (hi : h[i]? = some (.mem ty' (pre ++ .nils :: post) 1 0)) (g : Nat) (ty : TypeId) (segs : List SV) (hs : ∀ E, cellsL E segs = []) (hok : ∀ m V, OkL m V segs)
    {h' : List SB} (hh : h' = (h ++ [SB.mem ty segs 0 (g + 1)]).set i (SB.mem ty' (pre ++ SV.sl h.length 0 0 0 none 0 :: post) 1 0)) : Shift ⟨t, h⟩ ⟨t, h'⟩ := by
  subst hh
  intro C E m a w hr
  obtain ⟨E', e1, e2, e3⟩ := hr.rel.row0 g ty segs hs hok
  have hil : i < h.length := (List.getElem?_eq_some_iff.1 hi).1
  have hi2 : (h ++ [SB.mem ty segs 0 (g + 1)])[i]? = some (.mem ty' (pre ++ .nils :: post) 1 0) := by rw [List.getElem?_append_left hil]; exact hi
  obtain ⟨_, b, c, k1, k2, k3⟩ := e3.bl i _ hi2
  have hlim : (SB.mem ty' (pre ++ SV.sl h.length 0 0 0 none 0 :: post) 1 0).lim = (SB.mem ty' (pre ++ .nils :: post) 1 0).lim := rfl
  have hv := vers_set (B' := SB.mem ty' (pre ++ SV.sl h.length 0 0 0 none 0 :: post) 1 0) hi2 hlim
  have hce : cellsL E' (pre ++ SV.sl h.length 0 0 0 none 0 :: post) = cellsL E' (pre ++ .nils :: post) := by
    simp only [cellsL_append, cellsL]
    congr 2
    simp [cells, e1]
  have hok2 : OkL m (vers (h ++ [SB.mem ty segs 0 (g + 1)])) (pre ++ SV.sl h.length 0 0 0 none 0 :: post) := by
    rw [OkL_append] at k3 ⊢
    refine ⟨k3.1, ?_⟩
    simp only [OkL] at k3 ⊢
    refine ⟨⟨rfl, ?_⟩, k3.2.2⟩
    simp only [Ok]
    exact ⟨Vle_iff.2 ⟨SB.mem ty segs 0 (g + 1), by simp, by simp [SB.lim]⟩, fun _ => trivial⟩
  have hrel : Rel E' C m ((h ++ [SB.mem ty segs 0 (g + 1)]).set i (SB.mem ty' (pre ++ SV.sl h.length 0 0 0 none 0 :: post) 1 0)) w := by
    refine e3.set hi2 hlim (b := b) ⟨by decide, c, k1⟩ (fun c' hc' => ?_) ⟨rfl, rfl, rfl, Nat.le_refl _⟩ (fun _ _ => rfl) ⟨rfl, b, c, k1, ?_, hok2⟩
    · obtain ⟨_, c2, hc2⟩ := hc'
      rw [k1] at hc2; cases hc2; rfl
    · rw [hce]; exact k2
  have hx : Ext E m (vers h) E' m (vers ((h ++ [SB.mem ty segs 0 (g + 1)]).set i (SB.mem ty' (pre ++ SV.sl h.length 0 0 0 none 0 :: post) 1 0))) := by rw [hv]; exact e2
  refine ⟨E', m, hx, ?_, ?_, hr.df, hrel⟩
  · exact hr.sz
  · intro n x v hxn hvn
    exact (hr.sl n x v hxn hvn).mono hx
end SX
end Go.Proofs.YthkedcneehdinaaGreatDoor

/- SX: from what a row lists to the tables in the world. -/
set_option maxRecDepth 100000
namespace Go.Proofs.YthkedcneehdinaaGreatDoor
namespace SX
open Go Go.Proofs
theorem tabsIn_row {laid : List (String × DataW Unit)} {W : World} (h : laidMetH Tryz.prog laid W) (hf : (laid.filter fun x => x.2.handleName?.isSome) = []) (hsh : W.ShapedOpen Tryz.prog)
    {n6 n7 n5 n4 n3 n0 : String} (h6 : (n6, Rows.laid_math_bits_deBruijn32tab) ∈ laid) (h7 : (n7, Rows.laid_math_bits_deBruijn64tab) ∈ laid) (h5 : (n5, Rows.laid_internal_strconv_uint64pow10) ∈ laid) (h4 : (n4, Rows.laid_strconv_ErrRange) ∈ laid) (h3 : (n3, Rows.laid_strconv_ErrSyntax) ∈ laid) (h0 : (n0, Rows.laid_strings_asciiSpace) ∈ laid) (g6 : Tryz.prog.globalNamed n6 = some 6) (g7 : Tryz.prog.globalNamed n7 = some 7) (g5 : Tryz.prog.globalNamed n5 = some 5) (g4 : Tryz.prog.globalNamed n4 = some 4) (g3 : Tryz.prog.globalNamed n3 = some 3) (g0 : Tryz.prog.globalNamed n0 = some 0) : TabsIn W := by
  refine tabsIn_of hf h fun g v hg => ?_
  unfold tabs at hg
  cases c0 : Nat.beq g 6 with
  | true =>
    rw [c0] at hg
    cases hg
    obtain rfl := Nat.eq_of_beq_eq_true c0
    exact .inl ⟨_, 277, _, 5, h6, g6, by kernel_rfl, Tryz.underlying277, Tryz.underlying5, by kernel_rfl, by kernel_rfl⟩
  | false =>
  rw [c0] at hg
  simp only [cond_false] at hg
  cases c1 : Nat.beq g 7 with
  | true =>
    rw [c1] at hg
    cases hg
    obtain rfl := Nat.eq_of_beq_eq_true c1
    exact .inl ⟨_, 278, _, 5, h7, g7, by kernel_rfl, Tryz.underlying278, Tryz.underlying5, by kernel_rfl, by kernel_rfl⟩
  | false =>
  rw [c1] at hg
  simp only [cond_false] at hg
  cases c2 : Nat.beq g 5 with
  | true =>
    rw [c2] at hg
    cases hg
    obtain rfl := Nat.eq_of_beq_eq_true c2
    exact .inl ⟨_, 259, _, 125, h5, g5, by kernel_rfl, Tryz.underlying259, Tryz.underlying125, by kernel_rfl, by kernel_rfl⟩
  | false =>
  rw [c2] at hg
  simp only [cond_false] at hg
  cases c3 : Nat.beq g 4 with
  | true =>
    rw [c3] at hg
    cases hg
    obtain rfl := Nat.eq_of_beq_eq_true c3
    exact .inl ⟨_, 127, _, _, _, h4, g4, by kernel_rfl, Tryz.underlying127⟩
  | false =>
  rw [c3] at hg
  simp only [cond_false] at hg
  cases c4 : Nat.beq g 3 with
  | true =>
    rw [c4] at hg
    cases hg
    obtain rfl := Nat.eq_of_beq_eq_true c4
    exact .inl ⟨_, 127, _, _, _, h3, g3, by kernel_rfl, Tryz.underlying127⟩
  | false =>
  rw [c4] at hg
  simp only [cond_false] at hg
  cases c5 : Nat.beq g 0 with
  | true =>
    rw [c5] at hg
    cases hg
    obtain rfl := Nat.eq_of_beq_eq_true c5
    exact .inl ⟨_, 163, _, 5, h0, g0, by kernel_rfl, Tryz.underlying163, Tryz.underlying5, by kernel_rfl, by kernel_rfl⟩
  | false =>
  rw [c5] at hg
  simp only [cond_false] at hg
  cases c6 : Nat.beq g 1 with
  | true =>
    rw [c6] at hg
    cases hg
    obtain rfl := Nat.eq_of_beq_eq_true c6
    exact .inr (anyI_at (cell_of_shapedOpen_int (zero := #[.int .i64 0]) (t := 3) hsh (of_decide_eq_true (by kernel_rfl)) (by kernel_rfl) rfl (by kernel_rfl) (by kernel_rfl) Tryz.underlying3))
  | false =>
  rw [c6] at hg
  simp only [cond_false] at hg
  cases hg
end SX
end Go.Proofs.YthkedcneehdinaaGreatDoor

/- Words of a text, plain. -/
set_option linter.unusedVariables false
namespace Go.Proofs.YthkedcneehdinaaGreatDoor
namespace SX
open Go Go.Proofs
def letB (n : Int) : Bool := (decide (97 ≤ n) && decide (n ≤ 122)) || (decide (65 ≤ n) && decide (n ≤ 90))
def digB (n : Int) : Bool := decide (48 ≤ n) && decide (n ≤ 57)
def numB (n : Int) : Bool := letB n || digB n
def namB (n : Int) : Bool := ((letB n || digB n) || decide (n = 95)) || decide (n = 46)
def cd (s : List UInt8) (k : Nat) : Int := ((s.getD k 0).toNat : Int)
/-- How many of the first bytes are of a kind. -/
def rowF (p : Int → Bool) : List UInt8 → Nat
  | [] => 0
  | c :: r => if p (c.toNat : Int) then rowF p r + 1 else 0
theorem rowF_le (p : Int → Bool) : ∀ s : List UInt8, rowF p s ≤ s.length
  | [] => Nat.le_refl _
  | c :: r => by
    have := rowF_le p r
    simp only [rowF, List.length_cons]
    split <;> omega
theorem rowF_at (p : Int → Bool) : ∀ (k : Nat) (s : List UInt8), k ≤ s.length → (∀ j, j < k → p (cd s j) = true) → (k = s.length ∨ p (cd s k) = false) → rowF p s = k
  | 0, [], _, _, _ => rfl
  | 0, c :: r, _, _, h => by
    rcases h with h | h
    · simp at h
    · have h : p (c.toNat : Int) = false := h
      simp only [rowF, h]; rfl
  | k + 1, [], h, _, _ => by simp at h
  | k + 1, c :: r, h1, h2, h3 => by
    have h0 : p (c.toNat : Int) = true := h2 0 (by omega)
    simp only [rowF, h0, if_true]
    congr 1
    refine rowF_at p k r (by simpa using h1) (fun j hj => h2 (j + 1) (by omega)) ?_
    rcases h3 with h3 | h3
    · left; simpa using h3
    · right; exact h3
theorem rowF_all (p : Int → Bool) : ∀ (s : List UInt8), ∀ c ∈ s.take (rowF p s), p (c.toNat : Int) = true
  | [], c, h => by simp at h
  | x :: r, c, h => by
    simp only [rowF] at h
    split at h
    · rename_i hx
      rw [List.take_succ_cons] at h
      rcases List.mem_cons.1 h with rfl | h
      · exact hx
      · exact rowF_all p r c h
    · simp at h
theorem rowF_pos {p : Int → Bool} {s : List UInt8} (h : s ≠ []) (h0 : p (cd s 0) = true) : 0 < rowF p s := by
  match s, h with
  | c :: r, _ =>
    have h0 : p (c.toNat : Int) = true := h0
    simp only [rowF, h0, if_true]; omega
/-- Begins a text with another one? -/
def pre (s p : List UInt8) : Bool := decide ((p.length : Int) ≤ s.length) && decide ((s.take p.length).drop 0 = p)
/-- A word. -/
structure Tk where
  k : Int
  s : List UInt8
  n : Int
  a : Int
  deriving DecidableEq
def tk0 : Tk := ⟨0, [], 0, 0⟩
def tkenc (t : Tk) : List SV := [.i .i64 t.k, .s t.s, .i .i64 t.n, .i .i64 t.a]
/-- A digit's value. -/
def digV (c : Nat) : Nat := if 48 ≤ c ∧ c ≤ 57 then c - 48 else if 97 ≤ c ∧ c ≤ 122 then c - 87 else if 65 ≤ c ∧ c ≤ 90 then c - 55 else 99
/-- The value of digits of a base; none: one is no digit of it. -/
def valB (b : Nat) : List UInt8 → Nat → Option Nat
  | [], n => some n
  | c :: r, n => if digV c.toNat < b then valB b r (n * b + digV c.toNat) else none
def hexB (w : List UInt8) : Bool := pre w [48, 120]
def numDs (w : List UInt8) : List UInt8 := if hexB w then w.drop 2 else w
def numBase (w : List UInt8) : Nat := if hexB w then 16 else 10
def numMost (w : List UInt8) : Nat := if hexB w then 16 else 19
/-- The value of a number's text. -/
def numF (w : List UInt8) : Option Nat :=
  if numMost w < (numDs w).length then none else if numDs w = [] then none else
    match valB (numBase w) (numDs w) 0 with
    | none => none
    | some n => if n ≤ 9223372036854775808 then some n else none
def marksL : List UInt8 := [123, 125, 40, 41, 91, 93, 59, 124, 44, 58, 61, 43, 45, 35, 36, 126, 42, 47, 92, 38, 63, 94]
inductive Sp where
  | skip (n : Nat)
  | tok (t : Tk)
  | err (e : Int)
/-- What stands at the beginning of a text. -/
def stepF (s : List UInt8) (at' : Nat) : Sp :=
  if decide (cd s 0 = 32) || decide (cd s 0 = 9) || decide (cd s 0 = 10) then .skip 1
  else if pre s [40, 42] then (if Lib.index (s.drop 2) [42, 41] < 0 then .err 24 else .skip ((Lib.index (s.drop 2) [42, 41]).toNat + 4))
  else if digB (cd s 0) then (match numF (s.take (rowF numB s)) with
    | none => .err 23
    | some n => .tok ⟨2, s.take (rowF numB s), IntKind.i64.wrap n, at'⟩)
  else if letB (cd s 0) || decide (cd s 0 = 95) then .tok ⟨1, s.take (rowF namB s), 0, at'⟩
  else if pre s [47, 92] || pre s [92, 47] then .tok ⟨3, s.take 2, 0, at'⟩
  else if s.getD 0 0 ∈ marksL then .tok ⟨3, s.take 1, 0, at'⟩
  else .err 20
/-- The words from a place on, so many behind what stands there. -/
def tokC (s : List UInt8) : Nat → Nat → List Tk → List Tk × Int × Int
  | 0, _, out => (out, 0, 0)
  | f + 1, at', out => if s.length ≤ at' then (out, 0, 0) else
    match stepF (s.drop at') at' with
    | .skip n => tokC s f (at' + n) out
    | .tok t => tokC s f (at' + t.s.length) (out ++ [t])
    | .err e => ([], e, at')
def tokF (s : List UInt8) : List Tk × Int × Int := if 8192 < s.length then ([], 2, 0) else tokC s (s.length + 1) 0 []
theorem tokC_end {s : List UInt8} {f at' : Nat} {out : List Tk} (h : s.length ≤ at') : tokC s f at' out = (out, 0, 0) := by
  cases f with
  | zero => rfl
  | succ f => simp only [tokC, if_pos h]
theorem tokC_step {s : List UInt8} {f at' : Nat} {out : List Tk} (h : at' < s.length) (hf : s.length < at' + f) :
    ∃ f', f = f' + 1 ∧ tokC s f at' out = (match stepF (s.drop at') at' with
    | .skip n => tokC s f' (at' + n) out
    | .tok t => tokC s f' (at' + t.s.length) (out ++ [t])
    | .err e => ([], e, at')) := by
  cases f with
  | zero => omega
  | succ f => exact ⟨f, rfl, by simp only [tokC, if_neg (Nat.not_le.2 h)]⟩
end SX
end Go.Proofs.YthkedcneehdinaaGreatDoor

/- Words of a text: the program's small functions. -/
set_option linter.unusedVariables false
set_option maxRecDepth 100000
namespace Go.Proofs.YthkedcneehdinaaGreatDoor
namespace SX
open Go Go.Proofs
theorem w64 {x : Int} (h1 : -9223372036854775808 ≤ x) (h2 : x ≤ 9223372036854775807) : IntKind.i64.wrap x = x := IntWalk.i64_in x ⟨h1, h2⟩
theorem b_cg {x y : Bool} (h : x = y) : SV.b x = SV.b y := congrArg SV.b h
theorem i_cg {x y : Int} (h : x = y) : SV.i .i64 x = SV.i .i64 y := congrArg (SV.i .i64) h
theorem digit_ok (n : Int) : CtrV Tryz.prog 41 [.i .u8 n] (.b (digB n)) := by
  refine Ctr.enterV tabOkF (fn := Tryz.f41) rfl rfl rfl rfl rfl rfl ?_
  exact rfl
theorem letter_ok (n : Int) : CtrV Tryz.prog 44 [.i .u8 n] (.b (letB n)) := by
  refine Ctr.enterV tabOkF (fn := Tryz.f44) rfl rfl rfl rfl rfl rfl ?_
  exact rfl
theorem isnum_ok (n : Int) : CtrV Tryz.prog 43 [.i .u8 n] (.b (numB n)) := by
  refine Ctr.enterV tabOkF (fn := Tryz.f43) rfl rfl rfl rfl rfl rfl ?_
  refine OpC.callV rfl rfl rfl rfl rfl rfl rfl (fun _ => letter_ok n) ?_
  refine OpC.callV rfl rfl rfl rfl rfl rfl rfl (fun _ => digit_ok n) ?_
  exact rfl
theorem isnam_ok (n : Int) : CtrV Tryz.prog 46 [.i .u8 n] (.b (namB n)) := by
  refine Ctr.enterV tabOkF (fn := Tryz.f46) rfl rfl rfl rfl rfl rfl ?_
  refine OpC.callV rfl rfl rfl rfl rfl rfl rfl (fun _ => letter_ok n) ?_
  refine OpC.callV rfl rfl rfl rfl rfl rfl rfl (fun _ => digit_ok n) ?_
  exact rfl
theorem row_ok (f : Nat) (p : Int → Bool) (hf : ∀ n, CtrV Tryz.prog f [.i .u8 n] (.b (p n))) (s : List UInt8) (hs : s.length ≤ 100000) : CtrV Tryz.prog 42 [.s s, .fn f []] (.i .i64 (rowF p s)) := by
  refine Ctr.enterV tabOkF (fn := Tryz.f42) rfl rfl rfl rfl rfl rfl ?_
  refine WpC.loop tabOkF (β := Nat) (fun k => k ≤ s.length ∧ ∀ j, j < k → p (cd s j) = true) (fun k => [(5, .i .i64 k)]) (fun _ => []) (fun k => s.length - k) 0 524256 ⟨Nat.zero_le _, fun j hj => by omega⟩ ?_ ?_
  · exact ⟨rfl, ⟨⟨rfl, rfl, rfl⟩, trivial⟩, ⟨[], rfl⟩, trivial, rfl⟩
  · rintro k ⟨hk, ho⟩
    refine ⟨fun hg => ?_, ?_⟩
    · have hg : (decide ((k : Int) < s.length) == true) = true := hg
      have hg : k < s.length := by simpa using hg
      exact ⟨by omega, by omega⟩
    refine OpC.callV rfl rfl rfl rfl rfl rfl rfl (fun _ => hf (cd s k)) ?_
    refine ⟨fun h2 => ?_, fun h2 => ?_⟩
    · have h2 : (decide ((k : Int) < s.length) && p (cd s k)) = true := h2
      simp only [Bool.and_eq_true, decide_eq_true_eq] at h2
      refine ⟨k + 1, ⟨by omega, fun j hj => ?_⟩, by omega, rfl, ⟨⟨?_, rfl, rfl⟩, trivial⟩, ⟨[], rfl⟩, trivial, rfl⟩
      · rcases Nat.lt_succ_iff_lt_or_eq.1 hj with hj | rfl
        · exact ho j hj
        · exact h2.2
      · show SV.i .i64 (IntKind.i64.wrap ((k : Int) + 1)) = SV.i .i64 ((k + 1 : Nat) : Int)
        rw [w64 (by omega) (by omega)]; rfl
    · have h2 : (decide ((k : Int) < s.length) && p (cd s k)) = false := h2
      refine i_cg ?_
      rw [rowF_at p k s hk ho]
      by_cases h3 : k = s.length
      · exact .inl h3
      · have h4 : decide ((k : Int) < s.length) = true := by simp; omega
        rw [h4] at h2
        exact .inr h2
theorem pre_ok (s p : List UInt8) : CtrV Tryz.prog 84 [.s s, .s p] (.b (pre s p)) := by
  refine Ctr.enterV tabOkF (fn := Tryz.f84) rfl rfl rfl rfl rfl rfl ?_
  refine ⟨fun hg => ?_, rfl⟩
  have hg : (decide ((p.length : Int) ≤ s.length) == true) = true := hg
  have hg : p.length ≤ s.length := by simpa using hg
  exact ⟨by omega, by omega⟩
theorem hasPrefix_ok (s p : List UInt8) : CtrV Tryz.prog 39 [.s s, .s p] (.b (pre s p)) := by
  refine Ctr.enterV tabOkF (fn := Tryz.f39) rfl rfl rfl rfl rfl rfl ?_
  refine OpC.callV rfl rfl rfl rfl rfl rfl rfl (fun _ => pre_ok s p) ?_
  exact rfl
theorem pre_len {s p : List UInt8} (h : pre s p = true) : p.length ≤ s.length := by
  unfold pre at h; simp only [Bool.and_eq_true, decide_eq_true_eq] at h; omega
def cutP (s p : List UInt8) : List UInt8 := if pre s p then (s.take s.length).drop p.length else s
theorem cutPre_ok (s p : List UInt8) : CtrV Tryz.prog 150 [.s s, .s p] (.tup [.s (cutP s p), .b (pre s p)]) := by
  refine Ctr.enterV tabOkF (fn := Tryz.f150) rfl rfl rfl rfl rfl rfl ?_
  refine OpC.callV rfl rfl rfl rfl rfl rfl rfl (fun _ => pre_ok s p) ?_
  refine ⟨fun h => ?_, fun h => ?_⟩
  · have h : (!pre s p) = true := h
    have h : pre s p = false := by simpa using h
    show _ = SV.tup [.s (cutP s p), .b (pre s p)]
    unfold cutP
    rw [h]; rfl
  · have h : (!pre s p) = false := h
    have h : pre s p = true := by simpa using h
    refine ⟨fun _ => ?_, ?_⟩
    · have := pre_len h
      exact ⟨by omega, by omega⟩
    · show _ = SV.tup [.s (cutP s p), .b (pre s p)]
      unfold cutP
      rw [h]; rfl
theorem cutPrefix_ok (s p : List UInt8) : CtrV Tryz.prog 86 [.s s, .s p] (.tup [.s (cutP s p), .b (pre s p)]) := by
  refine Ctr.enterV tabOkF (fn := Tryz.f86) rfl rfl rfl rfl rfl rfl ?_
  refine OpC.callV rfl rfl rfl rfl rfl rfl rfl (fun _ => cutPre_ok s p) ?_
  exact rfl
end SX
end Go.Proofs.YthkedcneehdinaaGreatDoor

/- Instructions: what they are; small functions. -/
set_option linter.unusedVariables false
set_option maxRecDepth 100000
namespace Go.Proofs.YthkedcneehdinaaGreatDoor
namespace SX
open Go Go.Proofs
end SX
end Go.Proofs.YthkedcneehdinaaGreatDoor

/- Conditions as text, plain: trees, their texts, and the rows of both. -/
set_option linter.unusedVariables false
namespace Go.Proofs.YthkedcneehdinaaGreatDoor
namespace SX
open Go Go.Proofs
def in64 (x : Int) : Prop := -9223372036854775808 ≤ x ∧ x ≤ 9223372036854775807
/-- What is made of the nodes, from the parts on. -/
def stkG {α : Type} (g : Cn → List α → α) (cs : List Cn) : Nat → List α
  | 0 => []
  | i + 1 => (stkG g cs i).take ((stkG g cs i).length - (partsF (cs.getD i cn0)).toNat) ++ [g (cs.getD i cn0) ((stkG g cs i).drop ((stkG g cs i).length - (partsF (cs.getD i cn0)).toNat))]
theorem stkG_len {α : Type} {g : Cn → List α → α} {cs : List Cn} : ∀ {i : Nat}, okAt cs i → ((stkG g cs i).length : Int) = nAt cs i
  | 0, _ => rfl
  | i + 1, h => by
    have ih := stkG_len (g := g) (i := i) fun j hj => h j (by omega)
    have h1 := h i (by omega)
    simp only [stkG, nAt, List.length_append, List.length_take, List.length_singleton]
    omega
theorem stkG_map {α β : Type} {g : Cn → List α → α} {g' : Cn → List β → β} (f : α → β) {cs : List Cn} : ∀ {i : Nat}, (∀ j, j < i → 0 ≤ partsF (cs.getD j cn0) → ∀ l : List α, (l.length : Int) = partsF (cs.getD j cn0) → g' (cs.getD j cn0) (l.map f) = f (g (cs.getD j cn0) l)) → okAt cs i → stkG g' cs i = (stkG g cs i).map f
  | 0, _, _ => rfl
  | i + 1, hg, h => by
    have h0 : okAt cs i := fun j hj => h j (by omega)
    have ih := stkG_map f (i := i) (fun j hj => hg j (by omega)) h0
    have hl := stkG_len (g := g) h0
    have h1 := h i (by omega)
    simp only [stkG, ih, List.length_map, List.map_append, List.map_take, List.map_cons, List.map_nil]
    congr 2
    rw [← List.map_drop]
    exact hg i (by omega) h1.1 _ (by rw [List.length_drop]; omega)
/-- A node and its parts. -/
inductive CT where
  | leaf (c : Cn)
  | un (c : Cn) (l : CT)
  | bin (c : Cn) (l r : CT)
def CT.c : CT → Cn
  | .leaf c => c
  | .un c _ => c
  | .bin c _ _ => c
def mkT (c : Cn) : List CT → CT
  | [] => .leaf c
  | [l] => .un c l
  | l :: r :: _ => .bin c l r
theorem mkT_c (c : Cn) (l : List CT) : (mkT c l).c = c := by
  match l with
  | [] => rfl
  | [_] => rfl
  | _ :: _ :: _ => rfl
/-- How much a node binds. -/
def lvF (k : Int) : Int := if k = 5 then 0 else if k = 4 then 1 else if k = 3 then 2 else 3
def brk (b : Bool) (s : List UInt8) : List UInt8 := if b then ([40] ++ s) ++ [41] else s
def txt (a : Int) : CT → List UInt8
  | .leaf c => if c.k = 1 then (((Lib.itoa c.t ++ [58]) ++ nameF a c.r) ++ [61]) ++ Lib.itoa c.v else (locF c.l ++ [61]) ++ Lib.itoa c.v
  | .un _ l => [126] ++ brk (decide (lvF l.c.k < 2)) (txt a l)
  | .bin c l r => if c.k = 4 then (brk (decide (lvF l.c.k < 1)) (txt a l) ++ [32, 47, 92, 32]) ++ brk (decide (lvF r.c.k < 2)) (txt a r)
    else (brk (decide (lvF l.c.k < 0)) (txt a l) ++ [32, 92, 47, 32]) ++ brk (decide (lvF r.c.k < 1)) (txt a r)
def CT.sz : CT → Nat
  | .leaf _ => 1
  | .un _ l => l.sz + 1
  | .bin _ l r => l.sz + r.sz + 1
/-- Its nodes are as they may be. -/
def CT.good : CT → Prop
  | .leaf c => (c.k = 1 ∨ c.k = 2) ∧ 0 ≤ partsF c ∧ in64 c.v
  | .un c l => c.k = 3 ∧ l.good
  | .bin c l r => (c.k = 4 ∨ c.k = 5) ∧ l.good ∧ r.good
theorem itoa_len {n : Int} (h : in64 n) : (Lib.itoa n).length ≤ 21 := Lib.itoa_length_le n h.1 h.2
theorem leaf_t {c : Cn} (hp : 0 ≤ partsF c) (hk : c.k = 1) : in64 c.t := by
  obtain ⟨h, _⟩ := parts_reg hp hk
  unfold in64; omega
theorem brk_len (b : Bool) (s : List UInt8) : (brk b s).length ≤ s.length + 2 := by
  unfold brk; split
  · simp
  · omega
theorem txt_len (a : Int) : ∀ t : CT, t.good → (txt a t).length ≤ 60 * t.sz
  | .leaf c, h => by
    obtain ⟨hk, hp, hv⟩ := h
    have h1 := itoa_len hv
    have h3 := nameF_len a c.r
    simp only [txt, CT.sz]
    split
    · rename_i h4
      have h2 := itoa_len (leaf_t hp h4)
      simp only [List.length_append, List.length_singleton]; omega
    · simp only [List.length_append, List.length_singleton, locF]; omega
  | .un _ l, h => by
    have := txt_len a l h.2
    have := brk_len (decide (lvF l.c.k < 2)) (txt a l)
    simp only [txt, CT.sz, List.length_append, List.length_singleton]; omega
  | .bin c l r, h => by
    have h1 := txt_len a l h.2.1
    have h2 := txt_len a r h.2.2
    simp only [txt, CT.sz]
    split
    · have h3 := brk_len (decide (lvF l.c.k < 1)) (txt a l)
      have h4 := brk_len (decide (lvF r.c.k < 2)) (txt a r)
      simp only [List.length_append, List.length_cons, List.length_nil]; omega
    · have h3 := brk_len (decide (lvF l.c.k < 0)) (txt a l)
      have h4 := brk_len (decide (lvF r.c.k < 1)) (txt a r)
      simp only [List.length_append, List.length_cons, List.length_nil]; omega
/-- The trees that stand behind the first i nodes are small, and good. -/
theorem stkT_ok {cs : List Cn} (hv : ∀ j, in64 (cs.getD j cn0).v) : ∀ {i : Nat}, okAt cs i → ((stkG mkT cs i).map CT.sz).sum ≤ i ∧ ∀ t ∈ stkG mkT cs i, t.good
  | 0, _ => ⟨by simp [stkG], fun t ht => by simp [stkG] at ht⟩
  | i + 1, h => by
    have h0 : okAt cs i := fun j hj => h j (by omega)
    obtain ⟨i1, i2⟩ := stkT_ok hv (i := i) h0
    have hl := stkG_len (g := mkT) h0
    have h1 := h i (by omega)
    have hle : partsF (cs.getD i cn0) ≤ 2 := (partsF_le _).2
    generalize hS : stkG mkT cs i = S at *
    generalize hc : cs.getD i cn0 = c at *
    have hs : stkG mkT cs (i + 1) = S.take (S.length - (partsF c).toNat) ++ [mkT c (S.drop (S.length - (partsF c).toNat))] := by simp only [stkG, hS, hc]
    have hsum : ((S.take (S.length - (partsF c).toNat)).map CT.sz).sum + ((S.drop (S.length - (partsF c).toNat)).map CT.sz).sum = (S.map CT.sz).sum := by
      rw [← List.sum_append, ← List.map_append, List.take_append_drop]
    have hdl : (S.drop (S.length - (partsF c).toNat)).length = (partsF c).toNat := by rw [List.length_drop]; omega
    have hdm : ∀ t ∈ S.drop (S.length - (partsF c).toNat), t.good := fun t ht => i2 t (List.mem_of_mem_drop ht)
    rw [hs]
    generalize hD : S.drop (S.length - (partsF c).toNat) = D at *
    have hcv : in64 c.v := hc ▸ hv i
    have key : (mkT c D).sz ≤ (D.map CT.sz).sum + 1 ∧ (mkT c D).good := by
      match D, hdl, hdm with
      | [], hdl, _ =>
        refine ⟨Nat.le_refl _, ?_, h1.1, hcv⟩
        simp at hdl
        by_cases hk1 : c.k = 1
        · exact .inl hk1
        by_cases hk2 : c.k = 2
        · exact .inr hk2
        exfalso
        by_cases hk3 : c.k = 3
        · have := parts_not h1.1 hk3; omega
        · have := parts_two h1.1 ⟨hk1, hk2, hk3⟩; omega
      | [l], hdl, hdm =>
        refine ⟨by simp [mkT, CT.sz], ?_, hdm l (by simp)⟩
        simp at hdl
        by_cases hk3 : c.k = 3
        · exact hk3
        exfalso
        by_cases hk1 : c.k = 1
        · unfold partsF at hdl; rw [if_pos hk1] at hdl; split at hdl <;> simp at hdl
        by_cases hk2 : c.k = 2
        · unfold partsF at hdl; rw [if_neg hk1, if_pos hk2] at hdl; split at hdl <;> simp at hdl
        · have := parts_two h1.1 ⟨hk1, hk2, hk3⟩; omega
      | [l, r], hdl, hdm =>
        refine ⟨by simp [mkT, CT.sz], ?_, hdm l (by simp), hdm r (by simp)⟩
        simp at hdl
        by_cases hk1 : c.k = 1
        · unfold partsF at hdl; rw [if_pos hk1] at hdl; split at hdl <;> simp at hdl
        by_cases hk2 : c.k = 2
        · unfold partsF at hdl; rw [if_neg hk1, if_pos hk2] at hdl; split at hdl <;> simp at hdl
        by_cases hk3 : c.k = 3
        · have := parts_not h1.1 hk3; omega
        exact (parts_two h1.1 ⟨hk1, hk2, hk3⟩).2
      | _ :: _ :: _ :: _, hdl, _ => simp at hdl; omega
    refine ⟨?_, fun t ht => ?_⟩
    · rw [List.map_append, List.sum_append]
      simp only [List.map_cons, List.map_nil, List.sum_cons, List.sum_nil]
      omega
    · rcases List.mem_append.1 ht with ht | ht
      · exact i2 t (List.mem_of_mem_take ht)
      · simp at ht; subst ht; exact key.2
theorem mem_sz {S : List CT} : ∀ {t : CT}, t ∈ S → t.sz ≤ (S.map CT.sz).sum := by
  induction S with
  | nil => intro t h; cases h
  | cons x S ih =>
    intro t h
    simp only [List.map_cons, List.sum_cons]
    rcases List.mem_cons.1 h with rfl | h
    · omega
    · have := ih h; omega
/-- A piece: a text, and the kind of its node. -/
structure Pc where
  s : List UInt8
  k : Int
def pc0 : Pc := ⟨[], 0⟩
def penc (p : Pc) : List SV := [.s p.s, .i .i64 p.k]
/-- A piece out of a node and its parts' pieces. -/
def pieceF (a : Int) (c : Cn) (l : List Pc) : Pc :=
  ⟨if c.k = 1 then ((Lib.itoa c.t ++ [58]) ++ nameF a c.r) ++ ([61] ++ Lib.itoa c.v)
  else if c.k = 2 then locF c.l ++ ([61] ++ Lib.itoa c.v)
  else if c.k = 3 then [126] ++ brk (decide ((l.getD 0 pc0).k = 4) || decide ((l.getD 0 pc0).k = 5)) (l.getD 0 pc0).s
  else if c.k = 4 then (brk (decide ((l.getD 0 pc0).k = 5)) (l.getD 0 pc0).s ++ [32, 47, 92, 32]) ++ brk (decide ((l.getD 1 pc0).k = 5) || decide ((l.getD 1 pc0).k = 4)) (l.getD 1 pc0).s
  else ((l.getD 0 pc0).s ++ [32, 92, 47, 32]) ++ brk (decide ((l.getD 1 pc0).k = 5)) (l.getD 1 pc0).s, c.k⟩
def pcT (a : Int) (t : CT) : Pc := ⟨txt a t, t.c.k⟩
theorem lv_lt2 (k : Int) : decide (lvF k < 2) = (decide (k = 4) || decide (k = 5)) := by
  rw [Bool.eq_iff_iff]; unfold lvF; simp only [decide_eq_true_eq, Bool.or_eq_true]
  split
  · simp [*]
  · split
    · simp [*]
    · split <;> simp [*]
theorem lv_lt1 (k : Int) : decide (lvF k < 1) = decide (k = 5) := by
  rw [Bool.eq_iff_iff]; unfold lvF; simp only [decide_eq_true_eq]
  split
  · simp [*]
  · split
    · simp [*]
    · split <;> simp [*]
theorem lv_lt0 (k : Int) : decide (lvF k < 0) = false := by
  unfold lvF; simp only [decide_eq_false_iff_not]
  split
  · simp
  · split
    · simp
    · split <;> simp
theorem pieceF_T (a : Int) (c : Cn) (h0 : 0 ≤ partsF c) (l : List CT) (hl : (l.length : Int) = partsF c) : pieceF a c (l.map (pcT a)) = pcT a (mkT c l) := by
  have h2 : partsF c ≤ 2 := (partsF_le c).2
  unfold pcT
  rw [mkT_c]
  unfold pieceF
  congr 1
  by_cases hk1 : c.k = 1
  · have hz : partsF c = 0 := by unfold partsF at h0 ⊢; rw [if_pos hk1] at *; split at h0 <;> first | rfl | omega
    have : l = [] := List.eq_nil_of_length_eq_zero (by omega)
    subst this
    simp only [if_pos hk1, mkT, txt, List.append_assoc]
  by_cases hk2 : c.k = 2
  · have hz : partsF c = 0 := by unfold partsF at h0 ⊢; rw [if_neg hk1, if_pos hk2] at *; split at h0 <;> first | rfl | omega
    have : l = [] := List.eq_nil_of_length_eq_zero (by omega)
    subst this
    simp only [if_neg hk1, if_pos hk2, mkT, txt, List.append_assoc]
  by_cases hk3 : c.k = 3
  · have hz := parts_not h0 hk3
    match l, hl with
    | [x], _ => simp only [if_neg hk1, if_neg hk2, if_pos hk3, mkT, txt, List.map_cons, List.map_nil, List.getD_cons_zero, pcT, lv_lt2]
    | [], hl => simp at hl; omega
    | _ :: _ :: _, hl => simp at hl; omega
  obtain ⟨hz, hk⟩ := parts_two h0 ⟨hk1, hk2, hk3⟩
  match l, hl with
  | [x, y], _ =>
    by_cases hk4 : c.k = 4
    · simp only [if_neg hk1, if_neg hk2, if_neg hk3, if_pos hk4, mkT, txt, List.map_cons, List.map_nil, List.getD_cons_zero, List.getD_cons_succ, pcT, lv_lt2, lv_lt1, Bool.or_comm]
    · simp only [if_neg hk1, if_neg hk2, if_neg hk3, if_neg hk4, mkT, txt, List.map_cons, List.map_nil, List.getD_cons_zero, List.getD_cons_succ, pcT, lv_lt1, lv_lt0]
      simp only [brk, Bool.false_eq_true, if_false]
  | [], hl => simp at hl; omega
  | [_], hl => simp at hl; omega
  | _ :: _ :: _ :: _, hl => simp at hl; omega
/-- A condition's text: of its tree. -/
noncomputable def printF (a : Int) (cs : List Cn) : List UInt8 := txt a ((stkG mkT cs cs.length).getD 0 (.leaf cn0))
end SX
end Go.Proofs.YthkedcneehdinaaGreatDoor

/- Texts of instructions: lines of operands. -/
set_option linter.unusedVariables false
set_option maxRecDepth 100000
namespace Go.Proofs.YthkedcneehdinaaGreatDoor
namespace SX
open Go Go.Proofs
/-- A register's name, of eight. -/
def nmF (ns : List (List UInt8)) (n : Int) : List UInt8 := if 0 ≤ n ∧ n < 8 then ns.getD n.toNat [] else []
def strB (xs : List (List UInt8)) : SB := .mem 9 (xs.map .s) 1 0
end SX
end Go.Proofs.YthkedcneehdinaaGreatDoor

/- Which instructions are well formed: the program's answer. Printed by uib.py. -/
set_option linter.unusedVariables false
set_option maxRecDepth 100000
namespace Go.Proofs.YthkedcneehdinaaGreatDoor
namespace SX
open Go Go.Proofs
theorem no_tf {P : Prop} (h : true = false) : P := nomatch h
theorem no_ft {P : Prop} (h : false = true) : P := nomatch h
end SX
end Go.Proofs.YthkedcneehdinaaGreatDoor

/- Which instructions are well formed: the reference's answer, by op. Printed by uic.py. -/
set_option linter.unusedVariables false
set_option maxRecDepth 100000
namespace Go.Proofs.YthkedcneehdinaaGreatDoor
namespace SX
open Go Go.Proofs
end SX
end Go.Proofs.YthkedcneehdinaaGreatDoor

/- Which instructions are well formed: one plain law for the program's and the reference's answer. Printed by uid.py. -/
set_option linter.unusedVariables false
set_option maxRecDepth 100000
namespace Go.Proofs.YthkedcneehdinaaGreatDoor
namespace SX
open Go Go.Proofs
end SX
end Go.Proofs.YthkedcneehdinaaGreatDoor

/- Right: is an instruction good between two places? Printed by uie.py. -/
set_option linter.unusedVariables false
set_option maxRecDepth 100000
namespace Go.Proofs.YthkedcneehdinaaGreatDoor
namespace SX
open Go Go.Proofs
end SX
end Go.Proofs.YthkedcneehdinaaGreatDoor

/- Texts of instructions: places of memory. Printed by asb.py. -/
set_option linter.unusedVariables false
set_option maxRecDepth 100000
namespace Go.Proofs.YthkedcneehdinaaGreatDoor
namespace SX
open Go Go.Proofs
end SX
end Go.Proofs.YthkedcneehdinaaGreatDoor

/- Words of a text: a number's digits (written by tools/tkb.py). -/
set_option linter.unusedVariables false
set_option maxRecDepth 100000
namespace Go.Proofs.YthkedcneehdinaaGreatDoor
namespace SX
open Go Go.Proofs
def lowI (n : Int) : Int := bits .or .u8 n 32
theorem lower_ok (n : Int) : CtrV Tryz.prog 206 [.i .u8 n] (.i .u8 (lowI n)) := by
  refine Ctr.enterV tabOkF (fn := Tryz.f206) rfl rfl rfl rfl rfl rfl ?_
  exact rfl
/-- A byte's digit, as the program reckons it. -/
def digOk (n : Nat) : Bool :=
  if decide (48 ≤ (n : Int)) && decide ((n : Int) ≤ 57) then decide (IntKind.u8.wrap ((n : Int) - 48) = (digV n : Int))
  else if numB n then (decide (97 ≤ lowI n) && decide (lowI n ≤ 122)) && decide (IntKind.u8.wrap (IntKind.u8.wrap (lowI n - 97) + 10) = (digV n : Int)) else true
theorem digOk_all : ∀ n : Fin 256, digOk n.val = true := by decide +kernel
theorem dig_num {c : UInt8} (h : (decide (48 ≤ (c.toNat : Int)) && decide ((c.toNat : Int) ≤ 57)) = true) : IntKind.u8.wrap ((c.toNat : Int) - 48) = (digV c.toNat : Int) := by
  have := digOk_all ⟨c.toNat, c.toNat_lt⟩
  unfold digOk at this
  simp only [h, if_true, decide_eq_true_eq] at this
  exact this
theorem dig_let {c : UInt8} (hn : numB (c.toNat : Int) = true) (h : (decide (48 ≤ (c.toNat : Int)) && decide ((c.toNat : Int) ≤ 57)) = false) :
    (decide (97 ≤ lowI c.toNat) && decide (lowI c.toNat ≤ 122)) = true ∧ IntKind.u8.wrap (IntKind.u8.wrap (lowI c.toNat - 97) + 10) = (digV c.toNat : Int) := by
  have := digOk_all ⟨c.toNat, c.toNat_lt⟩
  unfold digOk at this
  simp only [h, hn, if_true, Bool.false_eq_true, if_false, Bool.and_eq_true, decide_eq_true_eq] at this
  simp only [Bool.and_eq_true, decide_eq_true_eq]
  exact this
theorem valB_snoc {b : Nat} : ∀ {l : List UInt8} {c : UInt8} {a n : Nat}, valB b l a = some n → valB b (l ++ [c]) a = if digV c.toNat < b then some (n * b + digV c.toNat) else none
  | [], c, a, n, h => by simp only [valB, Option.some.injEq] at h; subst h; simp [valB]
  | x :: l, c, a, n, h => by
    simp only [valB, List.cons_append] at h ⊢
    split at h
    · rename_i hx; rw [if_pos hx]; exact valB_snoc h
    · cases h
theorem valB_none {b : Nat} : ∀ {l r : List UInt8} {a : Nat}, valB b l a = none → valB b (l ++ r) a = none
  | [], r, a, h => by simp [valB] at h
  | x :: l, r, a, h => by
    simp only [valB, List.cons_append] at h ⊢
    split at h
    · rename_i hx; rw [if_pos hx]; exact valB_none h
    · rename_i hx; rw [if_neg hx]
theorem take_snoc {s : List UInt8} {i : Nat} (hi : i < s.length) : s.take (i + 1) = s.take i ++ [s.getD i 0] := by
  rw [List.take_add_one]
  simp [List.getElem?_eq_getElem hi, List.getD_eq_getElem?_getD]
theorem valB_next {b : Nat} {s : List UInt8} {i n : Nat} (hi : i < s.length) (h : valB b (s.take i) 0 = some n) (hd : digV (s.getD i 0).toNat < b) : valB b (s.take (i + 1)) 0 = some (n * b + digV (s.getD i 0).toNat) := by
  rw [take_snoc hi, valB_snoc h, if_pos hd]
theorem valB_bad {b : Nat} {s : List UInt8} {i n : Nat} (hi : i < s.length) (h : valB b (s.take i) 0 = some n) (hd : ¬ digV (s.getD i 0).toNat < b) : valB b s 0 = none := by
  have h1 : valB b (s.take (i + 1)) 0 = none := by rw [take_snoc hi, valB_snoc h, if_neg hd]
  have := valB_none (r := s.drop (i + 1)) h1
  rwa [List.take_append_drop] at this
/-- What ParseUint makes of digits that are few enough. -/
def puF (b : Nat) (s : List UInt8) : Option Nat := if s = [] then none else valB b s 0
def puV : Option Nat → SV
  | some n => .tup [.i .u64 n, .raw .nilIface]
  | none => .tup [.i .u64 0, .iface 213 (.i .i64 2)]
theorem wu64 {x : Int} (h1 : 0 ≤ x) (h2 : x ≤ 18446744073709551615) : IntKind.u64.wrap x = x := IntWalk.u64_in x ⟨h1, h2⟩

set_option maxHeartbeats 4000000 in
theorem ipu10_ok (s : List UInt8) (hn : ∀ c ∈ s, numB (c.toNat : Int) = true) (hl : s.length ≤ 19) : CtrV Tryz.prog 151 [.s s, .i .i64 10, .i .i64 64] (puV (puF 10 s)) := by
  refine Ctr.enterV tabOkF (fn := Tryz.f151) rfl rfl rfl rfl rfl (by unfold puV; split <;> rfl) ?_
  refine ⟨fun h => ?_, fun h => ?_⟩
  · have h : s = [] := of_decide_eq_true h
    subst h; rfl
  have hne : s ≠ [] := of_decide_eq_false h
  have hpu : puF 10 s = valB 10 s 0 := by unfold puF; rw [if_neg hne]
  refine ⟨fun _ => ?_, fun h => absurd h (by decide)⟩
  refine ⟨fun h => absurd h (by decide), fun _ => ?_⟩
  refine ⟨fun h => absurd h (by decide), fun _ => ?_⟩
  refine ⟨fun _ => ?_, fun h => absurd h (by decide)⟩
  refine ⟨fun _ => by decide, ?_⟩
  refine OpC.bytes tabOkF rfl rfl rfl rfl rfl rfl rfl rfl rfl fun ad cap => ?_
  refine WpC.loop tabOkF (β := Nat × Nat) (fun x => x.1 ≤ s.length ∧ valB 10 (s.take x.1) 0 = some x.2 ∧ x.2 < 10 ^ x.1) (fun x => [(13, .i .u64 x.2), (101, .i .i64 x.1), (12, .b false)]) (fun _ => []) (fun x => s.length - x.1) (0, 0) 23384026197294446688723656123004069511501514518720 ⟨Nat.zero_le _, rfl, by decide⟩ ?_ ?_
  · exact ⟨rfl, ⟨⟨rfl, rfl, rfl⟩, ⟨rfl, rfl, rfl⟩, ⟨rfl, rfl, rfl⟩, trivial⟩, ⟨[], rfl⟩, trivial, rfl⟩
  · rintro ⟨i, n⟩ ⟨hi, hv, hlt⟩
    simp only at hi hv hlt
    refine ⟨fun h2 => ?_, fun h2 => ?_⟩
    · have h2 : i < s.length := by
        have h2 : decide ((i : Int) < s.length) = true := h2
        simpa using h2
      have hpw : 10 ^ i ≤ 1000000000000000000 := by
        have : 10 ^ i ≤ 10 ^ 18 := Nat.pow_le_pow_right (by decide) (by omega)
        exact Nat.le_trans this (by decide)
      have hmem : numB ((s.getD i 0).toNat : Int) = true := hn _ (by
        rw [List.getD_eq_getElem?_getD, List.getElem?_eq_getElem h2]; exact List.getElem_mem h2)
      refine ⟨fun _ => ⟨by omega, by omega⟩, ?_⟩
      refine ⟨fun h3 => ?_, fun _ => ?_⟩
      · exfalso
        have h3 : (decide (((s.getD i 0).toNat : Int) = 95) && decide ((10 : Int) = 0)) = true := h3
        simp at h3
      have fin : ∀ D : Int, D = (digV (s.getD i 0).toNat : Int) → digV (s.getD i 0).toNat < 10 → IntKind.u64.wrap (IntKind.u64.wrap ((n : Int) * IntKind.u64.wrap 10) + IntKind.u64.wrap D) = ((n * 10 + digV (s.getD i 0).toNat : Nat) : Int) ∧ IntKind.u64.wrap ((n : Int) * IntKind.u64.wrap 10) = ((n * 10 : Nat) : Int) := by
        intro D hD hd
        have e1 : IntKind.u64.wrap 10 = 10 := rfl
        have e2 : IntKind.u64.wrap ((n : Int) * 10) = (n : Int) * 10 := wu64 (by omega) (by omega)
        have e3 : IntKind.u64.wrap D = D := wu64 (by omega) (by omega)
        rw [e1, e2, e3, wu64 (by omega) (by omega), hD]
        exact ⟨by push_cast; rfl, by push_cast; rfl⟩
      refine ⟨fun h4 => ?_, fun h4 => ?_⟩
      · have h4 : (decide (48 ≤ ((s.getD i 0).toNat : Int)) && decide (((s.getD i 0).toNat : Int) ≤ 57)) = true := h4
        have hD := dig_num h4
        refine ⟨fun h5 => ?_, fun h5 => ?_⟩
        · have h5 : decide (IntKind.u8.wrap 10 ≤ IntKind.u8.wrap (((s.getD i 0).toNat : Int) - 48)) = true := h5
          have h5 := of_decide_eq_true h5
          have e8 : IntKind.u8.wrap 10 = 10 := rfl
          rw [e8, hD] at h5
          show _ = puV (puF 10 s)
          rw [hpu, valB_bad h2 hv (by omega)]
          rfl
        · have h5 : decide (IntKind.u8.wrap 10 ≤ IntKind.u8.wrap (((s.getD i 0).toNat : Int) - 48)) = false := h5
          have h5 := of_decide_eq_false h5
          have e8 : IntKind.u8.wrap 10 = 10 := rfl
          rw [e8, hD] at h5
          have hd : digV (s.getD i 0).toNat < 10 := by omega
          obtain ⟨f1, f2⟩ := fin _ hD hd
          refine ⟨fun h6 => ?_, fun _ => ⟨fun h7 => ?_, fun _ => ?_⟩⟩
          · have h6 : decide ((1844674407370955162 : Int) ≤ n) = true := h6
            have h6 := of_decide_eq_true h6
            omega
          · exfalso
            have h7 : (decide (IntKind.u64.wrap (IntKind.u64.wrap ((n : Int) * IntKind.u64.wrap 10) + IntKind.u64.wrap (IntKind.u8.wrap (((s.getD i 0).toNat : Int) - 48))) < IntKind.u64.wrap ((n : Int) * IntKind.u64.wrap 10)) || decide ((18446744073709551615 : Int) < IntKind.u64.wrap (IntKind.u64.wrap ((n : Int) * IntKind.u64.wrap 10) + IntKind.u64.wrap (IntKind.u8.wrap (((s.getD i 0).toNat : Int) - 48))))) = true := h7
            rw [f1, f2] at h7
            simp only [Bool.or_eq_true, decide_eq_true_eq] at h7
            omega
          · refine ⟨(i + 1, n * 10 + digV (s.getD i 0).toNat), ⟨h2, valB_next h2 hv hd, ?_⟩, by show s.length - (i + 1) < s.length - i; omega, rfl, ⟨⟨?_, rfl, rfl⟩, ⟨?_, rfl, rfl⟩, ⟨rfl, rfl, rfl⟩, trivial⟩, ⟨[], rfl⟩, trivial, rfl⟩
            · show n * 10 + digV (s.getD i 0).toNat < 10 ^ (i + 1)
              rw [Nat.pow_succ]; omega
            · exact congrArg (SV.i .u64) f1
            · show SV.i .i64 (IntKind.i64.wrap ((i : Int) + 1)) = SV.i .i64 ((i + 1 : Nat) : Int)
              rw [w64 (by omega) (by omega)]; rfl
      · have h4 : (decide (48 ≤ ((s.getD i 0).toNat : Int)) && decide (((s.getD i 0).toNat : Int) ≤ 57)) = false := h4
        obtain ⟨hD1, hD⟩ := dig_let hmem h4
        refine OpC.callV rfl rfl rfl rfl rfl rfl rfl (fun _ => lower_ok _) ?_
        refine OpC.callV rfl rfl rfl rfl rfl rfl rfl (fun _ => lower_ok _) ?_
        refine ⟨fun _ => ?_, fun h5 => absurd (hD1.symm.trans h5) (by decide)⟩
        refine OpC.callV rfl rfl rfl rfl rfl rfl rfl (fun _ => lower_ok _) ?_
        refine ⟨fun h5 => ?_, fun h5 => ?_⟩
        · have h5 : decide (IntKind.u8.wrap 10 ≤ IntKind.u8.wrap (IntKind.u8.wrap (lowI ((s.getD i 0).toNat : Int) - 97) + 10)) = true := h5
          have h5 := of_decide_eq_true h5
          have e8 : IntKind.u8.wrap 10 = 10 := rfl
          rw [e8, hD] at h5
          show _ = puV (puF 10 s)
          rw [hpu, valB_bad h2 hv (by omega)]
          rfl
        · have h5 : decide (IntKind.u8.wrap 10 ≤ IntKind.u8.wrap (IntKind.u8.wrap (lowI ((s.getD i 0).toNat : Int) - 97) + 10)) = false := h5
          have h5 := of_decide_eq_false h5
          have e8 : IntKind.u8.wrap 10 = 10 := rfl
          rw [e8, hD] at h5
          have hd : digV (s.getD i 0).toNat < 10 := by omega
          obtain ⟨f1, f2⟩ := fin _ hD hd
          refine ⟨fun h6 => ?_, fun _ => ⟨fun h7 => ?_, fun _ => ?_⟩⟩
          · have h6 : decide ((1844674407370955162 : Int) ≤ n) = true := h6
            have h6 := of_decide_eq_true h6
            omega
          · exfalso
            have h7 : (decide (IntKind.u64.wrap (IntKind.u64.wrap ((n : Int) * IntKind.u64.wrap 10) + IntKind.u64.wrap (IntKind.u8.wrap (IntKind.u8.wrap (lowI ((s.getD i 0).toNat : Int) - 97) + 10))) < IntKind.u64.wrap ((n : Int) * IntKind.u64.wrap 10)) || decide ((18446744073709551615 : Int) < IntKind.u64.wrap (IntKind.u64.wrap ((n : Int) * IntKind.u64.wrap 10) + IntKind.u64.wrap (IntKind.u8.wrap (IntKind.u8.wrap (lowI ((s.getD i 0).toNat : Int) - 97) + 10))))) = true := h7
            rw [f1, f2] at h7
            simp only [Bool.or_eq_true, decide_eq_true_eq] at h7
            omega
          · refine ⟨(i + 1, n * 10 + digV (s.getD i 0).toNat), ⟨h2, valB_next h2 hv hd, ?_⟩, by show s.length - (i + 1) < s.length - i; omega, rfl, ⟨⟨?_, rfl, rfl⟩, ⟨?_, rfl, rfl⟩, ⟨rfl, rfl, rfl⟩, trivial⟩, ⟨[], rfl⟩, trivial, rfl⟩
            · show n * 10 + digV (s.getD i 0).toNat < 10 ^ (i + 1)
              rw [Nat.pow_succ]; omega
            · exact congrArg (SV.i .u64) f1
            · show SV.i .i64 (IntKind.i64.wrap ((i : Int) + 1)) = SV.i .i64 ((i + 1 : Nat) : Int)
              rw [w64 (by omega) (by omega)]; rfl
    · have h2 : i = s.length := by
        have h2 : decide ((i : Int) < s.length) = false := h2
        simp at h2; omega
      subst h2
      rw [List.take_length] at hv
      refine OpC.callV rfl rfl rfl rfl rfl rfl rfl (r := .b true) (fun hg => (by cases hg)) ?_
      refine ⟨fun h => (by cases h), fun _ => ?_⟩
      show _ = puV (puF 10 s)
      rw [hpu, hv]
      rfl

set_option maxHeartbeats 4000000 in
theorem ipu16_ok (s : List UInt8) (hn : ∀ c ∈ s, numB (c.toNat : Int) = true) (hl : s.length ≤ 16) : CtrV Tryz.prog 151 [.s s, .i .i64 16, .i .i64 64] (puV (puF 16 s)) := by
  refine Ctr.enterV tabOkF (fn := Tryz.f151) rfl rfl rfl rfl rfl (by unfold puV; split <;> rfl) ?_
  refine ⟨fun h => ?_, fun h => ?_⟩
  · have h : s = [] := of_decide_eq_true h
    subst h; rfl
  have hne : s ≠ [] := of_decide_eq_false h
  have hpu : puF 16 s = valB 16 s 0 := by unfold puF; rw [if_neg hne]
  refine ⟨fun _ => ?_, fun h => absurd h (by decide)⟩
  refine ⟨fun h => absurd h (by decide), fun _ => ?_⟩
  refine ⟨fun h => absurd h (by decide), fun _ => ?_⟩
  refine ⟨fun h => absurd h (by decide), fun _ => ?_⟩
  refine ⟨fun _ => ?_, fun h => absurd h (by decide)⟩
  refine ⟨fun _ => by decide, ?_⟩
  refine OpC.bytes tabOkF rfl rfl rfl rfl rfl rfl rfl rfl rfl fun ad cap => ?_
  refine WpC.loop tabOkF (β := Nat × Nat) (fun x => x.1 ≤ s.length ∧ valB 16 (s.take x.1) 0 = some x.2 ∧ x.2 < 16 ^ x.1) (fun x => [(13, .i .u64 x.2), (101, .i .i64 x.1), (12, .b false)]) (fun _ => []) (fun x => s.length - x.1) (0, 0) 23384026197294446688723656123004069511501514518720 ⟨Nat.zero_le _, rfl, by decide⟩ ?_ ?_
  · exact ⟨rfl, ⟨⟨rfl, rfl, rfl⟩, ⟨rfl, rfl, rfl⟩, ⟨rfl, rfl, rfl⟩, trivial⟩, ⟨[], rfl⟩, trivial, rfl⟩
  · rintro ⟨i, n⟩ ⟨hi, hv, hlt⟩
    simp only at hi hv hlt
    refine ⟨fun h2 => ?_, fun h2 => ?_⟩
    · have h2 : i < s.length := by
        have h2 : decide ((i : Int) < s.length) = true := h2
        simpa using h2
      have hpw : 16 ^ i ≤ 1152921504606846976 := by
        have : 16 ^ i ≤ 16 ^ 15 := Nat.pow_le_pow_right (by decide) (by omega)
        exact Nat.le_trans this (by decide)
      have hmem : numB ((s.getD i 0).toNat : Int) = true := hn _ (by
        rw [List.getD_eq_getElem?_getD, List.getElem?_eq_getElem h2]; exact List.getElem_mem h2)
      refine ⟨fun _ => ⟨by omega, by omega⟩, ?_⟩
      refine ⟨fun h3 => ?_, fun _ => ?_⟩
      · exfalso
        have h3 : (decide (((s.getD i 0).toNat : Int) = 95) && decide ((16 : Int) = 0)) = true := h3
        simp at h3
      have fin : ∀ D : Int, D = (digV (s.getD i 0).toNat : Int) → digV (s.getD i 0).toNat < 16 → IntKind.u64.wrap (IntKind.u64.wrap ((n : Int) * IntKind.u64.wrap 16) + IntKind.u64.wrap D) = ((n * 16 + digV (s.getD i 0).toNat : Nat) : Int) ∧ IntKind.u64.wrap ((n : Int) * IntKind.u64.wrap 16) = ((n * 16 : Nat) : Int) := by
        intro D hD hd
        have e1 : IntKind.u64.wrap 16 = 16 := rfl
        have e2 : IntKind.u64.wrap ((n : Int) * 16) = (n : Int) * 16 := wu64 (by omega) (by omega)
        have e3 : IntKind.u64.wrap D = D := wu64 (by omega) (by omega)
        rw [e1, e2, e3, wu64 (by omega) (by omega), hD]
        exact ⟨by push_cast; rfl, by push_cast; rfl⟩
      refine ⟨fun h4 => ?_, fun h4 => ?_⟩
      · have h4 : (decide (48 ≤ ((s.getD i 0).toNat : Int)) && decide (((s.getD i 0).toNat : Int) ≤ 57)) = true := h4
        have hD := dig_num h4
        refine ⟨fun h5 => ?_, fun h5 => ?_⟩
        · have h5 : decide (IntKind.u8.wrap 16 ≤ IntKind.u8.wrap (((s.getD i 0).toNat : Int) - 48)) = true := h5
          have h5 := of_decide_eq_true h5
          have e8 : IntKind.u8.wrap 16 = 16 := rfl
          rw [e8, hD] at h5
          show _ = puV (puF 16 s)
          rw [hpu, valB_bad h2 hv (by omega)]
          rfl
        · have h5 : decide (IntKind.u8.wrap 16 ≤ IntKind.u8.wrap (((s.getD i 0).toNat : Int) - 48)) = false := h5
          have h5 := of_decide_eq_false h5
          have e8 : IntKind.u8.wrap 16 = 16 := rfl
          rw [e8, hD] at h5
          have hd : digV (s.getD i 0).toNat < 16 := by omega
          obtain ⟨f1, f2⟩ := fin _ hD hd
          refine ⟨fun h6 => ?_, fun _ => ⟨fun h7 => ?_, fun _ => ?_⟩⟩
          · have h6 : decide ((1152921504606846976 : Int) ≤ n) = true := h6
            have h6 := of_decide_eq_true h6
            omega
          · exfalso
            have h7 : (decide (IntKind.u64.wrap (IntKind.u64.wrap ((n : Int) * IntKind.u64.wrap 16) + IntKind.u64.wrap (IntKind.u8.wrap (((s.getD i 0).toNat : Int) - 48))) < IntKind.u64.wrap ((n : Int) * IntKind.u64.wrap 16)) || decide ((18446744073709551615 : Int) < IntKind.u64.wrap (IntKind.u64.wrap ((n : Int) * IntKind.u64.wrap 16) + IntKind.u64.wrap (IntKind.u8.wrap (((s.getD i 0).toNat : Int) - 48))))) = true := h7
            rw [f1, f2] at h7
            simp only [Bool.or_eq_true, decide_eq_true_eq] at h7
            omega
          · refine ⟨(i + 1, n * 16 + digV (s.getD i 0).toNat), ⟨h2, valB_next h2 hv hd, ?_⟩, by show s.length - (i + 1) < s.length - i; omega, rfl, ⟨⟨?_, rfl, rfl⟩, ⟨?_, rfl, rfl⟩, ⟨rfl, rfl, rfl⟩, trivial⟩, ⟨[], rfl⟩, trivial, rfl⟩
            · show n * 16 + digV (s.getD i 0).toNat < 16 ^ (i + 1)
              rw [Nat.pow_succ]; omega
            · exact congrArg (SV.i .u64) f1
            · show SV.i .i64 (IntKind.i64.wrap ((i : Int) + 1)) = SV.i .i64 ((i + 1 : Nat) : Int)
              rw [w64 (by omega) (by omega)]; rfl
      · have h4 : (decide (48 ≤ ((s.getD i 0).toNat : Int)) && decide (((s.getD i 0).toNat : Int) ≤ 57)) = false := h4
        obtain ⟨hD1, hD⟩ := dig_let hmem h4
        refine OpC.callV rfl rfl rfl rfl rfl rfl rfl (fun _ => lower_ok _) ?_
        refine OpC.callV rfl rfl rfl rfl rfl rfl rfl (fun _ => lower_ok _) ?_
        refine ⟨fun _ => ?_, fun h5 => absurd (hD1.symm.trans h5) (by decide)⟩
        refine OpC.callV rfl rfl rfl rfl rfl rfl rfl (fun _ => lower_ok _) ?_
        refine ⟨fun h5 => ?_, fun h5 => ?_⟩
        · have h5 : decide (IntKind.u8.wrap 16 ≤ IntKind.u8.wrap (IntKind.u8.wrap (lowI ((s.getD i 0).toNat : Int) - 97) + 10)) = true := h5
          have h5 := of_decide_eq_true h5
          have e8 : IntKind.u8.wrap 16 = 16 := rfl
          rw [e8, hD] at h5
          show _ = puV (puF 16 s)
          rw [hpu, valB_bad h2 hv (by omega)]
          rfl
        · have h5 : decide (IntKind.u8.wrap 16 ≤ IntKind.u8.wrap (IntKind.u8.wrap (lowI ((s.getD i 0).toNat : Int) - 97) + 10)) = false := h5
          have h5 := of_decide_eq_false h5
          have e8 : IntKind.u8.wrap 16 = 16 := rfl
          rw [e8, hD] at h5
          have hd : digV (s.getD i 0).toNat < 16 := by omega
          obtain ⟨f1, f2⟩ := fin _ hD hd
          refine ⟨fun h6 => ?_, fun _ => ⟨fun h7 => ?_, fun _ => ?_⟩⟩
          · have h6 : decide ((1152921504606846976 : Int) ≤ n) = true := h6
            have h6 := of_decide_eq_true h6
            omega
          · exfalso
            have h7 : (decide (IntKind.u64.wrap (IntKind.u64.wrap ((n : Int) * IntKind.u64.wrap 16) + IntKind.u64.wrap (IntKind.u8.wrap (IntKind.u8.wrap (lowI ((s.getD i 0).toNat : Int) - 97) + 10))) < IntKind.u64.wrap ((n : Int) * IntKind.u64.wrap 16)) || decide ((18446744073709551615 : Int) < IntKind.u64.wrap (IntKind.u64.wrap ((n : Int) * IntKind.u64.wrap 16) + IntKind.u64.wrap (IntKind.u8.wrap (IntKind.u8.wrap (lowI ((s.getD i 0).toNat : Int) - 97) + 10))))) = true := h7
            rw [f1, f2] at h7
            simp only [Bool.or_eq_true, decide_eq_true_eq] at h7
            omega
          · refine ⟨(i + 1, n * 16 + digV (s.getD i 0).toNat), ⟨h2, valB_next h2 hv hd, ?_⟩, by show s.length - (i + 1) < s.length - i; omega, rfl, ⟨⟨?_, rfl, rfl⟩, ⟨?_, rfl, rfl⟩, ⟨rfl, rfl, rfl⟩, trivial⟩, ⟨[], rfl⟩, trivial, rfl⟩
            · show n * 16 + digV (s.getD i 0).toNat < 16 ^ (i + 1)
              rw [Nat.pow_succ]; omega
            · exact congrArg (SV.i .u64) f1
            · show SV.i .i64 (IntKind.i64.wrap ((i : Int) + 1)) = SV.i .i64 ((i + 1 : Nat) : Int)
              rw [w64 (by omega) (by omega)]; rfl
    · have h2 : i = s.length := by
        have h2 : decide ((i : Int) < s.length) = false := h2
        simp at h2; omega
      subst h2
      rw [List.take_length] at hv
      refine OpC.callV rfl rfl rfl rfl rfl rfl rfl (r := .b true) (fun hg => (by cases hg)) ?_
      refine ⟨fun h => (by cases h), fun _ => ?_⟩
      show _ = puV (puF 16 s)
      rw [hpu, hv]
      rfl
end SX
end Go.Proofs.YthkedcneehdinaaGreatDoor

/- Words of a text: contracts of the library; a number's value. -/
set_option linter.unusedVariables false
set_option maxRecDepth 100000
namespace Go.Proofs.YthkedcneehdinaaGreatDoor
namespace SX
open Go Go.Proofs
theorem grow_zero (w : World) : Sort.grow (w.drewN 0) #[] = w := by simp [Sort.grow, World.drewN]
theorem maxlen_tab : tabs 1 = some (.anyI .i64) := by kernel_rfl
theorem maxlen_cell {w : World} (hT : TabsIn w) : ∃ n, w.cell? ⟨1, 0, none⟩ = some (.int .i64 n) := by
  obtain ⟨n, arr, t, fr, h1, h2⟩ := hT _ _ maxlen_tab
  have h1 : w.heap[1]? = some (.cells arr t fr) := h1
  exact ⟨n, by unfold World.cell?; simp only [h1]; simpa using h2⟩
theorem sIndex_ok (s p : List UInt8) (hs : s.length ≤ 100000) : CtrV Tryz.prog 40 [.s s, .s p] (.i .i64 (Lib.index s p)) :=
  CtrV.of_grow (fn := Tryz.f40) Tryz.func40 rfl rfl (fun m => trivial) rfl fun w hT E m _ => by
    obtain ⟨n, hm⟩ := maxlen_cell hT
    refine (Any.strings_Index Tryz.TIdx ⟨⟨s⟩⟩ ⟨⟨p⟩⟩ n w (by show s.length < 4294967281; omega) hm).mono ?_
    rintro e w' ⟨he, rfl⟩
    exact ⟨he, 0, #[], (grow_zero _).symm⟩
theorem sContains_ok (s p : List UInt8) (hs : s.length ≤ 100000) : CtrV Tryz.prog 87 [.s s, .s p] (.b (Lib.contains s p)) :=
  CtrV.of_grow (fn := Tryz.f87) Tryz.func87 rfl rfl (fun m => trivial) rfl fun w hT E m _ => by
    obtain ⟨n, hm⟩ := maxlen_cell hT
    refine (Any.strings_Contains Tryz.TCon ⟨⟨s⟩⟩ ⟨⟨p⟩⟩ n w (by show s.length < 4294967281; omega) hm).mono ?_
    rintro e w' ⟨he, rfl⟩
    exact ⟨he, 0, #[], (grow_zero _).symm⟩
theorem sIndexByte_ok (s : List UInt8) (c : Int) : CtrV Tryz.prog 47 [.s s, .i .u8 c] (.i .i64 (Lib.indexByte s c.toNat.toUInt8)) :=
  CtrV.of_grow (fn := Tryz.f47) Tryz.func47 rfl rfl (fun m => trivial) rfl fun w hT E m _ => by
    refine (Any.strings_IndexByte Tryz.TIxb ⟨⟨s⟩⟩ c w).mono ?_
    rintro e w' ⟨he, rfl⟩
    exact ⟨he, 0, #[], (grow_zero _).symm⟩
theorem no_mark {s : List UInt8} {c : UInt8} (h : c ∉ s) : Lib.contains s [c] = false := by
  have key : ∀ s : List UInt8, c ∉ s → Lib.indexByte s c = -1 := by
    intro s
    induction s with
    | nil => intro _; rfl
    | cons b l ih =>
      intro h
      simp only [List.mem_cons, not_or] at h
      unfold Lib.indexByte
      have hb : (b == c) = false := by simp; exact fun e => h.1 e.symm
      rw [hb, ih h.2]; rfl
  unfold Lib.contains
  rw [Lib.index_one, key s h]
  rfl
theorem drKeep_no : drKeep = false := rfl
theorem syn_tab : tabs 3 = some .ifc := by kernel_rfl
/-- The error of a text that is no number. -/
theorem toErr_ok (f s : List UInt8) (hs : s.length ≤ 100000) (b k : Int) : Ctr Tryz.prog 152 [.s f, .s s, .i .i64 b, .i .i64 k, .iface 213 (.i .i64 2)] [] (fun r h => (∃ v, r = .iface 215 (.raw v) ∧ cellV v = true) ∧ h = []) := by
  refine ⟨fun C E m w hr ha => ?_⟩
  have hrun : (callFunc 152 (denL E [.s f, .s s, .i .i64 b, .i .i64 k, .iface 213 (.i .i64 2)]).toArray).run Tryz.prog w = .ok (.enter 152 (denL E [.s f, .s s, .i .i64 b, .i .i64 k, .iface 213 (.i .i64 2)]).toArray) w :=
    enters_of Tryz.func152 (by kernel_rfl) rfl _ w
  obtain ⟨tt, v, t, fr, h1⟩ := hr.tabs _ _ syn_tab
  have h1 : w.heap[3]? = some (.cells #[.iface tt v] t fr) := h1
  have hc : w.cell? ⟨3, 0, none⟩ = some (.iface tt v) := by unfold World.cell?; simp only [h1]; rfl
  unfold callX
  rw [hrun]
  refine (AnyPu.strconv_toError_syntax Tryz.TErr ⟨⟨f⟩⟩ ⟨⟨s⟩⟩ b k (.iface tt v) w (by show s.length ≤ 281474976710656; omega) hc (.inr ⟨_, _, rfl⟩)).mono ?_
  rintro e w' ⟨N, rfl, _, _, hw⟩
  refine ⟨_, rfl, .iface 215 (.raw (.pointer (some ⟨N, 0, none⟩))), [], E, m, rfl, ⟨⟨_, rfl, rfl⟩, rfl⟩, ⟨?_, rfl⟩, .refl .., hr.below drKeep_no hw⟩
  simp [Ok, live]
/-- ParseUint's answer. -/
def PuR (x : Option Nat) (r : SV) : Prop :=
  match x with
  | some n => r = .tup [.i .u64 n, .raw .nilIface]
  | none => ∃ v, r = .tup [.i .u64 0, .iface 215 (.raw v)] ∧ cellV v = true
theorem pu_of (b : Nat) (s : List UInt8) (hs : s.length ≤ 100000) (hi : CtrV Tryz.prog 151 [.s s, .i .i64 b, .i .i64 64] (puV (puF b s))) : Ctr Tryz.prog 88 [.s s, .i .i64 b, .i .i64 64] [] (fun r h => PuR (puF b s) r ∧ h = []) := by
  have key : Ctr Tryz.prog 88 [.s s, .i .i64 b, .i .i64 64] [] (fun r h => PuR (puF b s) r ∧ Bnd 0 r) := by
    refine Ctr.enter tabOkF (fn := Tryz.f88) rfl rfl rfl rfl rfl ?_
    cases hx : puF b s with
    | some n =>
      rw [hx] at hi
      refine OpC.callV rfl rfl rfl rfl rfl rfl rfl (fun _ => hi) ?_
      refine ⟨fun h => (by cases h), fun _ => ?_⟩
      exact ⟨rfl, rfl⟩
    | none =>
      rw [hx] at hi
      refine OpC.callV rfl rfl rfl rfl rfl rfl rfl (fun _ => hi) ?_
      refine ⟨fun _ => ?_, fun h => by cases h⟩
      refine OpC.callL rfl rfl rfl rfl [] 0 rfl rfl rfl (toErr_ok [80, 97, 114, 115, 101, 85, 105, 110, 116] s hs b 64) rfl rfl rfl rfl trivial rfl (fun r H' hk => ?_) ?_
      · rw [hk.2]; exact ⟨Nat.le_refl _, Nat.le_refl _⟩
      rintro r H' ⟨⟨v, rfl, hv⟩, rfl⟩
      exact ⟨⟨v, rfl, hv⟩, rfl⟩
  exact key.trim callX_m fun r H1 ⟨h1, h2⟩ => ⟨[], H1, rfl, Nat.zero_le _, trivial, h2, h1, rfl⟩
/-- number's answer. -/
def NumR (x : Option Nat) (r : SV) : Prop :=
  match x with
  | some n => r = .tup [.i .i64 (IntKind.i64.wrap n), .b true]
  | none => ∃ v, r = .tup [.i .i64 v, .b false]
theorem numDs_mem {w : List UInt8} {c : UInt8} (h : c ∈ numDs w) : c ∈ w := by
  unfold numDs at h
  split at h
  · exact List.mem_of_mem_drop h
  · exact h
theorem numDs_len (w : List UInt8) : (numDs w).length ≤ w.length := by
  unfold numDs; split
  · simp
  · exact Nat.le_refl _
theorem pu_any (w : List UInt8) (hn : ∀ c ∈ w, numB (c.toNat : Int) = true) (hl : (numDs w).length ≤ numMost w) : CtrV Tryz.prog 151 [.s (numDs w), .i .i64 (numBase w), .i .i64 64] (puV (puF (numBase w) (numDs w))) := by
  unfold numBase numMost at *
  split at hl
  · rename_i h; simp only [h, if_true]; exact ipu16_ok _ (fun c hc => hn c (numDs_mem hc)) hl
  · rename_i h; simp only [h, if_false]; exact ipu10_ok _ (fun c hc => hn c (numDs_mem hc)) hl
theorem numF_eq {w : List UInt8} (hl : (numDs w).length ≤ numMost w) : numF w = (match puF (numBase w) (numDs w) with | none => none | some n => if n ≤ 9223372036854775808 then some n else none) := by
  unfold numF puF
  rw [if_neg (by omega)]
  split
  · rfl
  · rfl
theorem number_ok (w : List UInt8) (hn : ∀ c ∈ w, numB (c.toNat : Int) = true) (hw : w.length ≤ 10000) : Ctr Tryz.prog 45 [.s w] [] (fun r h => NumR (numF w) r ∧ h = []) := by
  have hnd := numDs_len w
  have hcon : Lib.contains (numDs w) [95] = false := no_mark fun h => by
    have := hn _ (numDs_mem h)
    exact absurd this (by decide)
  have key : Ctr Tryz.prog 45 [.s w] [] (fun r h => NumR (numF w) r ∧ Bnd 0 r) := by
    refine Ctr.enter tabOkF (fn := Tryz.f45) rfl rfl rfl rfl rfl ?_
    refine OpC.callV rfl rfl rfl rfl rfl rfl rfl (fun _ => cutPrefix_ok w [48, 120]) ?_
    cases hx : hexB w with
    | true =>
      have hp : pre w [48, 120] = true := hx
      have hds : cutP w [48, 120] = numDs w := by
        unfold cutP numDs; rw [hp, hx]; simp
      have hb : numBase w = 16 := by unfold numBase; rw [hx]; rfl
      have hm : numMost w = 16 := by unfold numMost; rw [hx]; rfl
      rw [hp, hds]
      refine ⟨fun _ => ?_, fun h => by cases h⟩
      refine OpC.callV rfl rfl rfl rfl rfl rfl rfl (fun _ => sContains_ok (numDs w) [95] (by omega)) ?_
      refine ⟨fun h => ?_, fun h => ?_⟩
      · have h : (decide ((16 : Int) < ((numDs w)).length) || Lib.contains (numDs w) [95]) = true := h
        rw [hcon, Bool.or_false] at h
        have h := of_decide_eq_true h
        have h0 : numF w = none := by unfold numF; rw [if_pos (by rw [hm]; omega)]
        rw [h0]
        exact ⟨⟨0, rfl⟩, rfl⟩
      · have h : (decide ((16 : Int) < ((numDs w)).length) || Lib.contains (numDs w) [95]) = false := h
        rw [hcon, Bool.or_false] at h
        have h := of_decide_eq_false h
        have hl : (numDs w).length ≤ numMost w := by rw [hm]; omega
        have hpu := pu_any w hn hl
        rw [hb] at hpu
        rw [numF_eq hl, hb]
        refine OpC.callL rfl rfl rfl rfl [] 0 rfl rfl rfl (pu_of 16 (numDs w) (by omega) hpu) rfl rfl rfl rfl trivial rfl (fun r H' hk => ?_) ?_
        · rw [hk.2]; exact ⟨Nat.le_refl _, Nat.le_refl _⟩
        rintro r H' ⟨hr, rfl⟩
        cases hx2 : puF 16 (numDs w) with
        | some n =>
          rw [hx2] at hr
          have hr : r = .tup [.i .u64 n, .raw .nilIface] := hr
          subst hr
          refine ⟨?_, rfl⟩
          by_cases h2 : n ≤ 9223372036854775808
          · have e : decide ((n : Int) ≤ 9223372036854775808) = true := decide_eq_true (by omega)
            show NumR (if n ≤ 9223372036854775808 then some n else none) (SV.tup [.i .i64 (IntKind.i64.wrap n), .b (true && decide ((n : Int) ≤ 9223372036854775808))])
            rw [if_pos h2, e]
            rfl
          · have e : decide ((n : Int) ≤ 9223372036854775808) = false := decide_eq_false (by omega)
            show NumR (if n ≤ 9223372036854775808 then some n else none) (SV.tup [.i .i64 (IntKind.i64.wrap n), .b (true && decide ((n : Int) ≤ 9223372036854775808))])
            rw [if_neg h2, e]
            exact ⟨_, rfl⟩
        | none =>
          rw [hx2] at hr
          obtain ⟨v, hr, _⟩ := hr
          subst hr
          exact ⟨⟨_, rfl⟩, rfl⟩
    | false =>
      have hp : pre w [48, 120] = false := hx
      have hds : numDs w = w := by unfold numDs; rw [hx]; rfl
      have hb : numBase w = 10 := by unfold numBase; rw [hx]; rfl
      have hm : numMost w = 19 := by unfold numMost; rw [hx]; rfl
      rw [hp]
      rw [hds] at hcon hnd
      refine ⟨fun h => (by cases h), fun _ => ?_⟩
      refine OpC.callV rfl rfl rfl rfl rfl rfl rfl (fun _ => sContains_ok w [95] (by omega)) ?_
      refine ⟨fun h => ?_, fun h => ?_⟩
      · have h : (decide ((19 : Int) < (w).length) || Lib.contains w [95]) = true := h
        rw [hcon, Bool.or_false] at h
        have h := of_decide_eq_true h
        have h0 : numF w = none := by unfold numF; rw [if_pos (by rw [hm, hds]; omega)]
        rw [h0]
        exact ⟨⟨0, rfl⟩, rfl⟩
      · have h : (decide ((19 : Int) < (w).length) || Lib.contains w [95]) = false := h
        rw [hcon, Bool.or_false] at h
        have h := of_decide_eq_false h
        have hl : (numDs w).length ≤ numMost w := by rw [hm, hds]; omega
        have hpu := pu_any w hn hl
        rw [hb, hds] at hpu
        rw [numF_eq hl, hb, hds]
        refine OpC.callL rfl rfl rfl rfl [] 0 rfl rfl rfl (pu_of 10 w (by omega) hpu) rfl rfl rfl rfl trivial rfl (fun r H' hk => ?_) ?_
        · rw [hk.2]; exact ⟨Nat.le_refl _, Nat.le_refl _⟩
        rintro r H' ⟨hr, rfl⟩
        cases hx2 : puF 10 w with
        | some n =>
          rw [hx2] at hr
          have hr : r = .tup [.i .u64 n, .raw .nilIface] := hr
          subst hr
          refine ⟨?_, rfl⟩
          by_cases h2 : n ≤ 9223372036854775808
          · have e : decide ((n : Int) ≤ 9223372036854775808) = true := decide_eq_true (by omega)
            show NumR (if n ≤ 9223372036854775808 then some n else none) (SV.tup [.i .i64 (IntKind.i64.wrap n), .b (true && decide ((n : Int) ≤ 9223372036854775808))])
            rw [if_pos h2, e]
            rfl
          · have e : decide ((n : Int) ≤ 9223372036854775808) = false := decide_eq_false (by omega)
            show NumR (if n ≤ 9223372036854775808 then some n else none) (SV.tup [.i .i64 (IntKind.i64.wrap n), .b (true && decide ((n : Int) ≤ 9223372036854775808))])
            rw [if_neg h2, e]
            exact ⟨_, rfl⟩
        | none =>
          rw [hx2] at hr
          obtain ⟨v, hr, _⟩ := hr
          subst hr
          exact ⟨⟨_, rfl⟩, rfl⟩
  exact key.trim callX_m fun r H1 ⟨h1, h2⟩ => ⟨[], H1, rfl, Nat.zero_le _, trivial, h2, h1, rfl⟩
end SX
end Go.Proofs.YthkedcneehdinaaGreatDoor

/- Words of a text: the program's Tokens (written by tools/tkd.py). -/
set_option linter.unusedVariables false
set_option maxRecDepth 100000
namespace Go.Proofs.YthkedcneehdinaaGreatDoor
namespace SX
open Go Go.Proofs
theorem tkenc_w (t : Tk) : wdL (tkenc t) = 4 := rfl
def rowK (N : Nat) (ts : List Tk) (ver : Nat) : SB := .mem 42 [.arr N Tk tk0 4 tkenc ts] ver 4
theorem bndTk {M N ver : Nat} {ts : List Tk} : BndB M (rowK N ts ver) := ⟨fun _ => rfl, trivial⟩
theorem mark_all : ∀ n : Fin 256, decide ((0 : Int) ≤ Lib.indexByte marksL (UInt8.ofNat n.val)) = decide (UInt8.ofNat n.val ∈ marksL) := by decide +kernel
theorem mark_ix (c : UInt8) : decide ((0 : Int) ≤ Lib.indexByte marksL ((c.toNat : Int).toNat.toUInt8)) = decide (c ∈ marksL) := by
  have h := mark_all ⟨c.toNat, c.toNat_lt⟩
  have e : UInt8.ofNat c.toNat = c := by simp
  simp only [e] at h
  have e2 : ((c.toNat : Int).toNat.toUInt8) = c := by simp
  rw [e2]; exact h
/-- What Tokens hands back. -/
def TokK (s : List UInt8) (r : SV) (h : List SB) : Prop :=
  (∃ ts ver, tokF s = (ts, 0, 0) ∧ r = .tup [.sl 0 ver 0 ts.length none 0, .i .i64 0, .i .i64 0] ∧ h = [rowK ts.length ts ver]) ∨
  (∃ e p, tokF s = ([], e, p) ∧ e ≠ 0 ∧ r = .tup [.nils, .i .i64 e, .i .i64 p] ∧ h = [])
set_option maxHeartbeats 4000000 in
theorem tokens_ok (s : List UInt8) : Ctr Tryz.prog 13 [.s s] [] (TokK s) := by
  have key : Ctr Tryz.prog 13 [.s s] [] (fun r h => (∃ ts ver Y, tokF s = (ts, 0, 0) ∧ r = .tup [.sl 0 ver 0 ts.length none 0, .i .i64 0, .i .i64 0] ∧ h = rowK ts.length ts ver :: Y) ∨
      (∃ (e : Int) (p : Nat), tokF s = ([], e, (p : Int)) ∧ e ≠ 0 ∧ r = .tup [.nils, .i .i64 e, .i .i64 p])) := by
    refine Ctr.enter tabOkF (fn := Tryz.f13) rfl rfl rfl rfl rfl ?_
    refine ⟨fun h1 => ?_, fun h1 => ?_⟩
    · have h1 : 8192 < s.length := by
        have h1 : decide ((8192 : Int) < s.length) = true := h1
        simp at h1; omega
      exact .inr ⟨2, 0, by unfold tokF; rw [if_pos h1]; rfl, by decide, rfl⟩
    have h1 : s.length ≤ 8192 := by
      have h1 : decide ((8192 : Int) < s.length) = false := h1
      simp at h1; omega
    refine WpC.shift (Shift.row (d := 5) rfl 3 42 [.arr 0 Tk tk0 4 tkenc []] (fun E => rfl) (fun m V => ⟨⟨rfl, rfl, tkenc_w, fun j hj => by omega⟩, trivial⟩)) ?_
    refine WpC.loop tabOkF (β := Nat × Nat × List Tk × Nat × Nat) (fun x => x.1 ≤ s.length ∧ s.length < x.1 + x.2.2.2.2 ∧ tokC s x.2.2.2.2 x.1 x.2.2.1 = tokF s ∧ x.2.1 ≤ x.1 ∧ x.2.2.1.length = x.2.1) (fun x => [(6, .i .i64 x.1), (5, .sl 0 x.2.2.2.1 0 x.2.1 none 0)]) (fun x => [rowK x.2.1 x.2.2.1 x.2.2.2.1]) (fun x => s.length - x.1) (0, 0, [], 0, s.length + 1) 41538374868278621028243970633703420 ⟨Nat.zero_le _, by show s.length < 0 + (s.length + 1); omega, by unfold tokF; rw [if_neg (by omega)], Nat.le_refl _, rfl⟩ ?_ ?_
    · exact ⟨rfl, ⟨⟨rfl, rfl, rfl⟩, ⟨rfl, rfl, rfl⟩, trivial⟩, ⟨[], rfl⟩, ⟨bndTk, trivial⟩, rfl⟩
    · rintro ⟨p, N, ts, ver, f⟩ ⟨hi, hf, hc, hlt, hNt⟩
      simp only at hi hf hc hlt hNt
      refine ⟨fun h2 => ?_, fun h2 => ?_⟩
      · have h2 : p < s.length := by
          have h2 : decide ((p : Int) < s.length) = true := h2
          simpa using h2
        obtain ⟨f', rfl, hstep⟩ := tokC_step (out := ts) h2 hf
        rw [hc] at hstep
        have hX : ((s.take s.length).drop (p : Int).toNat) = s.drop p := by rw [List.take_length]; rfl
        have hXl : ((s.take s.length).drop (p : Int).toNat).length = s.length - p := by rw [hX, List.length_drop]
        have hXne : ((s.take s.length).drop (p : Int).toNat) ≠ [] := fun e => by rw [e] at hXl; simp at hXl; omega
        have hob1 : (0 : Int) ≤ p ∧ (p : Int) ≤ s.length := by omega
        refine ⟨fun _ => hob1, ?_⟩
        have hob2 : (0 : Int) ≤ 0 ∧ (0 : Int) < ((s.take s.length).drop (p : Int).toNat).length := by omega
        refine ⟨fun _ => hob2, ?_⟩
        refine ⟨fun h3 => ?_, fun h3 => ?_⟩
        · have h3 : (decide (cd ((s.take s.length).drop (p : Int).toNat) 0 = 32) || decide (cd ((s.take s.length).drop (p : Int).toNat) 0 = 9) || decide (cd ((s.take s.length).drop (p : Int).toNat) 0 = 10)) = true := h3
          have hst : stepF (s.drop p) p = .skip 1 := by
            unfold stepF
            rw [if_pos (by rw [← hX]; exact h3)]
          rw [hst] at hstep
          have k1 : p + 1 ≤ s.length := by omega
          have k2 : s.length < p + 1 + f' := by omega
          have k3 : N ≤ p + 1 := by omega
          have k4 : s.length - (p + 1) < s.length - p := by omega
          refine ⟨(p + 1, N, ts, ver, f'), ⟨k1, k2, hstep.symm, k3, hNt⟩, k4, rfl, ⟨⟨?_, rfl, rfl⟩, ⟨rfl, rfl, rfl⟩, trivial⟩, ⟨_, rfl⟩, ⟨bndTk, trivial⟩, rfl⟩
          show SV.i .i64 (IntKind.i64.wrap ((p : Int) + 1)) = SV.i .i64 ((p + 1 : Nat) : Int)
          rw [w64 (by omega) (by omega)]; rfl
        have h3 : (decide (cd ((s.take s.length).drop (p : Int).toNat) 0 = 32) || decide (cd ((s.take s.length).drop (p : Int).toNat) 0 = 9) || decide (cd ((s.take s.length).drop (p : Int).toNat) 0 = 10)) = false := h3
        refine OpC.callV rfl rfl rfl rfl rfl rfl rfl (fun _ => hasPrefix_ok ((s.take s.length).drop (p : Int).toNat) [40, 42]) ?_
        refine ⟨fun h4 => ?_, fun h4 => ?_⟩
        · have h4 : pre ((s.take s.length).drop (p : Int).toNat) [40, 42] = true := h4
          have hl2 : 2 ≤ ((s.take s.length).drop (p : Int).toNat).length := pre_len h4
          have hob : (0 : Int) ≤ 2 ∧ (2 : Int) ≤ ((s.take s.length).drop (p : Int).toNat).length := by omega
          refine ⟨fun _ => hob, ?_⟩
          have hY : (((s.take s.length).drop (p : Int).toNat).take ((s.take s.length).drop (p : Int).toNat).length).drop (2 : Int).toNat = (s.drop p).drop 2 := by rw [List.take_length, hX]; rfl
          refine OpC.callV rfl rfl rfl rfl rfl rfl rfl (fun _ => sIndex_ok ((((s.take s.length).drop (p : Int).toNat).take ((s.take s.length).drop (p : Int).toNat).length).drop (2 : Int).toNat) [42, 41] (by rw [hY]; simp; omega)) ?_
          refine ⟨fun h5 => ?_, fun h5 => ?_⟩
          · have h5 : decide (Lib.index ((((s.take s.length).drop (p : Int).toNat).take ((s.take s.length).drop (p : Int).toNat).length).drop (2 : Int).toNat) [42, 41] < 0) = true := h5
            have h5 := of_decide_eq_true h5
            rw [hY] at h5
            have hst : stepF (s.drop p) p = .err 24 := by
              unfold stepF
              rw [if_neg (by rw [← hX, h3]; decide)]
              rw [if_pos (by rw [← hX]; exact h4)]
              rw [if_pos h5]
            rw [hst] at hstep
            exact .inr ⟨24, p, hstep, by decide, rfl⟩
          · have h5 : decide (Lib.index ((((s.take s.length).drop (p : Int).toNat).take ((s.take s.length).drop (p : Int).toNat).length).drop (2 : Int).toNat) [42, 41] < 0) = false := h5
            have h5 := of_decide_eq_false h5
            have hle := Lib.index_le ((((s.take s.length).drop (p : Int).toNat).take ((s.take s.length).drop (p : Int).toNat).length).drop (2 : Int).toNat) [42, 41]
            have hroom := Lib.index_room ((((s.take s.length).drop (p : Int).toNat).take ((s.take s.length).drop (p : Int).toNat).length).drop (2 : Int).toNat) [42, 41] (by omega)
            rw [hY] at h5 hle hroom
            simp only [List.length_drop, List.length_cons, List.length_nil] at hle hroom
            have hst : stepF (s.drop p) p = .skip ((Lib.index ((s.drop p).drop 2) [42, 41]).toNat + 4) := by
              unfold stepF
              rw [if_neg (by rw [← hX, h3]; decide), if_pos (by rw [← hX]; exact h4), if_neg h5]
            rw [hst] at hstep
            have k1 : p + ((Lib.index ((s.drop p).drop 2) [42, 41]).toNat + 4) ≤ s.length := by omega
            have k2 : s.length < p + ((Lib.index ((s.drop p).drop 2) [42, 41]).toNat + 4) + f' := by omega
            have k3 : N ≤ p + ((Lib.index ((s.drop p).drop 2) [42, 41]).toNat + 4) := by omega
            have k4 : s.length - (p + ((Lib.index ((s.drop p).drop 2) [42, 41]).toNat + 4)) < s.length - p := by omega
            refine ⟨(p + ((Lib.index ((s.drop p).drop 2) [42, 41]).toNat + 4), N, ts, ver, f'), ⟨k1, k2, hstep.symm, k3, hNt⟩, k4, rfl, ⟨⟨?_, rfl, rfl⟩, ⟨rfl, rfl, rfl⟩, trivial⟩, ⟨_, rfl⟩, ⟨bndTk, trivial⟩, rfl⟩
            show SV.i .i64 (IntKind.i64.wrap ((p : Int) + IntKind.i64.wrap (Lib.index ((((s.take s.length).drop (p : Int).toNat).take ((s.take s.length).drop (p : Int).toNat).length).drop (2 : Int).toNat) [42, 41] + 4))) = SV.i .i64 ((p + ((Lib.index ((s.drop p).drop 2) [42, 41]).toNat + 4) : Nat) : Int)
            rw [hY, w64 (x := Lib.index ((s.drop p).drop 2) [42, 41] + 4) (by omega) (by omega), w64 (by omega) (by omega)]
            exact i_cg (by omega)
        have h4 : pre ((s.take s.length).drop (p : Int).toNat) [40, 42] = false := h4
        refine OpC.callV rfl rfl rfl rfl rfl rfl rfl (fun _ => digit_ok (cd ((s.take s.length).drop (p : Int).toNat) 0)) ?_
        refine ⟨fun h6 => ?_, fun h6 => ?_⟩
        · have h6 : digB (cd ((s.take s.length).drop (p : Int).toNat) 0) = true := h6
          have hr1 := rowF_le numB ((s.take s.length).drop (p : Int).toNat)
          have hr0 : 0 < rowF numB ((s.take s.length).drop (p : Int).toNat) := rowF_pos hXne (by unfold numB; rw [h6]; simp)
          refine OpC.callV rfl rfl rfl rfl rfl rfl rfl (fun _ => row_ok 43 numB isnum_ok ((s.take s.length).drop (p : Int).toNat) (by omega)) ?_
          have hob : (0 : Int) ≤ (rowF numB ((s.take s.length).drop (p : Int).toNat) : Nat) ∧ ((rowF numB ((s.take s.length).drop (p : Int).toNat) : Nat) : Int) ≤ ((s.take s.length).drop (p : Int).toNat).length := by omega
          refine ⟨fun _ => hob, ?_⟩
          refine OpC.callL rfl rfl rfl rfl [] 0 rfl rfl rfl (number_ok (((s.take s.length).drop (p : Int).toNat).take (rowF numB ((s.take s.length).drop (p : Int).toNat))) (rowF_all numB ((s.take s.length).drop (p : Int).toNat)) (by rw [List.length_take]; omega)) rfl rfl rfl rfl trivial rfl (fun r H' hk => ?_) ?_
          · rw [hk.2]; exact ⟨Nat.le_refl _, Nat.le_refl _⟩
          rintro r H' ⟨hr, rfl⟩
          cases hx : numF (((s.take s.length).drop (p : Int).toNat).take (rowF numB ((s.take s.length).drop (p : Int).toNat))) with
          | none =>
            rw [hx] at hr
            obtain ⟨v, rfl⟩ := hr
            refine ⟨fun _ => ?_, fun h => by cases h⟩
            have hst : stepF (s.drop p) p = .err 23 := by
              unfold stepF
              rw [if_neg (by rw [← hX, h3]; decide)]
              rw [if_neg (by rw [← hX, h4]; decide)]
              rw [if_pos (by rw [← hX]; exact h6)]
              rw [← hX, hx]
            rw [hst] at hstep
            exact .inr ⟨23, p, hstep, by decide, rfl⟩
          | some n =>
            rw [hx] at hr
            have hr : r = .tup [.i .i64 (IntKind.i64.wrap n), .b true] := hr
            subst hr
            refine ⟨fun h => (by cases h), fun _ => ?_⟩
            refine OpC.yld 0 rfl (yld_app_row tabOkF rfl rfl rfl rfl rfl rfl rfl rfl rfl (SrcA.sl rfl rfl rfl rfl (by decide) rfl) (Joins.arrN (y := ⟨2, ((s.take s.length).drop (p : Int).toNat).take (rowF numB ((s.take s.length).drop (p : Int).toNat)), IntKind.i64.wrap n, p⟩) hNt rfl tkenc_w) (by decide) ?_ ?_) (fun d hd => by cases hd; rfl) ?_
            · exact Nat.le_trans (show N + 1 ≤ 10000 by omega) (by decide)
            · show (N + 1) * 40 ≤ 140737488355328
              omega
            have hlen : (⟨2, ((s.take s.length).drop (p : Int).toNat).take (rowF numB ((s.take s.length).drop (p : Int).toNat)), IntKind.i64.wrap n, p⟩ : Tk).s.length ≤ s.length - p := by
              show (List.take _ _).length ≤ _
              rw [List.length_take, hXl]; omega
            have hpos : 0 < (⟨2, ((s.take s.length).drop (p : Int).toNat).take (rowF numB ((s.take s.length).drop (p : Int).toNat)), IntKind.i64.wrap n, p⟩ : Tk).s.length := by
              show 0 < (List.take _ _).length
              rw [List.length_take, hXl]
              omega
            have hst : stepF (s.drop p) p = .tok ⟨2, ((s.take s.length).drop (p : Int).toNat).take (rowF numB ((s.take s.length).drop (p : Int).toNat)), IntKind.i64.wrap n, p⟩ := by
              unfold stepF
              rw [if_neg (by rw [← hX, h3]; decide)]
              rw [if_neg (by rw [← hX, h4]; decide)]
              rw [if_pos (by rw [← hX]; exact h6)]
              rw [← hX, hx]
            rw [hst] at hstep
            have k1 : p + (⟨2, ((s.take s.length).drop (p : Int).toNat).take (rowF numB ((s.take s.length).drop (p : Int).toNat)), IntKind.i64.wrap n, p⟩ : Tk).s.length ≤ s.length := by omega
            have k2 : s.length < p + (⟨2, ((s.take s.length).drop (p : Int).toNat).take (rowF numB ((s.take s.length).drop (p : Int).toNat)), IntKind.i64.wrap n, p⟩ : Tk).s.length + f' := by omega
            have k3 : N + 1 ≤ p + (⟨2, ((s.take s.length).drop (p : Int).toNat).take (rowF numB ((s.take s.length).drop (p : Int).toNat)), IntKind.i64.wrap n, p⟩ : Tk).s.length := by omega
            have k5 : (ts ++ [(⟨2, ((s.take s.length).drop (p : Int).toNat).take (rowF numB ((s.take s.length).drop (p : Int).toNat)), IntKind.i64.wrap n, p⟩ : Tk)]).length = N + 1 := by rw [List.length_append, List.length_singleton]; omega
            have k4 : s.length - (p + (⟨2, ((s.take s.length).drop (p : Int).toNat).take (rowF numB ((s.take s.length).drop (p : Int).toNat)), IntKind.i64.wrap n, p⟩ : Tk).s.length) < s.length - p := by omega
            refine ⟨(p + (⟨2, ((s.take s.length).drop (p : Int).toNat).take (rowF numB ((s.take s.length).drop (p : Int).toNat)), IntKind.i64.wrap n, p⟩ : Tk).s.length, N + 1, ts ++ [⟨2, ((s.take s.length).drop (p : Int).toNat).take (rowF numB ((s.take s.length).drop (p : Int).toNat)), IntKind.i64.wrap n, p⟩], ver + 1, f'), ⟨k1, k2, hstep.symm, k3, k5⟩, k4, rfl, ⟨⟨?_, rfl, rfl⟩, ⟨rfl, rfl, rfl⟩, trivial⟩, ⟨_, rfl⟩, ⟨bndTk, trivial⟩, rfl⟩
            · show SV.i .i64 (IntKind.i64.wrap ((p : Int) + ((⟨2, ((s.take s.length).drop (p : Int).toNat).take (rowF numB ((s.take s.length).drop (p : Int).toNat)), IntKind.i64.wrap n, p⟩ : Tk).s.length : Int))) = SV.i .i64 ((p + (⟨2, ((s.take s.length).drop (p : Int).toNat).take (rowF numB ((s.take s.length).drop (p : Int).toNat)), IntKind.i64.wrap n, p⟩ : Tk).s.length : Nat) : Int)
              rw [w64 (by omega) (by omega)]; rfl
        have h6 : digB (cd ((s.take s.length).drop (p : Int).toNat) 0) = false := h6
        refine OpC.callV rfl rfl rfl rfl rfl rfl rfl (fun _ => letter_ok (cd ((s.take s.length).drop (p : Int).toNat) 0)) ?_
        refine ⟨fun h8 => ?_, fun h8 => ?_⟩
        · have h8 : (letB (cd ((s.take s.length).drop (p : Int).toNat) 0) || decide (cd ((s.take s.length).drop (p : Int).toNat) 0 = 95)) = true := h8
          have hr1 := rowF_le namB ((s.take s.length).drop (p : Int).toNat)
          have hr0 : 0 < rowF namB ((s.take s.length).drop (p : Int).toNat) := rowF_pos hXne (by
            simp only [Bool.or_eq_true] at h8
            unfold namB
            rcases h8 with h8 | h8 <;> rw [h8] <;> simp)
          refine OpC.callV rfl rfl rfl rfl rfl rfl rfl (fun _ => row_ok 46 namB isnam_ok ((s.take s.length).drop (p : Int).toNat) (by omega)) ?_
          have hob : (0 : Int) ≤ (rowF namB ((s.take s.length).drop (p : Int).toNat) : Nat) ∧ ((rowF namB ((s.take s.length).drop (p : Int).toNat) : Nat) : Int) ≤ ((s.take s.length).drop (p : Int).toNat).length := by omega
          refine ⟨fun _ => hob, ?_⟩
          refine OpC.yld 0 rfl (yld_app_row tabOkF rfl rfl rfl rfl rfl rfl rfl rfl rfl (SrcA.sl rfl rfl rfl rfl (by decide) rfl) (Joins.arrN (y := ⟨1, ((s.take s.length).drop (p : Int).toNat).take (rowF namB ((s.take s.length).drop (p : Int).toNat)), 0, p⟩) hNt rfl tkenc_w) (by decide) ?_ ?_) (fun d hd => by cases hd; rfl) ?_
          · exact Nat.le_trans (show N + 1 ≤ 10000 by omega) (by decide)
          · show (N + 1) * 40 ≤ 140737488355328
            omega
          have hlen : (⟨1, ((s.take s.length).drop (p : Int).toNat).take (rowF namB ((s.take s.length).drop (p : Int).toNat)), 0, p⟩ : Tk).s.length ≤ s.length - p := by
            show (List.take _ _).length ≤ _
            rw [List.length_take, hXl]; omega
          have hpos : 0 < (⟨1, ((s.take s.length).drop (p : Int).toNat).take (rowF namB ((s.take s.length).drop (p : Int).toNat)), 0, p⟩ : Tk).s.length := by
            show 0 < (List.take _ _).length
            rw [List.length_take, hXl]
            omega
          have hst : stepF (s.drop p) p = .tok ⟨1, ((s.take s.length).drop (p : Int).toNat).take (rowF namB ((s.take s.length).drop (p : Int).toNat)), 0, p⟩ := by
            unfold stepF
            rw [if_neg (by rw [← hX, h3]; decide)]
            rw [if_neg (by rw [← hX, h4]; decide)]
            rw [if_neg (by rw [← hX, h6]; decide)]
            rw [if_pos (by rw [← hX]; exact h8)]
            rw [← hX]
          rw [hst] at hstep
          have k1 : p + (⟨1, ((s.take s.length).drop (p : Int).toNat).take (rowF namB ((s.take s.length).drop (p : Int).toNat)), 0, p⟩ : Tk).s.length ≤ s.length := by omega
          have k2 : s.length < p + (⟨1, ((s.take s.length).drop (p : Int).toNat).take (rowF namB ((s.take s.length).drop (p : Int).toNat)), 0, p⟩ : Tk).s.length + f' := by omega
          have k3 : N + 1 ≤ p + (⟨1, ((s.take s.length).drop (p : Int).toNat).take (rowF namB ((s.take s.length).drop (p : Int).toNat)), 0, p⟩ : Tk).s.length := by omega
          have k5 : (ts ++ [(⟨1, ((s.take s.length).drop (p : Int).toNat).take (rowF namB ((s.take s.length).drop (p : Int).toNat)), 0, p⟩ : Tk)]).length = N + 1 := by rw [List.length_append, List.length_singleton]; omega
          have k4 : s.length - (p + (⟨1, ((s.take s.length).drop (p : Int).toNat).take (rowF namB ((s.take s.length).drop (p : Int).toNat)), 0, p⟩ : Tk).s.length) < s.length - p := by omega
          refine ⟨(p + (⟨1, ((s.take s.length).drop (p : Int).toNat).take (rowF namB ((s.take s.length).drop (p : Int).toNat)), 0, p⟩ : Tk).s.length, N + 1, ts ++ [⟨1, ((s.take s.length).drop (p : Int).toNat).take (rowF namB ((s.take s.length).drop (p : Int).toNat)), 0, p⟩], ver + 1, f'), ⟨k1, k2, hstep.symm, k3, k5⟩, k4, rfl, ⟨⟨?_, rfl, rfl⟩, ⟨rfl, rfl, rfl⟩, trivial⟩, ⟨_, rfl⟩, ⟨bndTk, trivial⟩, rfl⟩
          · show SV.i .i64 (IntKind.i64.wrap ((p : Int) + ((⟨1, ((s.take s.length).drop (p : Int).toNat).take (rowF namB ((s.take s.length).drop (p : Int).toNat)), 0, p⟩ : Tk).s.length : Int))) = SV.i .i64 ((p + (⟨1, ((s.take s.length).drop (p : Int).toNat).take (rowF namB ((s.take s.length).drop (p : Int).toNat)), 0, p⟩ : Tk).s.length : Nat) : Int)
            rw [w64 (by omega) (by omega)]; rfl
        have h8 : (letB (cd ((s.take s.length).drop (p : Int).toNat) 0) || decide (cd ((s.take s.length).drop (p : Int).toNat) 0 = 95)) = false := h8
        refine OpC.callV rfl rfl rfl rfl rfl rfl rfl (fun _ => hasPrefix_ok ((s.take s.length).drop (p : Int).toNat) [47, 92]) ?_
        refine OpC.callV rfl rfl rfl rfl rfl rfl rfl (fun _ => hasPrefix_ok ((s.take s.length).drop (p : Int).toNat) [92, 47]) ?_
        refine ⟨fun h9 => ?_, fun h9 => ?_⟩
        · have h9 : (pre ((s.take s.length).drop (p : Int).toNat) [47, 92] || pre ((s.take s.length).drop (p : Int).toNat) [92, 47]) = true := h9
          have hl2 : 2 ≤ ((s.take s.length).drop (p : Int).toNat).length := by
            simp only [Bool.or_eq_true] at h9
            rcases h9 with h9 | h9 <;> exact pre_len h9
          have hob : (0 : Int) ≤ 2 ∧ (2 : Int) ≤ ((s.take s.length).drop (p : Int).toNat).length := by omega
          refine WpC.dr tabOkF mixed 0 ?_
          refine ⟨fun _ => hob, ?_⟩
          refine ⟨by kernel_rfl, ?_⟩
          refine OpC.yld 0 rfl (yld_app_row tabOkF rfl rfl rfl rfl rfl rfl rfl rfl rfl (SrcA.sl rfl rfl rfl rfl (by decide) rfl) (Joins.arrN (y := ⟨3, ((s.take s.length).drop (p : Int).toNat).take 2, 0, p⟩) hNt rfl tkenc_w) (by decide) ?_ ?_) (fun d hd => by cases hd; rfl) ?_
          · exact Nat.le_trans (show N + 1 ≤ 10000 by omega) (by decide)
          · show (N + 1) * 40 ≤ 140737488355328
            omega
          have hlen : (⟨3, ((s.take s.length).drop (p : Int).toNat).take 2, 0, p⟩ : Tk).s.length ≤ s.length - p := by
            show (List.take _ _).length ≤ _
            rw [List.length_take, hXl]; omega
          have hpos : 0 < (⟨3, ((s.take s.length).drop (p : Int).toNat).take 2, 0, p⟩ : Tk).s.length := by
            show 0 < (List.take _ _).length
            rw [List.length_take, hXl]
            omega
          have hst : stepF (s.drop p) p = .tok ⟨3, ((s.take s.length).drop (p : Int).toNat).take 2, 0, p⟩ := by
            unfold stepF
            rw [if_neg (by rw [← hX, h3]; decide)]
            rw [if_neg (by rw [← hX, h4]; decide)]
            rw [if_neg (by rw [← hX, h6]; decide)]
            rw [if_neg (by rw [← hX, h8]; decide)]
            rw [if_pos (by rw [← hX]; exact h9)]
            rw [← hX]
          rw [hst] at hstep
          have k1 : p + (⟨3, ((s.take s.length).drop (p : Int).toNat).take 2, 0, p⟩ : Tk).s.length ≤ s.length := by omega
          have k2 : s.length < p + (⟨3, ((s.take s.length).drop (p : Int).toNat).take 2, 0, p⟩ : Tk).s.length + f' := by omega
          have k3 : N + 1 ≤ p + (⟨3, ((s.take s.length).drop (p : Int).toNat).take 2, 0, p⟩ : Tk).s.length := by omega
          have k5 : (ts ++ [(⟨3, ((s.take s.length).drop (p : Int).toNat).take 2, 0, p⟩ : Tk)]).length = N + 1 := by rw [List.length_append, List.length_singleton]; omega
          have k4 : s.length - (p + (⟨3, ((s.take s.length).drop (p : Int).toNat).take 2, 0, p⟩ : Tk).s.length) < s.length - p := by omega
          refine ⟨(p + (⟨3, ((s.take s.length).drop (p : Int).toNat).take 2, 0, p⟩ : Tk).s.length, N + 1, ts ++ [⟨3, ((s.take s.length).drop (p : Int).toNat).take 2, 0, p⟩], ver + 1, f'), ⟨k1, k2, hstep.symm, k3, k5⟩, k4, rfl, ⟨⟨?_, rfl, rfl⟩, ⟨rfl, rfl, rfl⟩, trivial⟩, ⟨_, rfl⟩, ⟨bndTk, trivial⟩, rfl⟩
          · show SV.i .i64 (IntKind.i64.wrap ((p : Int) + ((⟨3, ((s.take s.length).drop (p : Int).toNat).take 2, 0, p⟩ : Tk).s.length : Int))) = SV.i .i64 ((p + (⟨3, ((s.take s.length).drop (p : Int).toNat).take 2, 0, p⟩ : Tk).s.length : Nat) : Int)
            rw [w64 (by omega) (by omega)]; rfl
        have h9 : (pre ((s.take s.length).drop (p : Int).toNat) [47, 92] || pre ((s.take s.length).drop (p : Int).toNat) [92, 47]) = false := h9
        refine OpC.callV rfl rfl rfl rfl rfl rfl rfl (fun _ => sIndexByte_ok marksL (cd ((s.take s.length).drop (p : Int).toNat) 0)) ?_
        have hmk := mark_ix (((s.take s.length).drop (p : Int).toNat).getD 0 0)
        refine ⟨fun h10 => ?_, fun h10 => ?_⟩
        · have h10 : decide ((0 : Int) ≤ Lib.indexByte marksL (cd ((s.take s.length).drop (p : Int).toNat) 0).toNat.toUInt8) = true := h10
          have hk : (s.drop p).getD 0 0 ∈ marksL := by rw [← hX]; exact of_decide_eq_true (hmk.symm.trans h10)
          have hob : (0 : Int) ≤ 1 ∧ (1 : Int) ≤ ((s.take s.length).drop (p : Int).toNat).length := by omega
          refine WpC.dr tabOkF mixed 0 ?_
          refine ⟨fun _ => hob, ?_⟩
          refine ⟨by kernel_rfl, ?_⟩
          refine OpC.yld 0 rfl (yld_app_row tabOkF rfl rfl rfl rfl rfl rfl rfl rfl rfl (SrcA.sl rfl rfl rfl rfl (by decide) rfl) (Joins.arrN (y := ⟨3, ((s.take s.length).drop (p : Int).toNat).take 1, 0, p⟩) hNt rfl tkenc_w) (by decide) ?_ ?_) (fun d hd => by cases hd; rfl) ?_
          · exact Nat.le_trans (show N + 1 ≤ 10000 by omega) (by decide)
          · show (N + 1) * 40 ≤ 140737488355328
            omega
          have hlen : (⟨3, ((s.take s.length).drop (p : Int).toNat).take 1, 0, p⟩ : Tk).s.length ≤ s.length - p := by
            show (List.take _ _).length ≤ _
            rw [List.length_take, hXl]; omega
          have hpos : 0 < (⟨3, ((s.take s.length).drop (p : Int).toNat).take 1, 0, p⟩ : Tk).s.length := by
            show 0 < (List.take _ _).length
            rw [List.length_take, hXl]
            omega
          have hst : stepF (s.drop p) p = .tok ⟨3, ((s.take s.length).drop (p : Int).toNat).take 1, 0, p⟩ := by
            unfold stepF
            rw [if_neg (by rw [← hX, h3]; decide)]
            rw [if_neg (by rw [← hX, h4]; decide)]
            rw [if_neg (by rw [← hX, h6]; decide)]
            rw [if_neg (by rw [← hX, h8]; decide)]
            rw [if_neg (by rw [← hX, h9]; decide)]
            rw [if_pos hk]
            rw [← hX]
          rw [hst] at hstep
          have k1 : p + (⟨3, ((s.take s.length).drop (p : Int).toNat).take 1, 0, p⟩ : Tk).s.length ≤ s.length := by omega
          have k2 : s.length < p + (⟨3, ((s.take s.length).drop (p : Int).toNat).take 1, 0, p⟩ : Tk).s.length + f' := by omega
          have k3 : N + 1 ≤ p + (⟨3, ((s.take s.length).drop (p : Int).toNat).take 1, 0, p⟩ : Tk).s.length := by omega
          have k5 : (ts ++ [(⟨3, ((s.take s.length).drop (p : Int).toNat).take 1, 0, p⟩ : Tk)]).length = N + 1 := by rw [List.length_append, List.length_singleton]; omega
          have k4 : s.length - (p + (⟨3, ((s.take s.length).drop (p : Int).toNat).take 1, 0, p⟩ : Tk).s.length) < s.length - p := by omega
          refine ⟨(p + (⟨3, ((s.take s.length).drop (p : Int).toNat).take 1, 0, p⟩ : Tk).s.length, N + 1, ts ++ [⟨3, ((s.take s.length).drop (p : Int).toNat).take 1, 0, p⟩], ver + 1, f'), ⟨k1, k2, hstep.symm, k3, k5⟩, k4, rfl, ⟨⟨?_, rfl, rfl⟩, ⟨rfl, rfl, rfl⟩, trivial⟩, ⟨_, rfl⟩, ⟨bndTk, trivial⟩, rfl⟩
          · show SV.i .i64 (IntKind.i64.wrap ((p : Int) + ((⟨3, ((s.take s.length).drop (p : Int).toNat).take 1, 0, p⟩ : Tk).s.length : Int))) = SV.i .i64 ((p + (⟨3, ((s.take s.length).drop (p : Int).toNat).take 1, 0, p⟩ : Tk).s.length : Nat) : Int)
            rw [w64 (by omega) (by omega)]; rfl
        · have h10 : decide ((0 : Int) ≤ Lib.indexByte marksL (cd ((s.take s.length).drop (p : Int).toNat) 0).toNat.toUInt8) = false := h10
          have hk : ¬ (s.drop p).getD 0 0 ∈ marksL := by rw [← hX]; exact of_decide_eq_false (hmk.symm.trans h10)
          have hst : stepF (s.drop p) p = .err 20 := by
            unfold stepF
            rw [if_neg (by rw [← hX, h3]; decide)]
            rw [if_neg (by rw [← hX, h4]; decide)]
            rw [if_neg (by rw [← hX, h6]; decide)]
            rw [if_neg (by rw [← hX, h8]; decide)]
            rw [if_neg (by rw [← hX, h9]; decide)]
            rw [if_neg hk]

          rw [hst] at hstep
          exact .inr ⟨20, p, hstep, by decide, rfl⟩
      · have h2 : p = s.length := by
          have h2 : decide ((p : Int) < s.length) = false := h2
          simp at h2; omega
        rw [tokC_end (by omega)] at hc
        subst hNt
        exact .inl ⟨ts, ver, _, hc.symm, rfl, rfl⟩
  exact key.trim callX_m fun r H1 hk => by
    rcases hk with ⟨ts, ver, Y, h1, h2, h3⟩ | ⟨e, p, h1, h2, h3⟩
    · exact ⟨[rowK ts.length ts ver], Y, h3, Nat.zero_le _, ⟨bndTk, trivial⟩, by rw [h2]; rfl, .inl ⟨ts, ver, h1, h2, rfl⟩⟩
    · exact ⟨[], H1, rfl, Nat.zero_le _, trivial, by rw [h3]; rfl, .inr ⟨e, p, h1, h2, h3, rfl⟩⟩
end SX
end Go.Proofs.YthkedcneehdinaaGreatDoor

/- The program's scan.Tokens: its words lie in memory that stays. -/
set_option linter.unusedVariables false
set_option maxRecDepth 100000
namespace Go.Proofs.YthkedcneehdinaaGreatDoor
namespace SX
open Go Go.Proofs
theorem tkw (x : Tk) : wdL (tkenc x) = 4 := rfl
theorem tkok (x : Tk) (m : Mem) : OkL m [] (tkenc x) := by simp [tkenc, OkL, isUnit, Ok]
theorem Rel.gone {E : Env} {C : Fr} {m : Mem} {h : List SB} {w : World} (hr : Rel E C m h w) {k ver : Nat} {B : SB} (hk : h[k]? = some B) (hl : (SB.gone ver).lim = B.lim) : Rel E C m (h.set k (.gone ver)) w := by
  have hvs : vers (h.set k (.gone ver)) = vers h := vers_set (B' := .gone ver) hk hl
  have hkl : k < h.length := (List.getElem?_eq_some_iff.1 hk).1
  have hgk : (h.set k (.gone ver))[k]? = some (.gone ver) := by simp [List.getElem?_set, hkl]
  have hge : ∀ j, j ≠ k → (h.set k (.gone ver))[j]? = h[j]? := fun j hj => List.getElem?_set_ne (Ne.symm hj)
  have hblk : ∀ j b, BlkAt E (h.set k (.gone ver)) j b → j ≠ k ∧ BlkAt E h j b := by
    rintro j b ⟨B', hB', hb⟩
    by_cases hj : j = k
    · subst hj; rw [hgk] at hB'; cases hB'; exact hb.elim
    · rw [hge j hj] at hB'; exact ⟨hj, B', hB', hb⟩
  refine ⟨hr.os, hr.tape, hr.output, hr.im, hr.fr, hr.mf, ?_, ?_, ?_, ?_⟩
  · intro j B' hB'
    by_cases hj : j = k
    · subst hj; rw [hgk] at hB'; cases hB'; trivial
    · rw [hge j hj] at hB'; rw [hvs]; exact hr.bl j B' hB'
  · rw [hvs]; exact hr.nn
  · intro j b hb; exact hr.sp j b (hblk j b hb).2
  · intro i j b h1 h2; exact hr.inj i j b (hblk i b h1).2 (hblk j b h2).2
/-- A row that is handed back, ahead of two numbers, stays. -/
theorem Cp.row3 {α : Type} {d : α} {n : Nat} {enc : α → List SV} {X : List Value → World → (Value → World → Prop) → Prop} (hX : XMono X) {args : List SV} {H : List SB} {ty : TypeId} {g : Nat} (hn : n = g + 1) (hw : ∀ x, wdL (enc x) = n) (hok : ∀ x m, OkL m [] (enc x)) {K : SV → List SB → Prop}
    (h : Cp X args H (fun r h => (∃ (xs : List α) (ver : Nat) (y z : SV), r = .tup [.sl 0 ver 0 xs.length none 0, y, z] ∧ h = [.mem ty [.arr xs.length α d n enc xs] ver n] ∧ ∀ ad cap, K (.tup [.imm α d n enc xs ad cap, y, z]) [.gone ver]) ∨ K r h)) : Cp X args H K := by
  subst hn
  refine ⟨fun C E m w hr ha => hX _ _ _ _ (h.out C E m w hr ha) fun v w' ⟨r, H', E', m', h1, h2, h3, h4, h5⟩ => ?_⟩
  rcases h2 with ⟨xs, ver, y, z, rfl, rfl, hk⟩ | h2
  · have h3 := h3
    simp only [Ok, OkA] at h3
    obtain ⟨⟨⟨_, o1⟩, ⟨ly, o2⟩, ⟨lz, o3⟩, _⟩, _⟩ := h3
    have ht : ∀ vs, den E' (.tup vs) = .tuple (denL E' vs).toArray := fun vs => by simp [den, wrapV, cells]
    by_cases hv : ver = 0
    · subst hv
      simp only [Ok] at o1
      have hl0 : xs = [] := List.eq_nil_of_length_eq_zero (by simpa using o1.2)
      subst hl0
      have e7 : ∃ ad cap, den E' (.sl 0 0 0 ([] : List α).length none 0) = den E' (.imm α d (g + 1) enc ([] : List α) ad cap) := by
        cases he : E' 0 0 with
        | none => exact ⟨none, 0, by simp [den, wrapV, cells, he]⟩
        | some bc => obtain ⟨b, c⟩ := bc; exact ⟨some ⟨b, 0, none⟩, c, by simp [den, wrapV, cells, he]⟩
      obtain ⟨ad, cap, e7⟩ := e7
      refine ⟨_, _, E', m', ?_, hk ad cap, ?_, h4, Rel.gone (k := 0) (ver := 0) h5 rfl rfl⟩
      · rw [h1, ht, ht]
        show Value.tuple (den E' (.sl 0 0 0 ([] : List α).length none 0) :: denL E' [y, z]).toArray = Value.tuple (den E' (.imm α d (g + 1) enc ([] : List α) ad cap) :: denL E' [y, z]).toArray
        rw [e7]
      · refine ⟨?_, rfl⟩
        simp only [Ok, OkA]
        exact ⟨⟨rfl, Nat.zero_le _, fun h => absurd rfl h, hw, fun j hj => absurd hj (Nat.not_lt_zero _)⟩, ⟨ly, o2⟩, ⟨lz, o3⟩, trivial⟩
    · have hrep : Rep E' C m' ⟨[.sl 0 ver 0 xs.length none 0], [.mem ty [.arr xs.length α d (g + 1) enc xs] ver (g + 1)]⟩ ⟨#[den E' (.sl 0 ver 0 xs.length none 0)], []⟩ w' :=
        ⟨rfl, fun q x u hx hu => by
          rcases q with _ | q
          · simp at hx hu; subst hx; subst hu
            exact ⟨by simpa only [Ok] using o1, rfl⟩
          · simp at hx, rfl, h5⟩
      obtain ⟨m2, b, c, e1, e2, e3⟩ := still_base (k := 0) hrep rfl rfl hv hw hok
      obtain ⟨ad, cap, e4⟩ := still_slot (j := 0) (i := 0) (len := xs.length) e2 e3 rfl hw hok (by simp) (by omega)
      have e5 := e4.sl 0 _ _ rfl rfl
      simp only [List.drop_zero, List.take_length] at e5
      have e6 : Ok m2 (vers [SB.gone ver]) (.imm α d (g + 1) enc xs (some ad) cap) ∧ den E' (.sl 0 ver 0 xs.length none 0) = den E' (.imm α d (g + 1) enc xs (some ad) cap) := e5
      refine ⟨_, _, E', m2, ?_, hk (some ad) cap, ?_, h4.trans e1, e4.rel⟩
      · rw [h1, ht, ht]
        show Value.tuple (den E' (.sl 0 ver 0 xs.length none 0) :: denL E' [y, z]).toArray = Value.tuple (den E' (.imm α d (g + 1) enc xs (some ad) cap) :: denL E' [y, z]).toArray
        rw [e6.2]
      · refine ⟨?_, rfl⟩
        simp only [Ok, OkA]
        have k1 := e6.1
        simp only [Ok] at k1
        exact ⟨⟨rfl, k1⟩, ⟨ly, Ok.mono e1.mm y _ _ e1.vv o2⟩, ⟨lz, Ok.mono e1.mm z _ _ e1.vv o3⟩, trivial⟩
  · exact ⟨r, H', E', m', h1, h2, h3, h4, h5⟩
/-- What the words' reader hands back, in memory that stays. -/
def TokI (s : List UInt8) (r : SV) (h : List SB) : Prop :=
  (∃ ts ad cap ver, tokF s = (ts, 0, 0) ∧ r = .tup [.imm Tk tk0 4 tkenc ts ad cap, .i .i64 0, .i .i64 0] ∧ h = [.gone ver]) ∨
  (∃ e p, tokF s = ([], e, p) ∧ e ≠ 0 ∧ r = .tup [.nils, .i .i64 e, .i .i64 p] ∧ h = [])
theorem tokensI_ok (s : List UInt8) : Ctr Tryz.prog 13 [.s s] [] (TokI s) := by
  refine Cp.row3 (α := Tk) (d := tk0) (enc := tkenc) (n := 4) (g := 3) (ty := 42) callX_m rfl tkw tkok ((tokens_ok s).mono callX_m ?_)
  rintro r h (⟨ts, ver, h1, rfl, rfl⟩ | ⟨e, p, h1, he, rfl, rfl⟩)
  · exact .inl ⟨ts, ver, _, _, rfl, rfl, fun ad cap => .inl ⟨ts, ad, cap, ver, h1, rfl, rfl⟩⟩
  · exact .inr (.inr ⟨e, p, h1, he, rfl, rfl⟩)
end SX
end Go.Proofs.YthkedcneehdinaaGreatDoor

/- Is a text one name? -/
set_option linter.unusedVariables false
set_option maxRecDepth 100000
namespace Go.Proofs.YthkedcneehdinaaGreatDoor
namespace SX
open Go Go.Proofs
end SX
end Go.Proofs.YthkedcneehdinaaGreatDoor

/- Words read as an instruction, plain: the readers' steps, the program's and the reference's; they answer alike. -/
set_option linter.unusedVariables false
set_option maxRecDepth 100000
namespace Go.Proofs.YthkedcneehdinaaGreatDoor
namespace SX
open Go Go.Proofs
/-- A language: its registers, what stands ahead of a number. -/
structure Lg where
  s0 : List UInt8
  s1 : List UInt8
  s2 : List UInt8
  s3 : List UInt8
  s4 : List UInt8
  s5 : List UInt8
  s6 : List UInt8
  s7 : List UInt8
  h : List UInt8
def Lg.ix (L : Lg) (v : List UInt8) : Int := idxF L.s0 L.s1 L.s2 L.s3 L.s4 L.s5 L.s6 L.s7 v
def lgX : Lg := ⟨[82, 65, 88], [82, 66, 88], [82, 67, 88], [82, 68, 88], [82, 83, 73], [82, 68, 73], [82, 56], [82, 57], [36]⟩
def lgR : Lg := ⟨[97, 48], [97, 49], [97, 50], [97, 51], [97, 52], [97, 53], [97, 54], [97, 55], []⟩
def lgA : Lg := ⟨[88, 48], [88, 49], [88, 50], [88, 51], [88, 52], [88, 53], [88, 54], [88, 55], [35]⟩
/-- A reader's state: where it stands, what is wrong, where. -/
structure RS where
  p : Nat
  e : Int
  q : Int
def tkAt (ts : List Tk) (p : Nat) : Tk := ts.getD p tk0
def whF (ts : List Tk) (p : Nat) : Int := if p < ts.length then (tkAt ts p).a else if ts.length = 0 then 0 else IntKind.i64.wrap ((tkAt ts (ts.length - 1)).a + ((tkAt ts (ts.length - 1)).s.length : Int))
def failF (s : RS) (e q : Int) : RS := if s.e = 0 then ⟨s.p, e, q⟩ else s
def takeB (ts : List Tk) (m : List UInt8) (p : Nat) : Bool := decide (p < ts.length) && (decide ((tkAt ts p).s = m) && !decide ((tkAt ts p).k = 2))
def goF (s : RS) : RS := ⟨s.p + 1, s.e, s.q⟩
def locI (v : List UInt8) : Int := if v = [120] then 0 else if v = [121] then 1 else if v = [122] then 2 else -1
/-! The program's. -/
def missP (ts : List Tk) (s : RS) : RS := if s.p < ts.length then failF s 22 (whF ts s.p) else failF s 24 (whF ts s.p)
def markP (ts : List Tk) (m : List UInt8) (s : RS) : RS := if s.e = 0 then (if takeB ts m s.p then goF s else missP ts s) else s
def wordP (ts : List Tk) (s : RS) : List UInt8 × RS := if s.e = 0 then (if (tkAt ts s.p).k = 1 then ((tkAt ts s.p).s, goF s) else ([], missP ts s)) else ([], s)
def ofP (f : List UInt8 → Int) (ts : List Tk) (s : RS) : Int × RS := if f (wordP ts s).1 < 0 then (0, failF (wordP ts s).2 21 (whF ts s.p)) else (f (wordP ts s).1, (wordP ts s).2)
def nmP (ts : List Tk) (g : Int) (s : RS) : Int × RS := if (tkAt ts s.p).k = 2 then (IntKind.i64.wrap (g * (tkAt ts s.p).n), goF s) else (0, missP ts s)
def numP (ts : List Tk) (s : RS) : Int × RS := if s.e = 0 then (if takeB ts [45] s.p then nmP ts (-1) (goF s) else nmP ts 1 s) else (0, s)
def isP (ts : List Tk) (m : List UInt8) (s : RS) : Bool := decide ((tkAt ts s.p).k = 3) && decide ((tkAt ts s.p).s = m)
/-! The reference's. -/
/-! Both answer alike. -/
theorem failF_e {s : RS} {e q : Int} (he : e ≠ 0) : (failF s e q).e ≠ 0 := by
  unfold failF
  split
  · exact he
  · assumption
theorem miss_e (ts : List Tk) (s : RS) : (missP ts s).e ≠ 0 := by unfold missP; split <;> exact failF_e (by decide)
theorem mark_e {ts : List Tk} {m : List UInt8} {s : RS} (h : (markP ts m s).e = 0) : s.e = 0 ∧ markP ts m s = goF s := by
  unfold markP at h ⊢
  split at h
  · rename_i h0
    split at h
    · rename_i h1; exact ⟨h0, by rw [if_pos h0, if_pos h1]⟩
    · exact absurd h (miss_e ts s)
  · rename_i h0; exact absurd h h0
theorem at_lt {ts : List Tk} {p : Nat} (h : (tkAt ts p).k ≠ 0) : p < ts.length := by
  by_cases hp : p < ts.length
  · exact hp
  · exact absurd (by unfold tkAt; rw [List.getD_eq_getElem?_getD, List.getElem?_eq_none (by omega)]; rfl) h
end SX
end Go.Proofs.YthkedcneehdinaaGreatDoor

/- Words read as an x86 instruction, plain: the program's and the reference's answer alike. -/
set_option linter.unusedVariables false
set_option maxRecDepth 100000
namespace Go.Proofs.YthkedcneehdinaaGreatDoor
namespace SX
open Go Go.Proofs
/-! The reference's. -/
/-! Names. -/
theorem pre_iff {s h : List UInt8} : pre s h = true ↔ ∃ r, s = h ++ r := by
  unfold pre
  simp only [List.drop_zero, Bool.and_eq_true, decide_eq_true_eq]
  constructor
  · rintro ⟨h1, h2⟩
    exact ⟨s.drop h.length, by conv => lhs; rw [← List.take_append_drop h.length s, h2]⟩
  · rintro ⟨r, rfl⟩
    exact ⟨by simp; omega, by simp⟩
end SX
end Go.Proofs.YthkedcneehdinaaGreatDoor

/- An instruction parsed, plain: from the words to the answer; the program's and the reference's are alike. -/
set_option linter.unusedVariables false
set_option maxRecDepth 100000
namespace Go.Proofs.YthkedcneehdinaaGreatDoor
namespace SX
open Go Go.Proofs
def rs0 : RS := ⟨0, 0, 0⟩
def moreF (ts : List Tk) (s : RS) : RS := if s.p < ts.length then failF s 25 (whF ts s.p) else s
theorem fail_dead {s : RS} (h : ¬ s.e = 0) (e q : Int) : failF s e q = s := by unfold failF; rw [if_neg h]
end SX
end Go.Proofs.YthkedcneehdinaaGreatDoor

/- Words read as a RISC-V instruction, plain: the program's and the reference's answer alike. -/
set_option linter.unusedVariables false
set_option maxRecDepth 100000
namespace Go.Proofs.YthkedcneehdinaaGreatDoor
namespace SX
open Go Go.Proofs
/-! The reference's. -/
/-! Names. -/
end SX
end Go.Proofs.YthkedcneehdinaaGreatDoor

/- Words read as an Arm instruction, plain: the program's and the reference's answer alike. -/
set_option linter.unusedVariables false
set_option maxRecDepth 100000
namespace Go.Proofs.YthkedcneehdinaaGreatDoor
namespace SX
open Go Go.Proofs
/-! The reference's. -/
/-! Names. -/
end SX
end Go.Proofs.YthkedcneehdinaaGreatDoor

/- Words of a text: what each of them is like. -/
set_option linter.unusedVariables false
set_option maxRecDepth 100000
namespace Go.Proofs.YthkedcneehdinaaGreatDoor
namespace SX
open Go Go.Proofs
end SX
end Go.Proofs.YthkedcneehdinaaGreatDoor

/- Words of a text that is put together: what they are. -/
set_option linter.unusedVariables false
set_option maxRecDepth 100000
namespace Go.Proofs.YthkedcneehdinaaGreatDoor
namespace SX
open Go Go.Proofs
def nmB (w : List UInt8) : Bool := (w.all fun c => namB (c.toNat : Int)) && (letB (cd w 0) || decide (cd w 0 = 95))
def stopB (p : Int → Bool) : List UInt8 → Bool
  | [] => true
  | c :: _ => !p (c.toNat : Int)
def mkB (c : UInt8) : Bool := decide (c ∈ ([36, 35, 91, 93, 43, 45, 44] : List UInt8))
/-- What a word is, without its place. -/
abbrev Ky := Int × List UInt8 × Int
def key (t : Tk) : Ky := (t.k, t.s, t.n)
theorem rowF_app {p : Int → Bool} : ∀ {w r : List UInt8}, (w.all fun c => p (c.toNat : Int)) = true → stopB p r = true → rowF p (w ++ r) = w.length
  | [], [], _, _ => rfl
  | [], c :: r, _, h => by
    have h : p (c.toNat : Int) = false := by simpa [stopB] using h
    simp [rowF, h]
  | c :: w, r, h, hs => by
    simp only [List.all_cons, Bool.and_eq_true] at h
    simp only [List.cons_append, rowF, h.1, if_true, List.length_cons, rowF_app h.2 hs]
theorem cd_app {w r : List UInt8} (h : w ≠ []) : cd (w ++ r) 0 = cd w 0 := by
  match w, h with
  | c :: w, _ => rfl
theorem pre_head {s : List UInt8} {x : List UInt8} {a : UInt8} (h : cd s 0 ≠ (a.toNat : Int)) : pre s (a :: x) = false := by
  cases hq : pre s (a :: x) with
  | false => rfl
  | true =>
    obtain ⟨r, rfl⟩ := pre_iff.1 hq
    exact absurd rfl h
theorem nm_ne {w : List UInt8} (h : nmB w = true) : w ≠ [] := by rintro rfl; exact absurd h (by decide)
theorem let_range {n : Int} (h : letB n = true ∨ n = 95) : (97 ≤ n ∧ n ≤ 122) ∨ (65 ≤ n ∧ n ≤ 90) ∨ n = 95 := by
  rcases h with h | h
  · unfold letB at h
    simp only [Bool.or_eq_true, Bool.and_eq_true, decide_eq_true_eq] at h
    omega
  · omega
theorem let_rest {n : Int} (h : (97 ≤ n ∧ n ≤ 122) ∨ (65 ≤ n ∧ n ≤ 90) ∨ n = 95) : (decide (n = 32) || decide (n = 9) || decide (n = 10)) = false ∧ n ≠ 40 ∧ digB n = false := by
  refine ⟨?_, by omega, ?_⟩
  · rw [decide_eq_false (by omega), decide_eq_false (by omega), decide_eq_false (by omega)]; rfl
  · unfold digB
    rcases h with h | h | h
    · rw [decide_eq_false (show ¬ n ≤ 57 by omega), Bool.and_false]
    · rw [decide_eq_false (show ¬ n ≤ 57 by omega), Bool.and_false]
    · subst h; rfl
theorem step_nam {w r : List UInt8} {p : Nat} (h : nmB w = true) (hs : stopB namB r = true) : stepF (w ++ r) p = .tok ⟨1, w, 0, p⟩ := by
  have hne := nm_ne h
  unfold nmB at h
  simp only [Bool.and_eq_true, Bool.or_eq_true, decide_eq_true_eq] at h
  obtain ⟨h1, h2⟩ := h
  obtain ⟨g1, g2, g3⟩ := let_rest (let_range h2)
  unfold stepF
  rw [cd_app hne, g1, pre_head (a := 40) (x := [42]) (by rw [cd_app hne]; exact g2), g3]
  have h3 : (letB (cd w 0) || decide (cd w 0 = 95)) = true := by simpa using h2
  rw [h3, rowF_app h1 hs]
  simp
theorem step_num {w r : List UInt8} {p n : Nat} (h : (w.all fun c => numB (c.toNat : Int)) = true) (hd : digB (cd w 0) = true) (hs : stopB numB r = true) (hn : numF w = some n) : stepF (w ++ r) p = .tok ⟨2, w, IntKind.i64.wrap n, p⟩ := by
  have hne : w ≠ [] := by rintro rfl; exact absurd hd (by decide)
  have hr : 48 ≤ cd w 0 ∧ cd w 0 ≤ 57 := by
    unfold digB at hd
    simpa using hd
  unfold stepF
  rw [cd_app hne, pre_head (a := 40) (x := [42]) (by rw [cd_app hne]; show cd w 0 ≠ 40; omega), hd, rowF_app h hs]
  rw [decide_eq_false (show ¬ cd w 0 = 32 by omega), decide_eq_false (show ¬ cd w 0 = 9 by omega), decide_eq_false (show ¬ cd w 0 = 10 by omega)]
  rw [List.take_left, hn]
  rfl
theorem step_sp {r : List UInt8} {p : Nat} : stepF (32 :: r) p = .skip 1 := rfl
/-! Digits. -/
theorem dec_all (u : Nat) : ∀ c ∈ Lib.decDigits u, 48 ≤ c.toNat ∧ c.toNat ≤ 57 := by
  induction u using Nat.strongRecOn with
  | _ u ih =>
    intro c hc
    have hd : ∀ d, d < 10 → (UInt8.ofNat (48 + d)).toNat = 48 + d := fun d hd => UInt8.toNat_ofNat_of_lt' (by show 48 + d < 256; omega)
    rw [Lib.decDigits] at hc
    split at hc
    · rename_i h
      rw [List.mem_singleton] at hc
      rw [hc, hd u h]; omega
    · rcases List.mem_append.1 hc with hc | hc
      · exact ih (u / 10) (by omega) c hc
      · rw [List.mem_singleton] at hc
        rw [hc, hd _ (Nat.mod_lt _ (by decide))]
        have := Nat.mod_lt u (show 10 > 0 by decide)
        omega
theorem dec_ne (u : Nat) : Lib.decDigits u ≠ [] := by
  rw [Lib.decDigits]
  split <;> simp
theorem valB_app {b : Nat} : ∀ (xs : List UInt8) (c : UInt8) (n : Nat), valB b (xs ++ [c]) n = (match valB b xs n with | none => none | some m => if digV c.toNat < b then some (m * b + digV c.toNat) else none)
  | [], c, n => by simp only [List.nil_append, valB]
  | x :: xs, c, n => by
    simp only [List.cons_append, valB]
    split
    · exact valB_app xs c _
    · rfl
theorem dec_val (u : Nat) : valB 10 (Lib.decDigits u) 0 = some u := by
  induction u using Nat.strongRecOn with
  | _ u ih =>
    have hd : ∀ d, d < 10 → digV (UInt8.ofNat (48 + d)).toNat = d := fun d hd => by
      have e : (UInt8.ofNat (48 + d)).toNat = 48 + d := UInt8.toNat_ofNat_of_lt' (by show 48 + d < 256; omega)
      rw [e]; unfold digV; rw [if_pos (by omega)]; omega
    rw [Lib.decDigits]
    split
    · rename_i h
      simp only [valB]
      rw [hd u h, if_pos h, Nat.zero_mul, Nat.zero_add]
    · rw [valB_app, ih (u / 10) (by omega)]
      have h1 := Nat.mod_lt u (show 10 > 0 by decide)
      dsimp only
      rw [hd _ h1, if_pos h1]
      congr 1; omega
theorem nDig_le : ∀ (k u : Nat), u < 10 ^ (k + 1) → Lib.nDigits u ≤ k + 1
  | 0, u, h => by rw [Lib.nDigits_small (by simpa using h)]; exact Nat.le_refl _
  | k + 1, u, h => by
    by_cases h0 : u < 10
    · rw [Lib.nDigits_small h0]; omega
    · rw [Lib.nDigits_big h0]
      rw [Nat.pow_succ] at h
      have := nDig_le k (u / 10) (by omega)
      omega
theorem dec_num {u : Nat} (h : u ≤ 9223372036854775808) : numF (Lib.decDigits u) = some u := by
  have hx : hexB (Lib.decDigits u) = false := by
    cases hq : hexB (Lib.decDigits u) with
    | false => rfl
    | true =>
      obtain ⟨r, hr⟩ := pre_iff.1 hq
      have := dec_all u 120 (by rw [hr]; simp)
      exact absurd this.2 (by decide)
  have hl : (Lib.decDigits u).length ≤ 19 := by
    rw [Lib.decDigits_length]
    exact nDig_le 18 u (Nat.lt_of_le_of_lt h (by decide))
  unfold numF numMost numDs numBase
  rw [hx]
  simp only [Bool.false_eq_true, if_false]
  rw [if_neg (by omega), if_neg (dec_ne u), dec_val]
  dsimp only
  rw [if_pos h]
/-- A number's words. -/
def numK (n : Int) : List Ky := if n < 0 then [(3, [45], 0), (2, Lib.decDigits n.natAbs, IntKind.i64.wrap n.natAbs)] else [(2, Lib.decDigits n.toNat, IntKind.i64.wrap n.toNat)]
theorem step_len {s : List UInt8} {p : Nat} {t : Tk} (h : stepF s p = .tok t) : t.s.length ≤ s.length := by
  unfold stepF at h
  split at h
  · cases h
  split at h
  · split at h <;> cases h
  split at h
  · split at h <;> cases h
    exact List.length_take_le' _ _
  split at h
  · cases h; exact List.length_take_le' _ _
  split at h
  · cases h; exact List.length_take_le' _ _
  split at h
  · cases h; exact List.length_take_le' _ _
  · cases h
end SX
end Go.Proofs.YthkedcneehdinaaGreatDoor

/- Instructions' texts, word by word; read again. -/
set_option linter.unusedVariables false
set_option maxRecDepth 100000
namespace Go.Proofs.YthkedcneehdinaaGreatDoor
namespace SX
open Go Go.Proofs
def Lg.rs (L : Lg) : List (List UInt8) := [L.s0, L.s1, L.s2, L.s3, L.s4, L.s5, L.s6, L.s7]
/-- A language that reads its own names. -/
structure LgOk (L : Lg) : Prop where
  nil : L.ix [] < 0
  ix : ∀ r, 0 ≤ r → r < 8 → L.ix (nmF L.rs r) = r
  nm : ∀ r, 0 ≤ r → r < 8 → nmB (nmF L.rs r) = true
  h : L.h = [] ∨ ∃ c, L.h = [c] ∧ mkB c = true
theorem lgOk_of {L : Lg} (h0 : L.ix [] < 0) (h1 : ∀ n : Fin 8, L.ix (nmF L.rs (n.val : Int)) = (n.val : Int) ∧ nmB (nmF L.rs (n.val : Int)) = true) (hh : L.h = [] ∨ ∃ c, L.h = [c] ∧ mkB c = true) : LgOk L :=
  ⟨h0, fun r a b => by have := (h1 ⟨r.toNat, by omega⟩).1; rwa [show ((r.toNat : Nat) : Int) = r by omega] at this, fun r a b => by have := (h1 ⟨r.toNat, by omega⟩).2; rwa [show ((r.toNat : Nat) : Int) = r by omega] at this, hh⟩
theorem lgX_ok : LgOk lgX := lgOk_of (by decide) (by decide) (.inr ⟨36, rfl, by decide⟩)
theorem lgR_ok : LgOk lgR := lgOk_of (by decide) (by decide) (.inl rfl)
theorem lgA_ok : LgOk lgA := lgOk_of (by decide) (by decide) (.inr ⟨35, rfl, by decide⟩)
/-! What stands behind a place. -/
def st (p : Nat) : RS := ⟨p, 0, 0⟩
def Dr (ts : List Tk) (p : Nat) (l : List Ky) : Prop := (ts.map key).drop p = l
theorem Dr.at' {ts : List Tk} {p : Nat} {k : Int} {s : List UInt8} {n : Int} {l : List Ky} (h : Dr ts p ((k, s, n) :: l)) : (tkAt ts p).k = k ∧ (tkAt ts p).s = s ∧ (tkAt ts p).n = n ∧ p < ts.length ∧ Dr ts (p + 1) l := by
  unfold Dr at h
  have hl : p < ts.length := by
    have := congrArg List.length h
    simp at this; omega
  have h0 : (ts.map key)[p]? = some (k, s, n) := by
    have := congrArg List.head? h
    rwa [List.head?_drop, List.head?_cons] at this
  rw [List.getElem?_map, List.getElem?_eq_getElem hl] at h0
  have e : tkAt ts p = ts[p] := by unfold tkAt; rw [List.getD_eq_getElem?_getD, List.getElem?_eq_getElem hl]; rfl
  simp only [Option.map_some, Option.some.injEq, key, Prod.mk.injEq] at h0
  refine ⟨by rw [e]; exact h0.1, by rw [e]; exact h0.2.1, by rw [e]; exact h0.2.2, hl, ?_⟩
  unfold Dr
  rw [← List.drop_drop, h]; rfl
theorem Dr.end' {ts : List Tk} {p : Nat} (h : Dr ts p []) : ts.length ≤ p := by
  have := congrArg List.length h
  simp at this; omega
theorem mark_at {ts : List Tk} {p : Nat} {m : List UInt8} {l : List Ky} (h : Dr ts p ((3, m, 0) :: l)) : markP ts m (st p) = st (p + 1) ∧ Dr ts (p + 1) l := by
  obtain ⟨h1, h2, _, h4, h5⟩ := h.at'
  refine ⟨?_, h5⟩
  unfold markP takeB st
  dsimp only
  rw [if_pos rfl, h1, h2, decide_eq_true h4]
  simp [goF]
theorem take_at {ts : List Tk} {p : Nat} {m : List UInt8} {l : List Ky} (h : Dr ts p ((3, m, 0) :: l)) : takeB ts m p = true := by
  obtain ⟨h1, h2, _, h4, h5⟩ := h.at'
  unfold takeB
  rw [h1, h2, decide_eq_true h4]
  simp
theorem take_no {ts : List Tk} {p : Nat} {m s : List UInt8} {k n : Int} {l : List Ky} (h : Dr ts p ((k, s, n) :: l)) (hs : k = 2 ∨ s ≠ m) : takeB ts m p = false := by
  obtain ⟨h1, h2, _, h4, h5⟩ := h.at'
  unfold takeB
  rw [h1, h2]
  rcases hs with hs | hs
  · rw [hs]; simp
  · rw [decide_eq_false hs]; simp
theorem word_at {ts : List Tk} {p : Nat} {w : List UInt8} {l : List Ky} (h : Dr ts p ((1, w, 0) :: l)) : wordP ts (st p) = (w, st (p + 1)) ∧ Dr ts (p + 1) l := by
  obtain ⟨h1, h2, _, h4, h5⟩ := h.at'
  refine ⟨?_, h5⟩
  unfold wordP
  rw [if_pos (show (st p).e = 0 from rfl)]
  rw [show (st p).p = p from rfl, h1, if_pos rfl, h2]; rfl
theorem nm_at {ts : List Tk} {p : Nat} {g : Int} {s : List UInt8} {n : Int} {l : List Ky} (h : Dr ts p ((2, s, n) :: l)) : nmP ts g (st p) = (IntKind.i64.wrap (g * n), st (p + 1)) ∧ Dr ts (p + 1) l := by
  obtain ⟨h1, _, h3, h4, h5⟩ := h.at'
  refine ⟨?_, h5⟩
  unfold nmP
  rw [show (st p).p = p from rfl, h1, if_pos rfl, h3]; rfl
theorem num_at {ts : List Tk} {p : Nat} {n : Int} {l : List Ky} (h1 : -9223372036854775808 ≤ n) (h2 : n ≤ 9223372036854775807) (h : Dr ts p (numK n ++ l)) : ∃ p', numP ts (st p) = (n, st p') ∧ Dr ts p' l := by
  unfold numK at h
  unfold numP
  rw [if_pos (show (st p).e = 0 from rfl), show (st p).p = p from rfl]
  split at h
  · rename_i hn
    have h : Dr ts p ((3, [45], 0) :: (2, Lib.decDigits n.natAbs, IntKind.i64.wrap n.natAbs) :: l) := h
    rw [take_at h, if_pos rfl]
    obtain ⟨e1, e2⟩ := nm_at (g := -1) h.at'.2.2.2.2
    refine ⟨p + 1 + 1, ?_, e2⟩
    rw [show goF (st p) = st (p + 1) from rfl, e1]
    congr 1
    rw [IntKind.wrap_i64, IntKind.wrap_i64]
    omega
  · rename_i hn
    have h : Dr ts p ((2, Lib.decDigits n.toNat, IntKind.i64.wrap n.toNat) :: l) := h
    rw [take_no h (.inl rfl), if_neg (by decide)]
    obtain ⟨e1, e2⟩ := nm_at (g := 1) h
    refine ⟨p + 1, ?_, e2⟩
    rw [e1]
    congr 1
    rw [IntKind.wrap_i64, IntKind.wrap_i64]
    omega
theorem loc_of {n : Int} (h : n = 0 ∨ n = 1 ∨ n = 2) : locI (locF n) = n ∧ nmB (locF n) = true := by rcases h with rfl | rfl | rfl <;> decide
theorem ofP_loc {ts : List Tk} {p : Nat} {n : Int} {l : List Ky} (hn : n = 0 ∨ n = 1 ∨ n = 2) (h : Dr ts p ((1, locF n, 0) :: l)) : ofP locI ts (st p) = (n, st (p + 1)) ∧ Dr ts (p + 1) l := by
  obtain ⟨e1, e2⟩ := word_at h
  refine ⟨?_, e2⟩
  unfold ofP
  rw [e1]
  dsimp only
  rw [(loc_of hn).1, if_neg (by omega)]
/-! Texts. -/
end SX
end Go.Proofs.YthkedcneehdinaaGreatDoor

/- Words of a text, plain: blanks first. -/
set_option linter.unusedVariables false
namespace Go.Proofs.YthkedcneehdinaaGreatDoor
namespace SX
open Go Go.Proofs
end SX
end Go.Proofs.YthkedcneehdinaaGreatDoor

/- Words of a text: the reference's small functions. -/
set_option linter.unusedVariables false
set_option maxRecDepth 100000
namespace Go.Proofs.YthkedcneehdinaaGreatDoor
namespace SX
open Go Go.Proofs
end SX
end Go.Proofs.YthkedcneehdinaaGreatDoor

/- Words of a text: the reference's numbers. -/
set_option linter.unusedVariables false
set_option maxRecDepth 100000
namespace Go.Proofs.YthkedcneehdinaaGreatDoor
namespace SX
open Go Go.Proofs
end SX
end Go.Proofs.YthkedcneehdinaaGreatDoor

/- Words of a text: the reference's Value. Printed by rkc.py. -/
set_option linter.unusedVariables false
set_option maxRecDepth 100000
namespace Go.Proofs.YthkedcneehdinaaGreatDoor
namespace SX
open Go Go.Proofs
end SX
end Go.Proofs.YthkedcneehdinaaGreatDoor

/- Words of a text: where a comment ends, plain; the reference's blanks, plain. -/
set_option linter.unusedVariables false
set_option maxRecDepth 100000
namespace Go.Proofs.YthkedcneehdinaaGreatDoor
namespace SX
open Go Go.Proofs
end SX
end Go.Proofs.YthkedcneehdinaaGreatDoor

/- Words of a text: the reference's blanks. -/
set_option linter.unusedVariables false
set_option maxRecDepth 100000
namespace Go.Proofs.YthkedcneehdinaaGreatDoor
namespace SX
open Go Go.Proofs
end SX
end Go.Proofs.YthkedcneehdinaaGreatDoor

/- Words of a text: the reference's Tokens (written by tools/rkf.py). -/
set_option linter.unusedVariables false
set_option maxRecDepth 100000
namespace Go.Proofs.YthkedcneehdinaaGreatDoor
namespace SX
open Go Go.Proofs
end SX
end Go.Proofs.YthkedcneehdinaaGreatDoor

/- Is a text one name: the reference's answer. -/
set_option linter.unusedVariables false
set_option maxRecDepth 100000
namespace Go.Proofs.YthkedcneehdinaaGreatDoor
namespace SX
open Go Go.Proofs
end SX
end Go.Proofs.YthkedcneehdinaaGreatDoor

/- Readers of words: rules; the cursor's functions. -/
set_option linter.unusedVariables false
set_option maxRecDepth 100000
namespace Go.Proofs.YthkedcneehdinaaGreatDoor
namespace SX
open Go Go.Proofs
section
variable {P : Program} {T : Tb}
/-- A function that hands back a value, and leaves the blocks that it is lent so. -/
theorem Ctr.enterH (hT : TabOk P T) {f : FuncId} {fn : Func} {c : Code} {n : Nat} (hf : P.funcs[f]? = some fn) (hb : fn.body = some c) (hn : fn.ntmps = n) (hnm : (fn.name == "runtime.NumGoroutine") = false) {args : List SV} {H H' : List SB} {r : SV}
    (hl : Nat.ble args.length n = true) (hr : Bnd H'.length r) (hH : BndH H'.length H') (hle : H.length ≤ H'.length) (h : sx P T c (retK T fn.results.toList (fun r' h => r' = r ∧ ∃ X, h = H' ++ X)) ⟨args ++ List.replicate (n - args.length) .dead, H⟩) : Ctr P f args H (fun r' h => r' = r ∧ h = H') := by
  have h1 := Ctr.enter hT hf hb hn hnm hl h
  exact h1.trim callX_m fun r' H1 ⟨e, X, hX⟩ => ⟨H', X, hX, hle, hH, by rw [e]; exact hr, e, rfl⟩
variable {ops : Array Oper} {o : Oper}
/-- A call that is lent the blocks ks, and hands them back so. -/
theorem OpC.callH {K : St → Prop} {t : List SV} {h : List SB} {c : Call} (hop : o.op = .call c) {fo : Operand} (hcal : c.callee = .value fo) (hg : guardOf ops t o = some []) {f : FuncId} {fst caps : List SV} (hf : calB (evG [] t fo) = some (f, fst, caps))
    (ks : List Nat) {ρ : Nat → Nat} (hρ : rho ks h.length = ρ) {args0 : List SV} {H0 H1 : List SB} {r0 : SV} (hc : Ctr P f args0 H0 (fun r h => r = r0 ∧ h = H1))
    (ha : fst ++ (c.args.toList.map (evG [] t) ++ caps) = renL ρ args0) (hl : (c.args.toList.map (evG [] t)).all live = true) (hnd : nodupB ks = true) (hks : ks.length = H0.length) (hH : Lent ρ h H0 0) (hlen : H1.length = H0.length)
    (hK : setBK h (zipB ρ H1 0) fun h2 => putK t h2 o.dst (ren ρ r0) K) : OpC P T ops o K ⟨t, h⟩ := by
  refine OpC.callL hop hcal hg hf ks 0 (ns := []) rfl (h1 := h) (by simp) (ρ := ρ) (by rw [List.append_nil]; exact hρ) hc ha hl (by rw [List.append_nil]; exact hnd) hks hH rfl (fun r H' hk => ?_) ?_
  · rw [hk.2, List.append_nil, hlen, hks]; exact ⟨Nat.le_refl _, Nat.le_refl _⟩
  · rintro r H' ⟨rfl, rfl⟩
    exact hK
end
section
variable (ts : List Tk) (ad : Option Addr) (cap : Nat)
def curB (p : Nat) : SB := .mem 158 [.imm Tk tk0 4 tkenc ts ad cap, .i .i64 p] 1 0
def rdrB (c l : Nat) (lb : List UInt8) (e q : Int) : SB := .mem 107 [.ptr c 1 0 [], .ptr l 1 0 [], .s lb, .i .i64 e, .i .i64 q] 1 0
end
variable {ts : List Tk} {ad : Option Addr} {cap : Nat}
theorem bndCur {M p : Nat} : BndB M (curB ts ad cap p) := ⟨rfl, rfl, trivial⟩
theorem wfn {p : Nat} (hp : p ≤ ts.length) (hl : ts.length ≤ 100000) : IntKind.i64.wrap ((p : Int) + 1) = ((p + 1 : Nat) : Int) := w64 (by omega) (by omega)
theorem left_ok {p : Nat} (hp : p ≤ ts.length) (hl : ts.length ≤ 100000) : Ctr Tryz.prog 70 [.ptr 0 1 0 []] [curB ts ad cap p] (fun r h => r = .i .i64 ((ts.length - p : Nat) : Int) ∧ h = [curB ts ad cap p]) := by
  have e : IntKind.i64.wrap ((ts.length : Int) - (p : Int)) = ((ts.length - p : Nat) : Int) := by rw [w64 (by omega) (by omega)]; omega
  rw [← e]
  refine Ctr.enterH tabOkF (fn := Tryz.f70) rfl rfl rfl rfl rfl rfl ⟨bndCur, trivial⟩ (Nat.le_refl _) ?_
  refine WpC.dr tabOkF mixed 0 ?_
  refine ⟨by kernel_rfl, ?_⟩
  exact ⟨rfl, _, rfl⟩
theorem peek_ok {p : Nat} (hp : p ≤ ts.length) : Ctr Tryz.prog 124 [.ptr 0 1 0 []] [curB ts ad cap p] (fun r h => r = .tup [.agg (tkenc (tkAt ts p)), .b (decide (p < ts.length))] ∧ h = [curB ts ad cap p]) := by
  refine Ctr.enterH tabOkF (fn := Tryz.f124) rfl rfl rfl rfl rfl rfl ⟨bndCur, trivial⟩ (Nat.le_refl _) ?_
  refine WpC.dr tabOkF mixed 0 ?_
  refine ⟨by kernel_rfl, ?_⟩
  refine ⟨fun h1 => ?_, fun h1 => ?_⟩
  · have h1 : (p : Int) = (ts.length : Int) := of_decide_eq_true h1
    have e1 : tkAt ts p = tk0 := by unfold tkAt; rw [List.getD_eq_getElem?_getD, List.getElem?_eq_none (by omega)]; rfl
    rw [e1, decide_eq_false (by omega)]
    exact ⟨rfl, _, rfl⟩
  · have h1 : ¬ (p : Int) = (ts.length : Int) := of_decide_eq_false h1
    rw [decide_eq_true (by omega)]
    refine WpC.dr tabOkF mixed 0 ?_
    refine ⟨fun _ => ⟨by omega, by omega⟩, ?_⟩
    refine ⟨by kernel_rfl, ?_⟩
    exact ⟨rfl, _, rfl⟩
theorem next_ok {p : Nat} (hp : p < ts.length) (hl : ts.length ≤ 100000) : Ctr Tryz.prog 198 [.ptr 0 1 0 []] [curB ts ad cap p] (fun r h => r = .tup [.agg (tkenc (tkAt ts p)), .b true] ∧ h = [curB ts ad cap (p + 1)]) := by
  have hk := peek_ok (ad := ad) (cap := cap) (p := p) (ts := ts) (by omega)
  rw [decide_eq_true hp] at hk
  have e1 := wfn (ts := ts) (p := p) (by omega) hl
  have eB : curB ts ad cap (p + 1) = .mem 158 [.imm Tk tk0 4 tkenc ts ad cap, .i .i64 (IntKind.i64.wrap ((p : Int) + 1))] 1 0 := by rw [e1]; rfl
  rw [eB]
  refine Ctr.enterH tabOkF (fn := Tryz.f198) rfl rfl rfl rfl rfl rfl ⟨⟨rfl, rfl, trivial⟩, trivial⟩ (Nat.le_refl _) ?_
  refine OpC.callH rfl rfl rfl rfl [0] rfl hk rfl rfl rfl rfl ⟨rfl, trivial⟩ rfl ?_
  refine ⟨fun _ => ?_, fun h => no_tf h⟩
  exact ⟨rfl, _, rfl⟩
theorem name_ok {p : Nat} (hp : p ≤ ts.length) (hl : ts.length ≤ 100000) : Ctr Tryz.prog 154 [.ptr 0 1 0 []] [curB ts ad cap p]
    (fun r h => r = .tup [.s (if (tkAt ts p).k = 1 then (tkAt ts p).s else []), .b (decide ((tkAt ts p).k = 1))] ∧ h = [curB ts ad cap (if (tkAt ts p).k = 1 then p + 1 else p)]) := by
  have hk := peek_ok (ad := ad) (cap := cap) hp
  by_cases h1 : (tkAt ts p).k = 1
  · have hlt := at_lt (ts := ts) (p := p) (by rw [h1]; decide)
    rw [if_pos h1, if_pos h1, decide_eq_true h1]
    rw [decide_eq_true hlt] at hk
    have e1 := wfn (ts := ts) (p := p) (by omega) hl
    have eB : curB ts ad cap (p + 1) = .mem 158 [.imm Tk tk0 4 tkenc ts ad cap, .i .i64 (IntKind.i64.wrap ((p : Int) + 1))] 1 0 := by rw [e1]; rfl
    rw [eB]
    refine Ctr.enterH tabOkF (fn := Tryz.f154) rfl rfl rfl rfl rfl rfl ⟨⟨rfl, rfl, trivial⟩, trivial⟩ (Nat.le_refl _) ?_
    refine OpC.callH rfl rfl rfl rfl [0] rfl hk rfl rfl rfl rfl ⟨rfl, trivial⟩ rfl ?_
    refine ⟨fun h => ?_, fun _ => ⟨rfl, _, rfl⟩⟩
    have h : (!decide ((tkAt ts p).k = 1)) = true := h
    rw [decide_eq_true h1] at h; cases h
  · rw [if_neg h1, if_neg h1, decide_eq_false h1]
    refine Ctr.enterH tabOkF (fn := Tryz.f154) rfl rfl rfl rfl rfl rfl ⟨bndCur, trivial⟩ (Nat.le_refl _) ?_
    refine OpC.callH rfl rfl rfl rfl [0] rfl hk rfl rfl rfl rfl ⟨rfl, trivial⟩ rfl ?_
    refine ⟨fun _ => ⟨rfl, _, rfl⟩, fun h => ?_⟩
    have h : ((!decide (p < ts.length)) || (!decide ((tkAt ts p).k = 1))) = false := h
    rw [decide_eq_false h1, Bool.not_false, Bool.or_true] at h; cases h
theorem at_ok {p : Nat} (hp : p ≤ ts.length) (hl : ts.length ≤ 100000) : Ctr Tryz.prog 68 [.ptr 0 1 0 []] [curB ts ad cap p] (fun r h => r = .i .i64 (whF ts p) ∧ h = [curB ts ad cap p]) := by
  have hk := peek_ok (ad := ad) (cap := cap) hp
  refine Ctr.enterH tabOkF (fn := Tryz.f68) rfl rfl rfl rfl rfl rfl ⟨bndCur, trivial⟩ (Nat.le_refl _) ?_
  refine OpC.callH rfl rfl rfl rfl [0] rfl hk rfl rfl rfl rfl ⟨rfl, trivial⟩ rfl ?_
  unfold whF
  refine ⟨fun h1 => ?_, fun h1 => ?_⟩
  · have h1 : p < ts.length := of_decide_eq_true h1
    rw [if_pos h1]
    exact ⟨rfl, _, rfl⟩
  · have h1 : ¬ p < ts.length := of_decide_eq_false h1
    rw [if_neg h1]
    refine ⟨fun h2 => ?_, fun h2 => ?_⟩
    · have h2 : (ts.length : Int) = 0 := of_decide_eq_true h2
      rw [if_pos (by omega)]
      exact ⟨rfl, _, rfl⟩
    · have h2 : ¬ (ts.length : Int) = 0 := of_decide_eq_false h2
      rw [if_neg (by omega)]
      have e1 : IntKind.i64.wrap ((ts.length : Int) - 1) = ((ts.length - 1 : Nat) : Int) := by rw [w64 (by omega) (by omega)]; omega
      refine WpC.dr tabOkF mixed 1 ?_
      refine ⟨fun _ => ?_, ?_⟩
      · show (0 : Int) ≤ IntKind.i64.wrap ((ts.length : Int) - 1) ∧ IntKind.i64.wrap ((ts.length : Int) - 1) < (ts.length : Int)
        rw [e1]; omega
      refine ⟨by kernel_rfl, ?_⟩
      refine ⟨i_cg ?_, _, rfl⟩
      show IntKind.i64.wrap ((ts.getD (IntKind.i64.wrap ((ts.length : Int) - 1)).toNat tk0).a + ((ts.getD (IntKind.i64.wrap ((ts.length : Int) - 1)).toNat tk0).s.length : Int)) = _
      rw [e1, Int.toNat_natCast]; rfl
end SX
end Go.Proofs.YthkedcneehdinaaGreatDoor

/- Readers of words: Take of one mark. -/
set_option linter.unusedVariables false
set_option maxRecDepth 100000
namespace Go.Proofs.YthkedcneehdinaaGreatDoor
namespace SX
open Go Go.Proofs
variable {ts : List Tk} {ad : Option Addr} {cap : Nat}
theorem take_in {m : List UInt8} {p : Nat} (hlt : p < ts.length) (e0 : IntKind.i64.wrap ((p : Int) + ((0 : Nat) : Int)) = (p : Int)) : ((!decide ((ts.getD (IntKind.i64.wrap ((p : Int) + ((0 : Nat) : Int))).toNat tk0).s = m)) || decide ((ts.getD (IntKind.i64.wrap ((p : Int) + ((0 : Nat) : Int))).toNat tk0).k = 2)) = !takeB ts m p := by
  rw [e0, Int.toNat_natCast]
  show ((!decide ((tkAt ts p).s = m)) || decide ((tkAt ts p).k = 2)) = _
  unfold takeB
  rw [decide_eq_true hlt]
  cases decide ((tkAt ts p).s = m) <;> cases decide ((tkAt ts p).k = 2) <;> rfl
theorem take_ok {m : List UInt8} {p : Nat} {b : Bool} {q : Nat} (hb : takeB ts m p = b) (hq : q = if b then p + 1 else p) (hp : p ≤ ts.length) (hl : ts.length ≤ 100000) : Ctr Tryz.prog 188 [.ptr 0 1 0 [], .sl 1 1 0 1 (some 1) 0] [curB ts ad cap p, strB [m]] (fun r h => r = .b b ∧ h = [curB ts ad cap q, strB [m]]) := by
  have hL := left_ok (ad := ad) (cap := cap) hp hl
  have e0 : IntKind.i64.wrap ((p : Int) + ((0 : Nat) : Int)) = (p : Int) := w64 (by omega) (by omega)
  have e1 : IntKind.i64.wrap ((p : Int) + 1) = ((p + 1 : Nat) : Int) := wfn hp hl
  have eB : ∀ x : Int, x = ((p + 1 : Nat) : Int) → .mem 158 [.imm Tk tk0 4 tkenc ts ad cap, .i .i64 x] 1 0 = curB ts ad cap (p + 1) := fun x h => by rw [h]; rfl
  refine Ctr.enterH tabOkF (fn := Tryz.f188) rfl rfl rfl rfl rfl rfl ⟨bndCur, ⟨rfl, trivial⟩, trivial⟩ (Nat.le_refl _) ?_
  refine OpC.callH rfl rfl rfl rfl [0] rfl hL rfl rfl rfl rfl ⟨rfl, trivial⟩ rfl ?_
  refine ⟨fun h1 => ?_, fun h1 => ?_⟩
  · have h1 : ((ts.length - p : Nat) : Int) < 1 := of_decide_eq_true h1
    have hbf : b = false := by
      rw [← hb]; unfold takeB; rw [decide_eq_false (by omega)]; rfl
    subst hbf
    rw [hq]
    exact ⟨rfl, _, rfl⟩
  · have h1 : ¬ ((ts.length - p : Nat) : Int) < 1 := of_decide_eq_false h1
    have hlt : p < ts.length := by omega
    have ht := take_in (m := m) hlt e0
    rw [hb] at ht
    refine WpC.loop tabOkF (β := Nat) (fun k => k = 0 ∨ (k = 1 ∧ b = true)) (fun k => [(15, .i .i64 k)]) (fun _ => [curB ts ad cap p, strB [m]]) (fun k => 1 - k) 0 (2 ^ 51 - 1 - 3 - 2 ^ 14 - 2 ^ 13) (.inl rfl) ?_ ?_
    · exact ⟨rfl, ⟨⟨rfl, rfl, rfl⟩, trivial⟩, ⟨[], rfl⟩, ⟨bndCur, ⟨rfl, trivial⟩, trivial⟩, rfl⟩
    · rintro k (rfl | ⟨rfl, hbt⟩)
      · refine ⟨fun _ => ?_, fun h => no_tf h⟩
        refine ⟨fun _ => by decide, ?_⟩
        refine WpC.dr tabOkF mixed 1 ?_
        refine ⟨fun _ => ?_, ?_⟩
        · show (0 : Int) ≤ IntKind.i64.wrap ((p : Int) + ((0 : Nat) : Int)) ∧ IntKind.i64.wrap ((p : Int) + ((0 : Nat) : Int)) < (ts.length : Int)
          rw [e0]; omega
        refine ⟨by kernel_rfl, ?_⟩
        refine ⟨fun h2 => ?_, fun h2 => ?_⟩
        · have h2 := ht.symm.trans h2
          have hbf : b = false := by cases b with | false => rfl | true => cases h2
          subst hbf
          rw [hq]
          exact ⟨rfl, _, rfl⟩
        · have h2 := ht.symm.trans h2
          have hbt : b = true := by cases b with | true => rfl | false => cases h2
          exact ⟨1, .inr ⟨rfl, hbt⟩, by decide, rfl, ⟨⟨rfl, rfl, rfl⟩, trivial⟩, ⟨_, rfl⟩, ⟨bndCur, ⟨rfl, trivial⟩, trivial⟩, rfl⟩
      · refine ⟨fun h => no_ft h, fun _ => ?_⟩
        subst hbt
        rw [hq, if_pos rfl]
        refine ⟨rfl, [], ?_⟩
        rw [← eB _ e1]
        rfl
end SX
end Go.Proofs.YthkedcneehdinaaGreatDoor

/- Readers of words: the reader's small functions. -/
set_option linter.unusedVariables false
set_option maxRecDepth 100000
namespace Go.Proofs.YthkedcneehdinaaGreatDoor
namespace SX
open Go Go.Proofs
/-- What a reader stands on: a language, a row of words, a label. -/
structure Rc where
  L : Lg
  rd : Nat
  pr : Nat
  ts : List Tk
  ad : Option Addr
  cap : Nat
  lb : List UInt8
/-- A state that may be. -/
structure Rk (c : Rc) (s : RS) : Prop where
  p : s.p ≤ c.ts.length
  l : c.ts.length ≤ 100000
variable {c : Rc} {s : RS}
theorem Rk.fail (h : Rk c s) (e q : Int) : Rk c (failF s e q) := by
  unfold failF; split
  · exact ⟨h.p, h.l⟩
  · exact h
theorem Rk.miss (h : Rk c s) : Rk c (missP c.ts s) := by unfold missP; split <;> exact h.fail _ _
theorem Rk.go (h : Rk c s) (hl : s.p < c.ts.length) : Rk c (goF s) := ⟨hl, h.l⟩
theorem take_lt {ts : List Tk} {m : List UInt8} {p : Nat} (h : takeB ts m p = true) : p < ts.length := by
  unfold takeB at h
  simp only [Bool.and_eq_true, decide_eq_true_eq] at h
  exact h.1
theorem Rk.mark (h : Rk c s) (m : List UInt8) : Rk c (markP c.ts m s) := by
  unfold markP
  split
  · split
    · rename_i ht; exact h.go (take_lt ht)
    · exact h.miss
  · exact h
theorem Rk.word (h : Rk c s) : Rk c (wordP c.ts s).2 := by
  unfold wordP
  split
  · split
    · rename_i hk; exact h.go (at_lt (by rw [hk]; decide))
    · exact h.miss
  · exact h
theorem Rk.of (h : Rk c s) (f : List UInt8 → Int) : Rk c (ofP f c.ts s).2 := by
  unfold ofP
  split
  · exact h.word.fail _ _
  · exact h.word
end SX
end Go.Proofs.YthkedcneehdinaaGreatDoor

/- Words read as a condition, plain: the program's reader. -/
set_option linter.unusedVariables false
set_option maxRecDepth 100000
namespace Go.Proofs.YthkedcneehdinaaGreatDoor
namespace SX
open Go Go.Proofs
/-- A reader's state, and the nodes so far. -/
abbrev CX := RS × List Cn
def nodC (k : Int) : Cn := ⟨k, 0, 0, 0, 0⟩
/-- Parts with a mark between. -/
def rowL (part : CX → CX) (ts : List Tk) (m : List UInt8) (k : Int) : Nat → CX → CX
  | 0, x => x
  | n + 1, x => if isP ts m x.1 = true then (if x.1.e ≠ 0 then x else rowL part ts m k n ((part (goF x.1, x.2)).1, (part (goF x.1, x.2)).2 ++ [nodC k])) else x
def andG (part : CX → CX) (ts : List Tk) (n : Nat) (x : CX) : CX := rowL part ts [47, 92] 4 n (part x)
def orG (part : CX → CX) (ts : List Tk) (n : Nat) (x : CX) : CX := rowL (andG part ts n) ts [92, 47] 5 n (andG part ts n x)
def rgC (f : List UInt8 → Int) (ts : List Tk) (x : CX) : CX :=
  let r := ofP f ts (markP ts [58] (goF x.1))
  let v := numP ts (markP ts [61] r.2)
  (v.2, x.2 ++ [⟨1, (tkAt ts x.1.p).n, r.1, 0, v.1⟩])
def lcC (ts : List Tk) (x : CX) : CX :=
  let r := ofP locI ts x.1
  let v := numP ts (markP ts [61] r.2)
  (v.2, x.2 ++ [⟨2, 0, 0, r.1, v.1⟩])
def isTh (ts : List Tk) (s : RS) : Prop := (tkAt ts s.p).k = 2 ∧ 0 ≤ (tkAt ts s.p).n ∧ (tkAt ts s.p).n < 3
instance (ts : List Tk) (s : RS) : Decidable (isTh ts s) := by unfold isTh; infer_instance
/-- What stands between. -/
def atmG (f : List UInt8 → Int) (ts : List Tk) : Nat → CX → CX
  | 0, x => x
  | n + 1, x =>
    if x.1.e ≠ 0 then x
    else if isP ts [126] x.1 = true then ((atmG f ts n (goF x.1, x.2)).1, (atmG f ts n (goF x.1, x.2)).2 ++ [nodC 3])
    else if isP ts [40] x.1 = true then (markP ts [41] (orG (atmG f ts n) ts n (goF x.1, x.2)).1, (orG (atmG f ts n) ts n (goF x.1, x.2)).2)
    else if isTh ts x.1 then rgC f ts x
    else lcC ts x
/-! How far a step goes, how many nodes it makes. -/
def wC (s : RS) : Nat := s.p + (if s.e = 0 then 0 else 1)
structure Stp (ts : List Tk) (x y : CX) : Prop where
  p : x.1.p ≤ y.1.p
  t : y.1.p ≤ ts.length
  e : x.1.e ≠ 0 → y.1.e ≠ 0
  w : y.2.length + wC x.1 ≤ x.2.length + wC y.1
theorem Stp.refl {ts : List Tk} {x : CX} (h : x.1.p ≤ ts.length) : Stp ts x x := ⟨Nat.le_refl _, h, id, Nat.le_refl _⟩
theorem Stp.trans {ts : List Tk} {x y z : CX} (h : Stp ts x y) (h' : Stp ts y z) : Stp ts x z := ⟨Nat.le_trans h.p h'.p, h'.t, fun e => h'.e (h.e e), by have := h.w; have := h'.w; omega⟩
/-- A reader's step that makes no node. -/
structure Mov (ts : List Tk) (a b : RS) : Prop where
  p : a.p ≤ b.p
  t : b.p ≤ ts.length
  e : a.e ≠ 0 → b.e ≠ 0
theorem Mov.w {ts : List Tk} {a b : RS} (h : Mov ts a b) : wC a ≤ wC b := by
  have := h.p
  have := h.e
  unfold wC
  split
  · split <;> omega
  · rename_i h0; rw [if_neg (h.e h0)]; omega
theorem Mov.refl {ts : List Tk} {a : RS} (h : a.p ≤ ts.length) : Mov ts a a := ⟨Nat.le_refl _, h, id⟩
theorem Mov.trans {ts : List Tk} {a b c : RS} (h : Mov ts a b) (h' : Mov ts b c) : Mov ts a c := ⟨Nat.le_trans h.p h'.p, h'.t, fun e => h'.e (h.e e)⟩
theorem mov_fail {ts : List Tk} {a : RS} (h : a.p ≤ ts.length) {e q : Int} (he : e ≠ 0) : Mov ts a (failF a e q) := by
  unfold failF
  split
  · exact ⟨Nat.le_refl _, h, fun _ => he⟩
  · exact .refl h
theorem mov_miss {ts : List Tk} {a : RS} (h : a.p ≤ ts.length) : Mov ts a (missP ts a) := by unfold missP; split <;> exact mov_fail h (by decide)
theorem mov_go {ts : List Tk} {a : RS} (h : a.p < ts.length) : Mov ts a (goF a) := ⟨Nat.le_succ _, h, id⟩
theorem mov_mark {ts : List Tk} {a : RS} (m : List UInt8) (h : a.p ≤ ts.length) : Mov ts a (markP ts m a) := by
  unfold markP
  split
  · split
    · rename_i ht; exact mov_go (take_lt ht)
    · exact mov_miss h
  · exact .refl h
theorem mov_word {ts : List Tk} {a : RS} (h : a.p ≤ ts.length) : Mov ts a (wordP ts a).2 := by
  unfold wordP
  split
  · split
    · rename_i hk; exact mov_go (at_lt (by rw [hk]; decide))
    · exact mov_miss h
  · exact .refl h
theorem mov_of {ts : List Tk} {a : RS} (f : List UInt8 → Int) (h : a.p ≤ ts.length) : Mov ts a (ofP f ts a).2 := by
  unfold ofP
  have := mov_word (ts := ts) h
  split
  · exact this.trans (mov_fail this.t (by decide))
  · exact this
/-- A name that is asked for is read, or something is wrong. -/
theorem of_w {ts : List Tk} {a : RS} (f : List UInt8 → Int) (h : a.p ≤ ts.length) (he : a.e = 0) : wC a + 1 ≤ wC (ofP f ts a).2 := by
  by_cases h0 : (ofP f ts a).2.e = 0
  · have hw : (wordP ts a).2.e = 0 := by
      unfold ofP at h0
      split at h0
      · exact absurd h0 (failF_e (by decide))
      · exact h0
    have hs : (ofP f ts a).2 = (wordP ts a).2 := by
      unfold ofP at h0 ⊢
      split at h0
      · exact absurd h0 (failF_e (by decide))
      · rename_i hx; rw [if_neg hx]
    rw [hs]
    unfold wordP at hw ⊢
    rw [if_pos he] at hw ⊢
    split at hw
    · rename_i hk
      rw [if_pos hk]
      unfold wC goF
      simp only [he, if_true]
      omega
    · exact absurd hw (miss_e ts a)
  · have := (mov_of (ts := ts) f h).p
    unfold wC
    rw [if_pos he, if_neg h0]
    omega
theorem mov_nm {ts : List Tk} {a : RS} (g : Int) (h : a.p ≤ ts.length) : Mov ts a (nmP ts g a).2 := by
  unfold nmP
  split
  · rename_i hk; exact mov_go (at_lt (by rw [hk]; decide))
  · exact mov_miss h
theorem mov_num {ts : List Tk} {a : RS} (h : a.p ≤ ts.length) : Mov ts a (numP ts a).2 := by
  unfold numP
  split
  · split
    · rename_i ht
      have h1 := mov_go (take_lt ht)
      exact h1.trans (mov_nm _ h1.t)
    · exact mov_nm _ h
  · exact .refl h
theorem isP_lt {ts : List Tk} {m : List UInt8} {s : RS} (h : isP ts m s = true) : s.p < ts.length := by
  unfold isP at h
  simp only [Bool.and_eq_true, decide_eq_true_eq] at h
  exact at_lt (by rw [h.1]; decide)
theorem stp_node {ts : List Tk} {x : CX} {b : RS} {c : Cn} (h : Mov ts x.1 b) (hw : wC x.1 + 1 ≤ wC b) : Stp ts x (b, x.2 ++ [c]) := ⟨h.p, h.t, h.e, by simp; omega⟩
theorem stp_rg {f : List UInt8 → Int} {ts : List Tk} {x : CX} (h : isTh ts x.1) : Stp ts x (rgC f ts x) := by
  have hl : x.1.p < ts.length := at_lt (by rw [h.1]; decide)
  have h1 := mov_go hl
  have h2 := mov_mark [58] h1.t
  have h3 := mov_of f h2.t
  have h4 := mov_mark [61] h3.t
  have h5 := mov_num h4.t
  unfold rgC
  dsimp only
  refine stp_node (h1.trans (h2.trans (h3.trans (h4.trans h5)))) ?_
  have := (h2.trans (h3.trans (h4.trans h5))).w
  have e : wC (goF x.1) = wC x.1 + 1 := by unfold wC goF; dsimp only; split <;> omega
  omega
theorem stp_lc {ts : List Tk} {x : CX} (h : x.1.p ≤ ts.length) (he : x.1.e = 0) : Stp ts x (lcC ts x) := by
  have h3 := mov_of locI h
  have h4 := mov_mark [61] h3.t
  have h5 := mov_num h4.t
  unfold lcC
  dsimp only
  refine stp_node (h3.trans (h4.trans h5)) ?_
  have := (h4.trans h5).w
  have := of_w (ts := ts) locI h he
  omega
theorem w_go {s : RS} : wC (goF s) = wC s + 1 := by unfold wC goF; dsimp only; split <;> omega
theorem stp_row {part : CX → CX} {ts : List Tk} (hp : ∀ x : CX, x.1.p ≤ ts.length → Stp ts x (part x)) (m : List UInt8) (k : Int) : ∀ (n : Nat) (x : CX), x.1.p ≤ ts.length → Stp ts x (rowL part ts m k n x)
  | 0, x, h => .refl h
  | n + 1, x, h => by
    unfold rowL
    split
    · rename_i hm
      split
      · exact .refl h
      · have hl := isP_lt hm
        have h1 := hp (goF x.1, x.2) hl
        have h2 : Stp ts x ((part (goF x.1, x.2)).1, (part (goF x.1, x.2)).2 ++ [nodC k]) := by
          refine ⟨Nat.le_trans (Nat.le_succ _) h1.p, h1.t, fun e => h1.e e, ?_⟩
          have := h1.w
          have e : wC (goF x.1, x.2).1 = wC x.1 + 1 := w_go
          rw [e] at this
          simp only [List.length_append, List.length_singleton]
          dsimp only at this ⊢
          omega
        exact h2.trans (stp_row hp m k n _ h2.t)
    · exact .refl h
theorem stp_and {part : CX → CX} {ts : List Tk} (hp : ∀ x : CX, x.1.p ≤ ts.length → Stp ts x (part x)) (n : Nat) (x : CX) (h : x.1.p ≤ ts.length) : Stp ts x (andG part ts n x) := (hp x h).trans (stp_row hp _ _ n _ (hp x h).t)
theorem stp_or {part : CX → CX} {ts : List Tk} (hp : ∀ x : CX, x.1.p ≤ ts.length → Stp ts x (part x)) (n : Nat) (x : CX) (h : x.1.p ≤ ts.length) : Stp ts x (orG part ts n x) := (stp_and hp n x h).trans (stp_row (fun x h => stp_and hp n x h) _ _ n _ (stp_and hp n x h).t)
theorem stp_atm (f : List UInt8 → Int) (ts : List Tk) : ∀ (n : Nat) (x : CX), x.1.p ≤ ts.length → Stp ts x (atmG f ts n x)
  | 0, x, h => .refl h
  | n + 1, x, h => by
    unfold atmG
    split
    · exact .refl h
    rename_i he
    have he : x.1.e = 0 := by simpa using he
    split
    · rename_i hm
      have hl := isP_lt hm
      have h1 := stp_atm f ts n (goF x.1, x.2) hl
      refine ⟨Nat.le_trans (Nat.le_succ _) h1.p, h1.t, fun e => h1.e e, ?_⟩
      have := h1.w
      have e : wC (goF x.1, x.2).1 = wC x.1 + 1 := w_go
      rw [e] at this
      simp only [List.length_append, List.length_singleton]
      dsimp only at this ⊢
      omega
    split
    · rename_i hm
      have hl := isP_lt hm
      have h1 := stp_or (fun x h => stp_atm f ts n x h) n (goF x.1, x.2) hl
      have h2 := mov_mark [41] h1.t
      refine ⟨Nat.le_trans (Nat.le_succ _) (Nat.le_trans h1.p h2.p), h2.t, fun e => h2.e (h1.e e), ?_⟩
      have h3 := h1.w
      have h4 := h2.w
      have e : wC (goF x.1, x.2).1 = wC x.1 + 1 := w_go
      rw [e] at h3
      dsimp only at h3 h4 ⊢
      omega
    split
    · rename_i ht; exact stp_rg ht
    · exact stp_lc h he
end SX
end Go.Proofs.YthkedcneehdinaaGreatDoor

/- Which register a name is. Cut from XRg. -/
set_option linter.unusedVariables false
set_option maxRecDepth 100000
namespace Go.Proofs.YthkedcneehdinaaGreatDoor
namespace SX
open Go Go.Proofs
set_option maxHeartbeats 1000000 in
theorem index_s (s0 s1 s2 s3 s4 s5 s6 s7 v : List UInt8) : Ctr Tryz.prog 102 [.sl 0 1 0 8 (some 8) 0, .s v] [rowS s0 s1 s2 s3 s4 s5 s6 s7] (fun r h => r = .i .i64 (idxF s0 s1 s2 s3 s4 s5 s6 s7 v) ∧ h = [rowS s0 s1 s2 s3 s4 s5 s6 s7]) := by
  refine Ctr.enterG tabOkF (fn := Tryz.f102) rfl rfl rfl rfl rfl rfl ⟨⟨rfl, rfl, rfl, rfl, rfl, rfl, rfl, rfl, trivial⟩, trivial⟩ ?_
  refine WpC.loop tabOkF (β := Nat) (fun k => k ≤ 8 ∧ (0 < k → v ≠ s0) ∧ (1 < k → v ≠ s1) ∧ (2 < k → v ≠ s2) ∧ (3 < k → v ≠ s3) ∧ (4 < k → v ≠ s4) ∧ (5 < k → v ≠ s5) ∧ (6 < k → v ≠ s6) ∧ (7 < k → v ≠ s7)) (fun k => [(8, .i .i64 k)]) (fun _ => [rowS s0 s1 s2 s3 s4 s5 s6 s7]) (fun k => 8 - k) 0 524080 ⟨by decide, fun h => absurd h (by decide), fun h => absurd h (by decide), fun h => absurd h (by decide), fun h => absurd h (by decide), fun h => absurd h (by decide), fun h => absurd h (by decide), fun h => absurd h (by decide), fun h => absurd h (by decide)⟩ ?_ ?_
  · exact ⟨rfl, ⟨⟨rfl, rfl, rfl⟩, trivial⟩, ⟨[], rfl⟩, ⟨⟨rfl, rfl, rfl, rfl, rfl, rfl, rfl, rfl, trivial⟩, trivial⟩, rfl⟩
  · rintro k ⟨hk, q0, q1, q2, q3, q4, q5, q6, q7⟩
    rcases (by omega : k = 0 ∨ k = 1 ∨ k = 2 ∨ k = 3 ∨ k = 4 ∨ k = 5 ∨ k = 6 ∨ k = 7 ∨ k = 8) with rfl | rfl | rfl | rfl | rfl | rfl | rfl | rfl | rfl
    · refine ⟨fun _ => ?_, fun h => absurd h (by decide)⟩
      refine ⟨fun _ => by decide, ?_⟩
      refine ⟨fun h => ?_, fun h => ?_⟩
      · have e : v = s0 := of_decide_eq_true h
        refine ⟨i_cg ?_, _, rfl⟩
        unfold idxF
        rw [if_pos e]
        rfl
      · have e0 : ¬ v = s0 := of_decide_eq_false h
        exact ⟨1, ⟨by decide, fun _ => e0, fun h => absurd h (by decide), fun h => absurd h (by decide), fun h => absurd h (by decide), fun h => absurd h (by decide), fun h => absurd h (by decide), fun h => absurd h (by decide), fun h => absurd h (by decide)⟩, by decide, rfl, ⟨⟨rfl, rfl, rfl⟩, trivial⟩, ⟨[], rfl⟩, ⟨⟨rfl, rfl, rfl, rfl, rfl, rfl, rfl, rfl, trivial⟩, trivial⟩, rfl⟩
    · have e0 := q0 (by decide)
      refine ⟨fun _ => ?_, fun h => absurd h (by decide)⟩
      refine ⟨fun _ => by decide, ?_⟩
      refine ⟨fun h => ?_, fun h => ?_⟩
      · have e : v = s1 := of_decide_eq_true h
        refine ⟨i_cg ?_, _, rfl⟩
        unfold idxF
        rw [if_neg e0]
        rw [if_pos e]
        rfl
      · have e1 : ¬ v = s1 := of_decide_eq_false h
        exact ⟨2, ⟨by decide, fun _ => e0, fun _ => e1, fun h => absurd h (by decide), fun h => absurd h (by decide), fun h => absurd h (by decide), fun h => absurd h (by decide), fun h => absurd h (by decide), fun h => absurd h (by decide)⟩, by decide, rfl, ⟨⟨rfl, rfl, rfl⟩, trivial⟩, ⟨[], rfl⟩, ⟨⟨rfl, rfl, rfl, rfl, rfl, rfl, rfl, rfl, trivial⟩, trivial⟩, rfl⟩
    · have e0 := q0 (by decide)
      have e1 := q1 (by decide)
      refine ⟨fun _ => ?_, fun h => absurd h (by decide)⟩
      refine ⟨fun _ => by decide, ?_⟩
      refine ⟨fun h => ?_, fun h => ?_⟩
      · have e : v = s2 := of_decide_eq_true h
        refine ⟨i_cg ?_, _, rfl⟩
        unfold idxF
        rw [if_neg e0]
        rw [if_neg e1]
        rw [if_pos e]
        rfl
      · have e2 : ¬ v = s2 := of_decide_eq_false h
        exact ⟨3, ⟨by decide, fun _ => e0, fun _ => e1, fun _ => e2, fun h => absurd h (by decide), fun h => absurd h (by decide), fun h => absurd h (by decide), fun h => absurd h (by decide), fun h => absurd h (by decide)⟩, by decide, rfl, ⟨⟨rfl, rfl, rfl⟩, trivial⟩, ⟨[], rfl⟩, ⟨⟨rfl, rfl, rfl, rfl, rfl, rfl, rfl, rfl, trivial⟩, trivial⟩, rfl⟩
    · have e0 := q0 (by decide)
      have e1 := q1 (by decide)
      have e2 := q2 (by decide)
      refine ⟨fun _ => ?_, fun h => absurd h (by decide)⟩
      refine ⟨fun _ => by decide, ?_⟩
      refine ⟨fun h => ?_, fun h => ?_⟩
      · have e : v = s3 := of_decide_eq_true h
        refine ⟨i_cg ?_, _, rfl⟩
        unfold idxF
        rw [if_neg e0]
        rw [if_neg e1]
        rw [if_neg e2]
        rw [if_pos e]
        rfl
      · have e3 : ¬ v = s3 := of_decide_eq_false h
        exact ⟨4, ⟨by decide, fun _ => e0, fun _ => e1, fun _ => e2, fun _ => e3, fun h => absurd h (by decide), fun h => absurd h (by decide), fun h => absurd h (by decide), fun h => absurd h (by decide)⟩, by decide, rfl, ⟨⟨rfl, rfl, rfl⟩, trivial⟩, ⟨[], rfl⟩, ⟨⟨rfl, rfl, rfl, rfl, rfl, rfl, rfl, rfl, trivial⟩, trivial⟩, rfl⟩
    · have e0 := q0 (by decide)
      have e1 := q1 (by decide)
      have e2 := q2 (by decide)
      have e3 := q3 (by decide)
      refine ⟨fun _ => ?_, fun h => absurd h (by decide)⟩
      refine ⟨fun _ => by decide, ?_⟩
      refine ⟨fun h => ?_, fun h => ?_⟩
      · have e : v = s4 := of_decide_eq_true h
        refine ⟨i_cg ?_, _, rfl⟩
        unfold idxF
        rw [if_neg e0]
        rw [if_neg e1]
        rw [if_neg e2]
        rw [if_neg e3]
        rw [if_pos e]
        rfl
      · have e4 : ¬ v = s4 := of_decide_eq_false h
        exact ⟨5, ⟨by decide, fun _ => e0, fun _ => e1, fun _ => e2, fun _ => e3, fun _ => e4, fun h => absurd h (by decide), fun h => absurd h (by decide), fun h => absurd h (by decide)⟩, by decide, rfl, ⟨⟨rfl, rfl, rfl⟩, trivial⟩, ⟨[], rfl⟩, ⟨⟨rfl, rfl, rfl, rfl, rfl, rfl, rfl, rfl, trivial⟩, trivial⟩, rfl⟩
    · have e0 := q0 (by decide)
      have e1 := q1 (by decide)
      have e2 := q2 (by decide)
      have e3 := q3 (by decide)
      have e4 := q4 (by decide)
      refine ⟨fun _ => ?_, fun h => absurd h (by decide)⟩
      refine ⟨fun _ => by decide, ?_⟩
      refine ⟨fun h => ?_, fun h => ?_⟩
      · have e : v = s5 := of_decide_eq_true h
        refine ⟨i_cg ?_, _, rfl⟩
        unfold idxF
        rw [if_neg e0]
        rw [if_neg e1]
        rw [if_neg e2]
        rw [if_neg e3]
        rw [if_neg e4]
        rw [if_pos e]
        rfl
      · have e5 : ¬ v = s5 := of_decide_eq_false h
        exact ⟨6, ⟨by decide, fun _ => e0, fun _ => e1, fun _ => e2, fun _ => e3, fun _ => e4, fun _ => e5, fun h => absurd h (by decide), fun h => absurd h (by decide)⟩, by decide, rfl, ⟨⟨rfl, rfl, rfl⟩, trivial⟩, ⟨[], rfl⟩, ⟨⟨rfl, rfl, rfl, rfl, rfl, rfl, rfl, rfl, trivial⟩, trivial⟩, rfl⟩
    · have e0 := q0 (by decide)
      have e1 := q1 (by decide)
      have e2 := q2 (by decide)
      have e3 := q3 (by decide)
      have e4 := q4 (by decide)
      have e5 := q5 (by decide)
      refine ⟨fun _ => ?_, fun h => absurd h (by decide)⟩
      refine ⟨fun _ => by decide, ?_⟩
      refine ⟨fun h => ?_, fun h => ?_⟩
      · have e : v = s6 := of_decide_eq_true h
        refine ⟨i_cg ?_, _, rfl⟩
        unfold idxF
        rw [if_neg e0]
        rw [if_neg e1]
        rw [if_neg e2]
        rw [if_neg e3]
        rw [if_neg e4]
        rw [if_neg e5]
        rw [if_pos e]
        rfl
      · have e6 : ¬ v = s6 := of_decide_eq_false h
        exact ⟨7, ⟨by decide, fun _ => e0, fun _ => e1, fun _ => e2, fun _ => e3, fun _ => e4, fun _ => e5, fun _ => e6, fun h => absurd h (by decide)⟩, by decide, rfl, ⟨⟨rfl, rfl, rfl⟩, trivial⟩, ⟨[], rfl⟩, ⟨⟨rfl, rfl, rfl, rfl, rfl, rfl, rfl, rfl, trivial⟩, trivial⟩, rfl⟩
    · have e0 := q0 (by decide)
      have e1 := q1 (by decide)
      have e2 := q2 (by decide)
      have e3 := q3 (by decide)
      have e4 := q4 (by decide)
      have e5 := q5 (by decide)
      have e6 := q6 (by decide)
      refine ⟨fun _ => ?_, fun h => absurd h (by decide)⟩
      refine ⟨fun _ => by decide, ?_⟩
      refine ⟨fun h => ?_, fun h => ?_⟩
      · have e : v = s7 := of_decide_eq_true h
        refine ⟨i_cg ?_, _, rfl⟩
        unfold idxF
        rw [if_neg e0]
        rw [if_neg e1]
        rw [if_neg e2]
        rw [if_neg e3]
        rw [if_neg e4]
        rw [if_neg e5]
        rw [if_neg e6]
        rw [if_pos e]
        rfl
      · have e7 : ¬ v = s7 := of_decide_eq_false h
        exact ⟨8, ⟨by decide, fun _ => e0, fun _ => e1, fun _ => e2, fun _ => e3, fun _ => e4, fun _ => e5, fun _ => e6, fun _ => e7⟩, by decide, rfl, ⟨⟨rfl, rfl, rfl⟩, trivial⟩, ⟨[], rfl⟩, ⟨⟨rfl, rfl, rfl, rfl, rfl, rfl, rfl, rfl, trivial⟩, trivial⟩, rfl⟩
    · have e0 := q0 (by decide)
      have e1 := q1 (by decide)
      have e2 := q2 (by decide)
      have e3 := q3 (by decide)
      have e4 := q4 (by decide)
      have e5 := q5 (by decide)
      have e6 := q6 (by decide)
      have e7 := q7 (by decide)
      refine ⟨fun h => absurd h (by decide), fun _ => ⟨i_cg ?_, _, rfl⟩⟩
      unfold idxF
      rw [if_neg e0, if_neg e1, if_neg e2, if_neg e3, if_neg e4, if_neg e5, if_neg e6, if_neg e7]
theorem lreg_ok (s0 s1 s2 s3 s4 s5 s6 s7 h v : List UInt8) (rd pr : Nat) : Ctr Tryz.prog 54 [.ptr 1 1 0 [], .s v] [rowS s0 s1 s2 s3 s4 s5 s6 s7, langB h rd pr] (fun r h' => r = .i .i64 (idxF s0 s1 s2 s3 s4 s5 s6 s7 v) ∧ h' = [rowS s0 s1 s2 s3 s4 s5 s6 s7, langB h rd pr]) := by
  refine Ctr.enterG tabOkF (fn := Tryz.f54) rfl rfl rfl rfl rfl rfl bndLang ?_
  refine OpC.callG rfl rfl rfl rfl rfl rfl (fun _ => Ctr.spread (index_s s0 s1 s2 s3 s4 s5 s6 s7 v) (fun ρ => rfl) _ [0] rfl rfl ⟨rfl, trivial⟩ rfl) ?_
  exact ⟨rfl, _, rfl⟩
theorem x86Reg_ok (v : List UInt8) : CtrV Tryz.prog 35 [.s v] (.i .i64 (idxF [82, 65, 88] [82, 66, 88] [82, 67, 88] [82, 68, 88] [82, 83, 73] [82, 68, 73] [82, 56] [82, 57] v)) := by
  refine Ctr.enterV tabOkF (fn := Tryz.f35) rfl rfl rfl rfl rfl rfl ?_
  refine OpC.callL rfl rfl rfl rfl [] 2 rfl rfl rfl x86_lang rfl rfl rfl rfl trivial rfl (fun r H' hk => ?_) ?_
  · obtain ⟨rfl, rfl⟩ := hk; exact ⟨Nat.zero_le _, Nat.le_refl _⟩
  rintro r H' ⟨rfl, rfl⟩
  refine OpC.callG rfl rfl rfl rfl rfl rfl (fun _ => lreg_ok [82, 65, 88] [82, 66, 88] [82, 67, 88] [82, 68, 88] [82, 83, 73] [82, 68, 73] [82, 56] [82, 57] [36] v 80 81) ?_
  exact rfl
end SX
end Go.Proofs.YthkedcneehdinaaGreatDoor

/- Readers of words: names of some, numbers, places of memory. -/
set_option linter.unusedVariables false
set_option maxRecDepth 100000
namespace Go.Proofs.YthkedcneehdinaaGreatDoor
namespace SX
open Go Go.Proofs
variable {c : Rc} {s : RS}
theorem of_lt {f : List UInt8 → Int} (h : f (wordP c.ts s).1 < 0) : ofP f c.ts s = (0, failF (wordP c.ts s).2 21 (whF c.ts s.p)) := by unfold ofP; rw [if_pos h]
theorem of_ge {f : List UInt8 → Int} (h : ¬ f (wordP c.ts s).1 < 0) : ofP f c.ts s = (f (wordP c.ts s).1, (wordP c.ts s).2) := by unfold ofP; rw [if_neg h]
end SX
end Go.Proofs.YthkedcneehdinaaGreatDoor

/- Readers of words, on the heap of a condition's reader. Printed by qcc.py. -/
set_option linter.unusedVariables false
set_option maxRecDepth 100000
namespace Go.Proofs.YthkedcneehdinaaGreatDoor
namespace SX
open Go Go.Proofs
variable {c : Rc} {s : RS}
def langZ : SB := .mem 102 [.nils, .s [], .raw .nilFunc, .raw .nilFunc] 1 0
def hZ (c : Rc) (s : RS) : List SB := [langZ, curB c.ts c.ad c.cap s.p, rdrB 1 0 c.lb s.e s.q]
theorem bndZ {c : Rc} {s : RS} : BndH 3 (hZ c s) := ⟨⟨rfl, rfl, rfl, rfl, trivial⟩, bndCur, ⟨rfl, rfl, rfl, rfl, rfl, trivial⟩, trivial⟩
theorem zfail_ok (e q : Int) : Ctr Tryz.prog 71 [.ptr 2 1 0 [], .i .i64 e, .i .i64 q] (hZ c s) (fun r h => r = .tup [] ∧ h = hZ c (failF s e q)) := by
  obtain ⟨p, e0, q0⟩ := s
  by_cases he : e0 = 0
  · subst he
    refine Ctr.enterH tabOkF (fn := Tryz.f71) rfl rfl rfl rfl rfl rfl bndZ (Nat.le_refl _) ?_
    refine ⟨fun _ => ?_, fun h => no_tf h⟩
    exact ⟨rfl, _, rfl⟩
  · have e1 : failF ⟨p, e0, q0⟩ e q = ⟨p, e0, q0⟩ := fail_dead he e q
    rw [e1]
    refine Ctr.enterH tabOkF (fn := Tryz.f71) rfl rfl rfl rfl rfl rfl bndZ (Nat.le_refl _) ?_
    refine ⟨fun h => absurd (of_decide_eq_true h) he, fun _ => ?_⟩
    exact ⟨rfl, _, rfl⟩
theorem zmiss_ok (hk : Rk c s) : Ctr Tryz.prog 155 [.ptr 2 1 0 []] (hZ c s) (fun r h => r = .tup [] ∧ h = hZ c (missP c.ts s)) := by
  refine Ctr.enterH tabOkF (fn := Tryz.f155) rfl rfl rfl rfl rfl rfl bndZ (Nat.le_refl _) ?_
  refine OpC.callH rfl rfl rfl rfl [1] rfl (left_ok (ad := c.ad) (cap := c.cap) hk.p hk.l) rfl rfl rfl rfl ⟨rfl, trivial⟩ rfl ?_
  unfold missP
  refine ⟨fun h1 => ?_, fun h1 => ?_⟩
  · have h1 : ((c.ts.length - s.p : Nat) : Int) = 0 := of_decide_eq_true h1
    have h2 : ¬ s.p < c.ts.length := by omega
    rw [if_neg h2]
    refine OpC.callH rfl rfl rfl rfl [1] rfl (at_ok (ad := c.ad) (cap := c.cap) hk.p hk.l) rfl rfl rfl rfl ⟨rfl, trivial⟩ rfl ?_
    refine OpC.callH rfl rfl rfl rfl [0, 1, 2] rfl (zfail_ok 24 (whF c.ts s.p)) rfl rfl rfl rfl ⟨rfl, rfl, rfl, trivial⟩ rfl ?_
    exact ⟨rfl, _, rfl⟩
  · have h1 : ¬ ((c.ts.length - s.p : Nat) : Int) = 0 := of_decide_eq_false h1
    rw [if_pos (by have := hk.p; omega)]
    refine OpC.callH rfl rfl rfl rfl [1] rfl (at_ok (ad := c.ad) (cap := c.cap) hk.p hk.l) rfl rfl rfl rfl ⟨rfl, trivial⟩ rfl ?_
    refine OpC.callH rfl rfl rfl rfl [0, 1, 2] rfl (zfail_ok 22 (whF c.ts s.p)) rfl rfl rfl rfl ⟨rfl, rfl, rfl, trivial⟩ rfl ?_
    exact ⟨rfl, _, rfl⟩
theorem zisM_ok (hk : Rk c s) (m : List UInt8) : Ctr Tryz.prog 140 [.ptr 2 1 0 [], .s m] (hZ c s) (fun r h => r = .b (isP c.ts m s) ∧ h = hZ c s) := by
  have e : isP c.ts m s = ((decide (s.p < c.ts.length) && decide ((tkAt c.ts s.p).k = 3)) && decide ((tkAt c.ts s.p).s = m)) := by
    unfold isP
    by_cases h3 : (tkAt c.ts s.p).k = 3
    · rw [decide_eq_true h3, decide_eq_true (at_lt (by rw [h3]; decide))]; rfl
    · rw [decide_eq_false h3, Bool.and_false]
  rw [e]
  refine Ctr.enterH tabOkF (fn := Tryz.f140) rfl rfl rfl rfl rfl rfl bndZ (Nat.le_refl _) ?_
  refine OpC.callH rfl rfl rfl rfl [1] rfl (peek_ok (ad := c.ad) (cap := c.cap) hk.p) rfl rfl rfl rfl ⟨rfl, trivial⟩ rfl ?_
  exact ⟨rfl, _, rfl⟩
theorem zmark_w (hk : Rk c s) (m : List UInt8) : Ctr Tryz.prog 137 [.ptr 2 1 0 [], .s m] (hZ c s) (fun r h => r = .tup [] ∧ h = hZ c (markP c.ts m s)) := by
  obtain ⟨p, e0, q0⟩ := s
  by_cases he : e0 = 0
  · subst he
    unfold markP
    rw [if_pos rfl]
    refine Ctr.enterH tabOkF (fn := Tryz.f137) rfl rfl rfl rfl rfl rfl bndZ (Nat.le_refl _) ?_
    refine OpC.open 13 rfl rfl rfl ?_
    refine OpC.open 14 rfl rfl rfl ?_
    refine OpC.guardT tabOkF rfl rfl ?_
    refine OpC.guardT tabOkF rfl rfl ?_
    cases hb : takeB c.ts m p with
    | true =>
      refine OpC.callH rfl rfl rfl rfl [1, 3] rfl (take_ok (ad := c.ad) (cap := c.cap) (m := m) hb rfl hk.p hk.l) rfl rfl rfl rfl ⟨rfl, rfl, trivial⟩ rfl ?_
      refine ⟨fun h => no_ft h, fun _ => ?_⟩
      exact ⟨rfl, _, rfl⟩
    | false =>
      refine OpC.callH rfl rfl rfl rfl [1, 3] rfl (take_ok (ad := c.ad) (cap := c.cap) (m := m) hb rfl hk.p hk.l) rfl rfl rfl rfl ⟨rfl, rfl, trivial⟩ rfl ?_
      refine ⟨fun _ => ?_, fun h => no_tf h⟩
      refine OpC.callH rfl rfl rfl rfl [0, 1, 2] rfl (zmiss_ok (s := ⟨p, 0, q0⟩) hk) rfl rfl rfl rfl ⟨rfl, rfl, rfl, trivial⟩ rfl ?_
      exact ⟨rfl, _, rfl⟩
  · have e1 : markP c.ts m ⟨p, e0, q0⟩ = ⟨p, e0, q0⟩ := by unfold markP; rw [if_neg he]
    rw [e1]
    refine Ctr.enterH tabOkF (fn := Tryz.f137) rfl rfl rfl rfl rfl rfl bndZ (Nat.le_refl _) ?_
    have hg : (decide (e0 = 0) == true) = false := by rw [decide_eq_false he]; rfl
    refine OpC.skipG rfl hg (.raw (.pointer none)) ?_
    refine OpC.skipG rfl hg (.b false) ?_
    refine ⟨fun h => ?_, fun _ => ⟨rfl, _, rfl⟩⟩
    have h : (decide (e0 = 0) && !false) = true := h
    rw [decide_eq_false he] at h; cases h
theorem zword_w (hk : Rk c s) : Ctr Tryz.prog 90 [.ptr 2 1 0 []] (hZ c s) (fun r h => r = .tup [.s (wordP c.ts s).1, .i .i64 (whF c.ts s.p)] ∧ h = hZ c (wordP c.ts s).2) := by
  obtain ⟨p, e0, q0⟩ := s
  have hat := at_ok (ad := c.ad) (cap := c.cap) hk.p hk.l
  by_cases he : e0 = 0
  · subst he
    unfold wordP
    rw [if_pos rfl]
    have hn := name_ok (ad := c.ad) (cap := c.cap) hk.p hk.l
    by_cases h1 : (tkAt c.ts p).k = 1
    · have h1' : (tkAt c.ts (⟨p, 0, q0⟩ : RS).p).k = 1 := h1
      rw [if_pos h1'] at hn ⊢
      rw [if_pos h1', decide_eq_true h1'] at hn
      refine Ctr.enterH tabOkF (fn := Tryz.f90) rfl rfl rfl rfl rfl rfl bndZ (Nat.le_refl _) ?_
      refine OpC.callH rfl rfl rfl rfl [1] rfl hat rfl rfl rfl rfl ⟨rfl, trivial⟩ rfl ?_
      refine ⟨fun h => no_ft h, fun _ => ?_⟩
      refine OpC.callH rfl rfl rfl rfl [1] rfl hn rfl rfl rfl rfl ⟨rfl, trivial⟩ rfl ?_
      refine ⟨fun h => no_ft h, fun _ => ?_⟩
      exact ⟨rfl, _, rfl⟩
    · have h1' : ¬ (tkAt c.ts (⟨p, 0, q0⟩ : RS).p).k = 1 := h1
      rw [if_neg h1'] at hn ⊢
      rw [if_neg h1', decide_eq_false h1'] at hn
      refine Ctr.enterH tabOkF (fn := Tryz.f90) rfl rfl rfl rfl rfl rfl bndZ (Nat.le_refl _) ?_
      refine OpC.callH rfl rfl rfl rfl [1] rfl hat rfl rfl rfl rfl ⟨rfl, trivial⟩ rfl ?_
      refine ⟨fun h => no_ft h, fun _ => ?_⟩
      refine OpC.callH rfl rfl rfl rfl [1] rfl hn rfl rfl rfl rfl ⟨rfl, trivial⟩ rfl ?_
      refine ⟨fun _ => ?_, fun h => no_tf h⟩
      refine OpC.callH rfl rfl rfl rfl [0, 1, 2] rfl (zmiss_ok (s := ⟨p, 0, q0⟩) hk) rfl rfl rfl rfl ⟨rfl, rfl, rfl, trivial⟩ rfl ?_
      exact ⟨rfl, _, rfl⟩
  · have e1 : wordP c.ts ⟨p, e0, q0⟩ = ([], ⟨p, e0, q0⟩) := by unfold wordP; rw [if_neg he]
    rw [e1]
    refine Ctr.enterH tabOkF (fn := Tryz.f90) rfl rfl rfl rfl rfl rfl bndZ (Nat.le_refl _) ?_
    refine OpC.callH rfl rfl rfl rfl [1] rfl hat rfl rfl rfl rfl ⟨rfl, trivial⟩ rfl ?_
    refine ⟨fun _ => ⟨rfl, _, rfl⟩, fun h => ?_⟩
    have h : (!decide (e0 = 0)) = false := h
    rw [decide_eq_false he] at h; cases h
/-- One of some names, told by a function. -/
theorem zof_fn (hk : Rk c s) (fid : Nat) (f : List UInt8 → Int) (hf : ∀ v, CtrV Tryz.prog fid [.s v] (.i .i64 (f v))) : Ctr Tryz.prog 159 [.ptr 2 1 0 [], .fn fid []] (hZ c s) (fun r h => r = .i .i64 (ofP f c.ts s).1 ∧ h = hZ c (ofP f c.ts s).2) := by
  have hw := zword_w hk
  by_cases h0 : f (wordP c.ts s).1 < 0
  · rw [of_lt h0]
    refine Ctr.enterH tabOkF (fn := Tryz.f159) rfl rfl rfl rfl rfl rfl bndZ (Nat.le_refl _) ?_
    refine OpC.callH rfl rfl rfl rfl [0, 1, 2] rfl hw rfl rfl rfl rfl ⟨rfl, rfl, rfl, trivial⟩ rfl ?_
    refine OpC.callV rfl rfl rfl rfl rfl rfl rfl (fun _ => hf _) ?_
    refine ⟨fun _ => ?_, fun h => absurd h0 (of_decide_eq_false h)⟩
    refine OpC.callH rfl rfl rfl rfl [0, 1, 2] rfl (zfail_ok (s := (wordP c.ts s).2) 21 (whF c.ts s.p)) rfl rfl rfl rfl ⟨rfl, rfl, rfl, trivial⟩ rfl ?_
    exact ⟨rfl, _, rfl⟩
  · rw [of_ge h0]
    refine Ctr.enterH tabOkF (fn := Tryz.f159) rfl rfl rfl rfl rfl rfl bndZ (Nat.le_refl _) ?_
    refine OpC.callH rfl rfl rfl rfl [0, 1, 2] rfl hw rfl rfl rfl rfl ⟨rfl, rfl, rfl, trivial⟩ rfl ?_
    refine OpC.callV rfl rfl rfl rfl rfl rfl rfl (fun _ => hf _) ?_
    refine ⟨fun h => absurd (of_decide_eq_true h) h0, fun _ => ?_⟩
    exact ⟨rfl, _, rfl⟩
set_option maxHeartbeats 1000000 in
theorem znum_w (hk : Rk c s) : Ctr Tryz.prog 158 [.ptr 2 1 0 []] (hZ c s) (fun r h => r = .i .i64 (numP c.ts s).1 ∧ h = hZ c (numP c.ts s).2) := by
  obtain ⟨p, e0, q0⟩ := s
  by_cases he : e0 = 0
  · subst he
    cases hb : takeB c.ts [45] p with
    | true =>
      have hp : p < c.ts.length := take_lt hb
      have hk2 : Rk c ⟨p + 1, 0, q0⟩ := ⟨hp, hk.l⟩
      have e1 : numP c.ts ⟨p, 0, q0⟩ = nmP c.ts (-1) ⟨p + 1, 0, q0⟩ := by unfold numP; rw [if_pos rfl]; exact if_pos hb
      rw [e1]
      unfold nmP
      have hpk := peek_ok (ad := c.ad) (cap := c.cap) hk2.p
      by_cases h2 : (tkAt c.ts (p + 1)).k = 2
      · have hlt := at_lt (ts := c.ts) (p := p + 1) (by rw [h2]; decide)
        have h2' : (tkAt c.ts (⟨p + 1, 0, q0⟩ : RS).p).k = 2 := h2
        rw [if_pos h2']
        rw [decide_eq_true (show (⟨p + 1, 0, q0⟩ : RS).p < c.ts.length from hlt)] at hpk
        refine Ctr.enterH tabOkF (fn := Tryz.f158) rfl rfl rfl rfl rfl rfl bndZ (Nat.le_refl _) ?_
        refine ⟨fun h => no_ft h, fun _ => ?_⟩
        refine OpC.callH rfl rfl rfl rfl [1, 3] rfl (take_ok (ad := c.ad) (cap := c.cap) hb rfl hk.p hk.l) rfl rfl rfl rfl ⟨rfl, rfl, trivial⟩ rfl ?_
        refine ⟨fun _ => ?_, fun h => no_tf h⟩
        refine OpC.callH rfl rfl rfl rfl [1] rfl hpk rfl rfl rfl rfl ⟨rfl, trivial⟩ rfl ?_
        refine ⟨fun h => ?_, fun _ => ?_⟩
        · have h : (false || (!decide ((tkAt c.ts (p + 1)).k = 2))) = true := h
          rw [decide_eq_true h2] at h; cases h
        refine OpC.callH rfl rfl rfl rfl [1] rfl (next_ok (ad := c.ad) (cap := c.cap) hlt hk.l) rfl rfl rfl rfl ⟨rfl, trivial⟩ rfl ?_
        exact ⟨rfl, _, rfl⟩
      · have h2' : ¬ (tkAt c.ts (⟨p + 1, 0, q0⟩ : RS).p).k = 2 := h2
        rw [if_neg h2']
        refine Ctr.enterH tabOkF (fn := Tryz.f158) rfl rfl rfl rfl rfl rfl bndZ (Nat.le_refl _) ?_
        refine ⟨fun h => no_ft h, fun _ => ?_⟩
        refine OpC.callH rfl rfl rfl rfl [1, 3] rfl (take_ok (ad := c.ad) (cap := c.cap) hb rfl hk.p hk.l) rfl rfl rfl rfl ⟨rfl, rfl, trivial⟩ rfl ?_
        refine ⟨fun _ => ?_, fun h => no_tf h⟩
        refine OpC.callH rfl rfl rfl rfl [1] rfl hpk rfl rfl rfl rfl ⟨rfl, trivial⟩ rfl ?_
        refine ⟨fun _ => ?_, fun h => ?_⟩
        · refine OpC.callH rfl rfl rfl rfl [0, 1, 2] rfl (zmiss_ok (s := ⟨p + 1, 0, q0⟩) hk2) rfl rfl rfl rfl ⟨rfl, rfl, rfl, trivial⟩ rfl ?_
          exact ⟨rfl, _, rfl⟩
        · have h : ((!decide (p + 1 < c.ts.length)) || (!decide ((tkAt c.ts (p + 1)).k = 2))) = false := h
          rw [decide_eq_false h2, Bool.not_false, Bool.or_true] at h; cases h
    | false =>
      have e1 : numP c.ts ⟨p, 0, q0⟩ = nmP c.ts 1 ⟨p, 0, q0⟩ := by unfold numP; rw [if_pos rfl]; exact if_neg (by rw [hb]; decide)
      rw [e1]
      unfold nmP
      have hpk := peek_ok (ad := c.ad) (cap := c.cap) hk.p
      by_cases h2 : (tkAt c.ts p).k = 2
      · have hlt := at_lt (ts := c.ts) (p := p) (by rw [h2]; decide)
        have h2' : (tkAt c.ts (⟨p, 0, q0⟩ : RS).p).k = 2 := h2
        rw [if_pos h2']
        rw [decide_eq_true (show (⟨p, 0, q0⟩ : RS).p < c.ts.length from hlt)] at hpk
        refine Ctr.enterH tabOkF (fn := Tryz.f158) rfl rfl rfl rfl rfl rfl bndZ (Nat.le_refl _) ?_
        refine ⟨fun h => no_ft h, fun _ => ?_⟩
        refine OpC.callH rfl rfl rfl rfl [1, 3] rfl (take_ok (ad := c.ad) (cap := c.cap) hb rfl hk.p hk.l) rfl rfl rfl rfl ⟨rfl, rfl, trivial⟩ rfl ?_
        refine ⟨fun h => no_ft h, fun _ => ?_⟩
        refine OpC.callH rfl rfl rfl rfl [1] rfl hpk rfl rfl rfl rfl ⟨rfl, trivial⟩ rfl ?_
        refine ⟨fun h => ?_, fun _ => ?_⟩
        · have h : (false || (!decide ((tkAt c.ts p).k = 2))) = true := h
          rw [decide_eq_true h2] at h; cases h
        refine OpC.callH rfl rfl rfl rfl [1] rfl (next_ok (ad := c.ad) (cap := c.cap) hlt hk.l) rfl rfl rfl rfl ⟨rfl, trivial⟩ rfl ?_
        exact ⟨rfl, _, rfl⟩
      · have h2' : ¬ (tkAt c.ts (⟨p, 0, q0⟩ : RS).p).k = 2 := h2
        rw [if_neg h2']
        refine Ctr.enterH tabOkF (fn := Tryz.f158) rfl rfl rfl rfl rfl rfl bndZ (Nat.le_refl _) ?_
        refine ⟨fun h => no_ft h, fun _ => ?_⟩
        refine OpC.callH rfl rfl rfl rfl [1, 3] rfl (take_ok (ad := c.ad) (cap := c.cap) hb rfl hk.p hk.l) rfl rfl rfl rfl ⟨rfl, rfl, trivial⟩ rfl ?_
        refine ⟨fun h => no_ft h, fun _ => ?_⟩
        refine OpC.callH rfl rfl rfl rfl [1] rfl hpk rfl rfl rfl rfl ⟨rfl, trivial⟩ rfl ?_
        refine ⟨fun _ => ?_, fun h => ?_⟩
        · refine OpC.callH rfl rfl rfl rfl [0, 1, 2] rfl (zmiss_ok (s := ⟨p, 0, q0⟩) hk) rfl rfl rfl rfl ⟨rfl, rfl, rfl, trivial⟩ rfl ?_
          exact ⟨rfl, _, rfl⟩
        · have h : ((!decide (p < c.ts.length)) || (!decide ((tkAt c.ts p).k = 2))) = false := h
          rw [decide_eq_false h2, Bool.not_false, Bool.or_true] at h; cases h
  · have e1 : numP c.ts ⟨p, e0, q0⟩ = (0, ⟨p, e0, q0⟩) := by unfold numP; rw [if_neg he]
    rw [e1]
    refine Ctr.enterH tabOkF (fn := Tryz.f158) rfl rfl rfl rfl rfl rfl bndZ (Nat.le_refl _) ?_
    refine ⟨fun _ => ⟨rfl, _, rfl⟩, fun h => ?_⟩
    have h : (!decide (e0 = 0)) = false := h
    rw [decide_eq_false he] at h; cases h
end SX
end Go.Proofs.YthkedcneehdinaaGreatDoor

/- Readers of words: a register or a number; a place of memory. Written by pwe.py. -/
set_option linter.unusedVariables false
set_option maxRecDepth 100000
namespace Go.Proofs.YthkedcneehdinaaGreatDoor
namespace SX
open Go Go.Proofs
variable {c : Rc} {s : RS}
theorem loc_all : ∀ n : Fin 256, Lib.index [120, 121, 122] [UInt8.ofNat n.val] = locI [UInt8.ofNat n.val] := by decide +kernel
theorem loc_w (v : List UInt8) : CtrV Tryz.prog 197 [.s v] (.i .i64 (locI v)) := by
  refine Ctr.enterV tabOkF (fn := Tryz.f197) rfl rfl rfl rfl rfl rfl ?_
  refine ⟨fun h => ?_, fun h => ?_⟩
  · have h : (!decide ((v.length : Int) = 1)) = true := h
    have h : ¬ (v.length : Int) = 1 := by simpa using h
    refine i_cg ?_
    unfold locI
    rw [if_neg (by rintro rfl; exact h rfl), if_neg (by rintro rfl; exact h rfl), if_neg (by rintro rfl; exact h rfl)]
  · have h : (!decide ((v.length : Int) = 1)) = false := h
    have h : (v.length : Int) = 1 := by simpa using h
    refine OpC.callV rfl rfl rfl rfl rfl rfl rfl (fun _ => sIndex_ok [120, 121, 122] v (by decide)) ?_
    refine i_cg ?_
    match v, h with
    | [x], _ =>
      have := loc_all ⟨x.toNat, x.toNat_lt⟩
      have e : UInt8.ofNat x.toNat = x := by simp
      simp only [e] at this
      exact this
    | [], h => simp at h
    | _ :: _ :: _, h => simp at h; omega
end SX
end Go.Proofs.YthkedcneehdinaaGreatDoor

/- A condition's reader: the program's walk. -/
set_option linter.unusedVariables false
set_option maxRecDepth 100000
namespace Go.Proofs.YthkedcneehdinaaGreatDoor
namespace SX
open Go Go.Proofs
section
variable {P : Program} {T : Tb}
/-- A function that hands back the blocks that it is lent, changed as K says. -/
theorem Ctr.enterE (hT : TabOk P T) {f : FuncId} {fn : Func} {c : Code} {n : Nat} (hf : P.funcs[f]? = some fn) (hb : fn.body = some c) (hn : fn.ntmps = n) (hnm : (fn.name == "runtime.NumGoroutine") = false) {args : List SV} {H : List SB} {K : SV → List SB → Prop}
    (hl : Nat.ble args.length n = true) (h : sx P T c (retK T fn.results.toList (fun r' h => ∃ H' X, h = H' ++ X ∧ H.length ≤ H'.length ∧ BndH H'.length H' ∧ Bnd H'.length r' ∧ K r' H')) ⟨args ++ List.replicate (n - args.length) .dead, H⟩) : Ctr P f args H K :=
  (Ctr.enter hT hf hb hn hnm hl h).trim callX_m fun r' H1 ⟨H', X, hX, hle, hH, hb, hk⟩ => ⟨H', X, hX, hle, hH, hb, hk⟩
end
def crB (fid ver n : Nat) : SB := .mem 104 [.ptr 2 1 0 [], .fn fid [], .sl 4 ver 0 n none 0] 1 0
def cnB (cs : List Cn) (ver : Nat) : SB := .mem 84 [.arr cs.length Cn cn0 5 cenc cs] ver 5
def hK (c : Rc) (fid : Nat) (x : CX) (ver : Nat) : List SB := [langZ, curB c.ts c.ad c.cap x.1.p, rdrB 1 0 c.lb x.1.e x.1.q, crB fid ver x.2.length, cnB x.2 ver]
/-- The same with the number of nodes told. -/
def hKN (c : Rc) (fid : Nat) (s : RS) (out : List Cn) (N ver : Nat) : List SB := [langZ, curB c.ts c.ad c.cap s.p, rdrB 1 0 c.lb s.e s.q, .mem 104 [.ptr 2 1 0 [], .fn fid [], .sl 4 ver 0 N none 0] 1 0, .mem 84 [.arr N Cn cn0 5 cenc out] ver 5]
theorem hKN_app {c : Rc} {fid ver : Nat} {s : RS} {out : List Cn} {y : Cn} : hKN c fid s (out ++ [y]) (out.length + 1) ver = hK c fid (s, out ++ [y]) ver := by
  unfold hKN hK crB cnB
  rw [List.length_append, List.length_singleton]
theorem bndK {c : Rc} {fid ver : Nat} {x : CX} : BndH 5 (hK c fid x ver) := ⟨⟨rfl, rfl, rfl, rfl, trivial⟩, bndCur, ⟨rfl, rfl, rfl, rfl, rfl, trivial⟩, ⟨rfl, rfl, rfl, trivial⟩, ⟨fun _ => rfl, trivial⟩, trivial⟩
variable {c : Rc}
theorem zbad_ok (s : RS) : Ctr Tryz.prog 72 [.ptr 2 1 0 []] (hZ c s) (fun r h => r = .tup [.i .i64 s.e, .i .i64 s.q] ∧ h = hZ c s) := by
  refine Ctr.enterH tabOkF (fn := Tryz.f72) rfl rfl rfl rfl rfl rfl bndZ (Nat.le_refl _) ?_
  refine WpC.dr tabOkF mixed 0 ?_
  refine ⟨by kernel_rfl, ?_⟩
  exact ⟨rfl, _, rfl⟩
theorem isP_take {ts : List Tk} {m : List UInt8} {s : RS} (h : isP ts m s = true) : takeB ts m s.p = true := by
  have hl := isP_lt h
  unfold isP at h
  simp only [Bool.and_eq_true, decide_eq_true_eq] at h
  unfold takeB
  rw [decide_eq_true hl, decide_eq_true h.2, h.1]; rfl
theorem cn_bytes {n : Nat} (h : n ≤ 100001) : (n + 1) * 40 ≤ 140737488355328 := by omega
theorem cencw : ∀ x : Cn, wdL (cenc x) = 5 := fun _ => rfl
/-- A contract of a part. -/
def PartOk (c : Rc) (fid pf : Nat) (part : CX → CX) (n : Nat) : Prop :=
  ∀ (x : CX) (ver : Nat), Rk c x.1 → c.ts.length - x.1.p < n → x.2.length ≤ wC x.1 → ver = x.2.length → Ctr Tryz.prog pf [.ptr 3 1 0 []] (hK c fid x ver) (fun r h => r = .tup [] ∧ ∃ ver', ver' = (part x).2.length ∧ h = hK c fid (part x) ver')
theorem wC_le {ts : List Tk} {s : RS} (h : s.p ≤ ts.length) : wC s ≤ ts.length + 1 := by unfold wC; split <;> omega
set_option maxHeartbeats 2000000 in
theorem row_w {fid pf : Nat} {part : CX → CX} {n : Nat} (hst : ∀ x : CX, x.1.p ≤ c.ts.length → Stp c.ts x (part x)) (hp : PartOk c fid pf part n) (m : List UInt8) (k : Int) (x : CX) (ver : Nat) (hk : Rk c x.1) (hn : c.ts.length - x.1.p < n) (hw : x.2.length ≤ wC x.1) (hv : ver = x.2.length) :
    Ctr Tryz.prog 125 [.ptr 3 1 0 [], .bm pf (.ptr 3 1 0 []), .s m, .i .i64 k] (hK c fid x ver) (fun r h => r = .tup [] ∧ ∃ ver', ver' = (rowL part c.ts m k n (part x)).2.length ∧ h = hK c fid (rowL part c.ts m k n (part x)) ver') := by
  refine Ctr.enterE tabOkM (fn := Tryz.f125) rfl rfl rfl rfl rfl ?_
  refine OpC.callL rfl rfl rfl rfl [0, 1, 2, 3, 4] 0 rfl rfl rfl (hp x ver hk hn hw hv) rfl rfl rfl rfl ⟨rfl, rfl, rfl, rfl, rfl, trivial⟩ rfl (fun r H' hk => ?_) ?_
  · obtain ⟨_, v', _, rfl⟩ := hk; exact ⟨Nat.le_refl _, Nat.le_refl _⟩
  rintro r H' ⟨rfl, v1, hv1, rfl⟩
  have h0 := hst x hk.p
  refine WpC.loop tabOkM (β := CX × Nat × Nat) (fun b => (Rk c b.1.1 ∧ c.ts.length - b.1.1.p < b.2.2 ∧ b.1.2.length ≤ wC b.1.1 ∧ b.2.1 = b.1.2.length) ∧ x.1.p ≤ b.1.1.p ∧ rowL part c.ts m k n (part x) = rowL part c.ts m k b.2.2 b.1) (fun _ => []) (fun b => hK c fid b.1 b.2.1) (fun b => b.2.2) (part x, v1, n) (2 ^ 51 - 2 ^ 4) ?_ ?_ ?_
  · refine ⟨⟨⟨h0.t, hk.l⟩, ?_, ?_, hv1⟩, h0.p, rfl⟩
    · have := h0.p; show c.ts.length - (part x).1.p < n; omega
    · have := h0.w; show (part x).2.length ≤ wC (part x).1; omega
  · exact ⟨rfl, trivial, ⟨[], rfl⟩, bndK, rfl⟩
  · rintro ⟨y, v, j⟩ ⟨⟨hy, hj, hwy, hvy⟩, hpx, he⟩
    dsimp only at hy hj hwy hvy hpx he
    obtain ⟨j, rfl⟩ : ∃ i, j = i + 1 := ⟨j - 1, by omega⟩
    refine OpC.callH rfl rfl rfl rfl [0, 1, 2] rfl (zisM_ok (s := y.1) hy m) rfl rfl rfl rfl ⟨rfl, rfl, rfl, trivial⟩ rfl ?_
    refine ⟨fun h1 => ?_, fun h1 => ?_⟩
    · have h1 : isP c.ts m y.1 = true := h1
      refine OpC.callH rfl rfl rfl rfl [0, 1, 2] rfl (zbad_ok y.1) rfl rfl rfl rfl ⟨rfl, rfl, rfl, trivial⟩ rfl ?_
      refine ⟨fun h2 => ?_, fun h2 => ?_⟩
      · have h2 : (!decide (y.1.e = 0)) = true := h2
        have h2 : y.1.e ≠ 0 := by simpa using h2
        have e1 : rowL part c.ts m k n (part x) = y := by rw [he]; show (if _ then _ else _) = _; rw [if_pos h1, if_pos h2]
        rw [e1]
        exact ⟨hK c fid y v, _, rfl, Nat.le_refl _, bndK, rfl, rfl, v, hvy, rfl⟩
      · have h2 : (!decide (y.1.e = 0)) = false := h2
        have h2 : y.1.e = 0 := by simpa using h2
        have e1 : rowL part c.ts m k n (part x) = rowL part c.ts m k j ((part (goF y.1, y.2)).1, (part (goF y.1, y.2)).2 ++ [nodC k]) := by rw [he]; show (if _ then _ else _) = _; rw [if_pos h1, if_neg (by simpa using h2)]
        have hlt := isP_lt h1
        have hg : Rk c (goF y.1) := hy.go hlt
        refine OpC.callH rfl rfl rfl rfl [1, 5] rfl (take_ok (ad := c.ad) (cap := c.cap) (m := m) (isP_take h1) rfl hy.p hy.l) rfl rfl rfl rfl ⟨rfl, rfl, trivial⟩ rfl ?_
        have hgp : (goF y.1).p = y.1.p + 1 := rfl
        refine OpC.callL rfl rfl rfl rfl [0, 1, 2, 3, 4] 0 rfl rfl rfl (hp (goF y.1, y.2) v hg (by show c.ts.length - (goF y.1).p < n; omega) (by show y.2.length ≤ wC (goF y.1); rw [w_go]; omega) hvy) rfl rfl rfl rfl ⟨rfl, rfl, rfl, rfl, rfl, trivial⟩ rfl (fun r H' hk => ?_) ?_
        · obtain ⟨_, v', _, rfl⟩ := hk; exact ⟨Nat.le_refl _, Nat.le_refl _⟩
        rintro r H' ⟨rfl, v2, hv2, rfl⟩
        have hs := hst (goF y.1, y.2) hlt
        have hz := hs.w
        have hsp := hs.p
        have hst' := hs.t
        dsimp only at hsp hz
        rw [w_go] at hz
        have hwl := wC_le hs.t
        have hl2 : (part (goF y.1, y.2)).2.length ≤ 100001 := by have := hy.l; omega
        refine OpC.yld 0 rfl (yld_app_row tabOkM rfl rfl rfl rfl rfl rfl rfl rfl rfl (SrcA.sl rfl rfl rfl rfl (by decide) rfl) (Joins.arrN (y := nodC k) rfl rfl cencw) (by decide) (Nat.le_trans (show (part (goF y.1, y.2)).2.length + 1 ≤ 100002 by omega) (by decide)) (cn_bytes hl2)) (fun d hd => by cases hd; rfl) ?_
        refine ⟨(((part (goF y.1, y.2)).1, (part (goF y.1, y.2)).2 ++ [nodC k]), v2 + 1, j), ⟨⟨⟨hs.t, hy.l⟩, ?_, ?_, ?_⟩, ?_, e1⟩, Nat.lt_succ_self _, ?_⟩
        · show c.ts.length - (part (goF y.1, y.2)).1.p < j
          have : (goF y.1).p ≤ (part (goF y.1, y.2)).1.p := hsp
          omega
        · show ((part (goF y.1, y.2)).2 ++ [nodC k]).length ≤ wC (part (goF y.1, y.2)).1
          rw [List.length_append, List.length_singleton]; omega
        · show v2 + 1 = ((part (goF y.1, y.2)).2 ++ [nodC k]).length
          rw [List.length_append, List.length_singleton, hv2]
        · show x.1.p ≤ (part (goF y.1, y.2)).1.p
          have : (goF y.1).p ≤ (part (goF y.1, y.2)).1.p := hsp
          omega
        · exact ⟨rfl, trivial, ⟨[_, _], Eq.trans (b := hKN c fid (part (goF y.1, y.2)).1 ((part (goF y.1, y.2)).2 ++ [nodC k]) ((part (goF y.1, y.2)).2.length + 1) (v2 + 1) ++ [_, _]) rfl (by rw [hKN_app])⟩, bndK, rfl⟩
    · have h1 : isP c.ts m y.1 = false := h1
      have e1 : rowL part c.ts m k n (part x) = y := by rw [he]; show (if _ then _ else _) = _; rw [if_neg (by rw [h1]; decide)]
      rw [e1]
      exact ⟨hK c fid y v, _, rfl, Nat.le_refl _, bndK, rfl, rfl, v, hvy, rfl⟩
theorem and_w {fid : Nat} {part : CX → CX} {n : Nat} (hst : ∀ x : CX, x.1.p ≤ c.ts.length → Stp c.ts x (part x)) (hp : PartOk c fid 189 part n) : PartOk c fid 126 (andG part c.ts n) n := by
  intro x ver hk hn hw hv
  refine Ctr.enterE tabOkM (fn := Tryz.f126) rfl rfl rfl rfl rfl ?_
  refine OpC.callL rfl rfl rfl rfl [0, 1, 2, 3, 4] 0 rfl rfl rfl (row_w hst hp [47, 92] 4 x ver hk hn hw hv) rfl rfl rfl rfl ⟨rfl, rfl, rfl, rfl, rfl, trivial⟩ rfl (fun r H' hk => ?_) ?_
  · obtain ⟨_, v', _, rfl⟩ := hk; exact ⟨Nat.le_refl _, Nat.le_refl _⟩
  rintro r H' ⟨rfl, v1, hv1, rfl⟩
  exact ⟨hK c fid (andG part c.ts n x) v1, _, rfl, Nat.le_refl _, bndK, rfl, rfl, v1, hv1, rfl⟩
theorem or_w {fid : Nat} {part : CX → CX} {n : Nat} (hst : ∀ x : CX, x.1.p ≤ c.ts.length → Stp c.ts x (part x)) (hp : PartOk c fid 189 part n) : PartOk c fid 69 (orG part c.ts n) n := by
  intro x ver hk hn hw hv
  refine Ctr.enterE tabOkM (fn := Tryz.f69) rfl rfl rfl rfl rfl ?_
  refine OpC.callL rfl rfl rfl rfl [0, 1, 2, 3, 4] 0 rfl rfl rfl (row_w (fun x h => stp_and hst n x h) (and_w hst hp) [92, 47] 5 x ver hk hn hw hv) rfl rfl rfl rfl ⟨rfl, rfl, rfl, rfl, rfl, trivial⟩ rfl (fun r H' hk => ?_) ?_
  · obtain ⟨_, v', _, rfl⟩ := hk; exact ⟨Nat.le_refl _, Nat.le_refl _⟩
  rintro r H' ⟨rfl, v1, hv1, rfl⟩
  exact ⟨hK c fid (orG part c.ts n x) v1, _, rfl, Nat.le_refl _, bndK, rfl, rfl, v1, hv1, rfl⟩
set_option maxHeartbeats 2000000 in
theorem atom_w {fid : Nat} {f : List UInt8 → Int} (hfid : ∀ v, CtrV Tryz.prog fid [.s v] (.i .i64 (f v))) : ∀ n, PartOk c fid 189 (atmG f c.ts n) n
  | 0 => fun x ver hk hn hw _ => absurd hn (Nat.not_lt_zero _)
  | n + 1 => by
    have ih := atom_w hfid n
    intro x ver hk hn hw hv
    obtain ⟨s, out⟩ := x
    have hk : Rk c s := hk
    have hn : c.ts.length - s.p < n + 1 := hn
    have hw : out.length ≤ wC s := hw
    have hv : ver = out.length := hv
    have hwl := wC_le hk.p
    have hl2 : out.length ≤ 100001 := by have := hk.l; omega
    refine Ctr.enterE tabOkM (fn := Tryz.f189) rfl rfl rfl rfl rfl ?_
    refine OpC.callH rfl rfl rfl rfl [1] rfl (peek_ok (ad := c.ad) (cap := c.cap) hk.p) rfl rfl rfl rfl ⟨rfl, trivial⟩ rfl ?_
    refine OpC.callH rfl rfl rfl rfl [0, 1, 2] rfl (zbad_ok s) rfl rfl rfl rfl ⟨rfl, rfl, rfl, trivial⟩ rfl ?_
    refine ⟨fun h1 => ?_, fun h1 => ?_⟩
    · have h1 : (!decide (s.e = 0)) = true := h1
      have h1 : s.e ≠ 0 := by simpa using h1
      have e1 : atmG f c.ts (n + 1) (s, out) = (s, out) := by show (if _ then _ else _) = _; rw [if_pos h1]
      rw [e1]
      exact ⟨hK c fid (s, out) ver, _, rfl, Nat.le_refl _, bndK, rfl, rfl, ver, hv, rfl⟩
    have h1 : (!decide (s.e = 0)) = false := h1
    have h1 : s.e = 0 := by simpa using h1
    refine OpC.callH rfl rfl rfl rfl [0, 1, 2] rfl (zisM_ok (s := s) hk [126]) rfl rfl rfl rfl ⟨rfl, rfl, rfl, trivial⟩ rfl ?_
    refine ⟨fun h2 => ?_, fun h2 => ?_⟩
    · have h2 : isP c.ts [126] s = true := h2
      have hlt := isP_lt h2
      have e1 : atmG f c.ts (n + 1) (s, out) = ((atmG f c.ts n (goF s, out)).1, (atmG f c.ts n (goF s, out)).2 ++ [nodC 3]) := by show (if _ then _ else _) = _; rw [if_neg (by simpa using h1), if_pos h2]
      rw [e1]
      refine OpC.callH rfl rfl rfl rfl [1, 6] rfl (take_ok (ad := c.ad) (cap := c.cap) (m := [126]) (isP_take h2) rfl hk.p hk.l) rfl rfl rfl rfl ⟨rfl, rfl, trivial⟩ rfl ?_
      have hgp : (goF s).p = s.p + 1 := rfl
      refine OpC.callL rfl rfl rfl rfl [0, 1, 2, 3, 4] 0 rfl rfl rfl (ih (goF s, out) ver (hk.go hlt) (by show c.ts.length - (goF s).p < n; omega) (by show out.length ≤ wC (goF s); rw [w_go]; omega) hv) rfl rfl rfl rfl ⟨rfl, rfl, rfl, rfl, rfl, trivial⟩ rfl (fun r H' hk => ?_) ?_
      · obtain ⟨_, v', _, rfl⟩ := hk; exact ⟨Nat.le_refl _, Nat.le_refl _⟩
      rintro r H' ⟨rfl, v2, hv2, rfl⟩
      have hs := stp_atm f c.ts n (goF s, out) hlt
      have hz := hs.w
      rw [show wC (goF s, out).1 = wC s + 1 from w_go] at hz
      have hz : (atmG f c.ts n (goF s, out)).2.length + (wC s + 1) ≤ out.length + wC (atmG f c.ts n (goF s, out)).1 := hz
      have hwl2 := wC_le hs.t
      have hl3 : (atmG f c.ts n (goF s, out)).2.length ≤ 100001 := by have := hk.l; omega
      refine OpC.yld 0 rfl (yld_app_row tabOkM rfl rfl rfl rfl rfl rfl rfl rfl rfl (SrcA.sl rfl rfl rfl rfl (by decide) rfl) (Joins.arrN (y := nodC 3) rfl rfl cencw) (by decide) (Nat.le_trans (show (atmG f c.ts n (goF s, out)).2.length + 1 ≤ 100002 by omega) (by decide)) (cn_bytes hl3)) (fun d hd => by cases hd; rfl) ?_
      exact ⟨hK c fid ((atmG f c.ts n (goF s, out)).1, (atmG f c.ts n (goF s, out)).2 ++ [nodC 3]) (v2 + 1), [_, _, _], Eq.trans (b := hKN c fid (atmG f c.ts n (goF s, out)).1 ((atmG f c.ts n (goF s, out)).2 ++ [nodC 3]) ((atmG f c.ts n (goF s, out)).2.length + 1) (v2 + 1) ++ [_, _, _]) rfl (by rw [hKN_app]), Nat.le_refl _, bndK, rfl, rfl, v2 + 1, by rw [List.length_append, List.length_singleton, hv2], rfl⟩
    have h2 : isP c.ts [126] s = false := h2
    refine OpC.callH rfl rfl rfl rfl [0, 1, 2] rfl (zisM_ok (s := s) hk [40]) rfl rfl rfl rfl ⟨rfl, rfl, rfl, trivial⟩ rfl ?_
    refine ⟨fun h3 => ?_, fun h3 => ?_⟩
    · have h3 : isP c.ts [40] s = true := h3
      have hlt := isP_lt h3
      have e1 : atmG f c.ts (n + 1) (s, out) = (markP c.ts [41] (orG (atmG f c.ts n) c.ts n (goF s, out)).1, (orG (atmG f c.ts n) c.ts n (goF s, out)).2) := by show (if _ then _ else _) = _; rw [if_neg (by simpa using h1), if_neg (by rw [h2]; decide), if_pos h3]
      rw [e1]
      refine OpC.callH rfl rfl rfl rfl [1, 6] rfl (take_ok (ad := c.ad) (cap := c.cap) (m := [40]) (isP_take h3) rfl hk.p hk.l) rfl rfl rfl rfl ⟨rfl, rfl, trivial⟩ rfl ?_
      have hgp : (goF s).p = s.p + 1 := rfl
      refine OpC.callL rfl rfl rfl rfl [0, 1, 2, 3, 4] 0 rfl rfl rfl (or_w (fun x h => stp_atm f c.ts n x h) ih (goF s, out) ver (hk.go hlt) (by show c.ts.length - (goF s).p < n; omega) (by show out.length ≤ wC (goF s); rw [w_go]; omega) hv) rfl rfl rfl rfl ⟨rfl, rfl, rfl, rfl, rfl, trivial⟩ rfl (fun r H' hk => ?_) ?_
      · obtain ⟨_, v', _, rfl⟩ := hk; exact ⟨Nat.le_refl _, Nat.le_refl _⟩
      rintro r H' ⟨rfl, v2, hv2, rfl⟩
      have hs := stp_or (fun x h => stp_atm f c.ts n x h) n (goF s, out) hlt
      refine OpC.callH rfl rfl rfl rfl [0, 1, 2] rfl (zmark_w (s := (orG (atmG f c.ts n) c.ts n (goF s, out)).1) ⟨hs.t, hk.l⟩ [41]) rfl rfl rfl rfl ⟨rfl, rfl, rfl, trivial⟩ rfl ?_
      exact ⟨hK c fid (markP c.ts [41] (orG (atmG f c.ts n) c.ts n (goF s, out)).1, (orG (atmG f c.ts n) c.ts n (goF s, out)).2) v2, _, rfl, Nat.le_refl _, bndK, rfl, rfl, v2, hv2, rfl⟩
    have h3 : isP c.ts [40] s = false := h3
    refine ⟨fun h4 => ?_, fun h4 => ?_⟩
    · have h4 : (((decide (s.p < c.ts.length) && decide ((tkAt c.ts s.p).k = 2)) && decide (0 ≤ (tkAt c.ts s.p).n)) && decide ((tkAt c.ts s.p).n < 3)) = true := h4
      simp only [Bool.and_eq_true, decide_eq_true_eq] at h4
      obtain ⟨⟨⟨hlt, hk2⟩, hn0⟩, hn3⟩ := h4
      have hth : isTh c.ts s := ⟨hk2, hn0, hn3⟩
      have e1 : atmG f c.ts (n + 1) (s, out) = rgC f c.ts (s, out) := by show (if _ then _ else _) = _; rw [if_neg (by simpa using h1), if_neg (by rw [h2]; decide), if_neg (by rw [h3]; decide), if_pos hth]
      rw [e1]
      refine OpC.callH rfl rfl rfl rfl [1] rfl (next_ok (ad := c.ad) (cap := c.cap) hlt hk.l) rfl rfl rfl rfl ⟨rfl, trivial⟩ rfl ?_
      have hg := hk.go hlt
      refine OpC.callH rfl rfl rfl rfl [0, 1, 2] rfl (zmark_w (s := goF s) hg [58]) rfl rfl rfl rfl ⟨rfl, rfl, rfl, trivial⟩ rfl ?_
      have g2 := hg.mark [58]
      refine WpC.dr tabOkM mixed 1 ?_
      refine OpD.callL rfl rfl rfl rfl [0, 1, 2] 0 rfl rfl (zof_fn g2 fid f hfid) rfl rfl rfl rfl ⟨rfl, rfl, rfl, trivial⟩ rfl rfl ?_
      refine ⟨by kernel_rfl, ?_⟩
      have g3 := g2.of f
      refine OpC.callH rfl rfl rfl rfl [0, 1, 2] rfl (zmark_w g3 [61]) rfl rfl rfl rfl ⟨rfl, rfl, rfl, trivial⟩ rfl ?_
      have g4 := g3.mark [61]
      refine OpC.callH rfl rfl rfl rfl [0, 1, 2] rfl (znum_w g4) rfl rfl rfl rfl ⟨rfl, rfl, rfl, trivial⟩ rfl ?_
      refine WpC.dr tabOkM mixed 1 ?_
      refine OpD.yld 1 rfl rfl rowE_w (yld_app_row tabOkM rfl rfl rfl rfl rfl rfl rfl rfl rfl (SrcA.sl rfl rfl rfl rfl (by decide) rfl) (Joins.arrN (y := ⟨1, (tkAt c.ts s.p).n, (ofP f c.ts (markP c.ts [58] (goF s))).1, 0, (numP c.ts (markP c.ts [61] (ofP f c.ts (markP c.ts [58] (goF s))).2)).1⟩) rfl rfl cencw) (by decide) (Nat.le_trans (show out.length + 1 ≤ 100002 by omega) (by decide)) (cn_bytes hl2)) ?_
      refine ⟨by kernel_rfl, ?_⟩
      exact ⟨hK c fid (rgC f c.ts (s, out)) (ver + 1), _, Eq.trans (b := hKN c fid (rgC f c.ts (s, out)).1 (rgC f c.ts (s, out)).2 (out.length + 1) (ver + 1) ++ [_, _, _]) rfl (by unfold rgC; dsimp only; rw [hKN_app]), Nat.le_refl _, bndK, rfl, rfl, ver + 1, by unfold rgC; dsimp only; rw [List.length_append, List.length_singleton, hv], rfl⟩
    have h4 : (((decide (s.p < c.ts.length) && decide ((tkAt c.ts s.p).k = 2)) && decide (0 ≤ (tkAt c.ts s.p).n)) && decide ((tkAt c.ts s.p).n < 3)) = false := h4
    have hth : ¬ isTh c.ts s := by
      rintro ⟨q1, q2, q3⟩
      rw [decide_eq_true (at_lt (ts := c.ts) (p := s.p) (by rw [q1]; decide)), decide_eq_true q1, decide_eq_true q2, decide_eq_true q3] at h4
      cases h4
    have e1 : atmG f c.ts (n + 1) (s, out) = lcC c.ts (s, out) := by show (if _ then _ else _) = _; rw [if_neg (by simpa using h1), if_neg (by rw [h2]; decide), if_neg (by rw [h3]; decide), if_neg hth]
    rw [e1]
    refine OpC.callH rfl rfl rfl rfl [0, 1, 2] rfl (zof_fn (s := s) hk 197 locI loc_w) rfl rfl rfl rfl ⟨rfl, rfl, rfl, trivial⟩ rfl ?_
    have g3 := hk.of locI
    refine OpC.callH rfl rfl rfl rfl [0, 1, 2] rfl (zmark_w g3 [61]) rfl rfl rfl rfl ⟨rfl, rfl, rfl, trivial⟩ rfl ?_
    have g4 := g3.mark [61]
    refine OpC.callH rfl rfl rfl rfl [0, 1, 2] rfl (znum_w g4) rfl rfl rfl rfl ⟨rfl, rfl, rfl, trivial⟩ rfl ?_
    refine WpC.dr tabOkM mixed 1 ?_
    refine OpD.yld 1 rfl rfl rowE_w (yld_app_row tabOkM rfl rfl rfl rfl rfl rfl rfl rfl rfl (SrcA.sl rfl rfl rfl rfl (by decide) rfl) (Joins.arrN (y := ⟨2, 0, 0, (ofP locI c.ts s).1, (numP c.ts (markP c.ts [61] (ofP locI c.ts s).2)).1⟩) rfl rfl cencw) (by decide) (Nat.le_trans (show out.length + 1 ≤ 100002 by omega) (by decide)) (cn_bytes hl2)) ?_
    refine ⟨by kernel_rfl, ?_⟩
    exact ⟨hK c fid (lcC c.ts (s, out)) (ver + 1), _, Eq.trans (b := hKN c fid (lcC c.ts (s, out)).1 (lcC c.ts (s, out)).2 (out.length + 1) (ver + 1) ++ [_, _, _]) rfl (by unfold lcC; dsimp only; rw [hKN_app]), Nat.le_refl _, bndK, rfl, rfl, ver + 1, by unfold lcC; dsimp only; rw [List.length_append, List.length_singleton, hv], rfl⟩
end SX
end Go.Proofs.YthkedcneehdinaaGreatDoor
