/- A part of SX: symbolic and concrete runs of the program, with contracts of functions; lemmas without further conditions. -/
import Derived.Lib.ConvBytes
import Derived.Test.YtlgjjklikbpcoaaGreatDoorYS
set_option linter.unusedVariables false
set_option linter.unusedSimpArgs false
set_option linter.unusedSectionVars false
/- SX: []byte(string): a row that stays. -/
set_option linter.unusedVariables false
set_option linter.unusedSimpArgs false
namespace Go.Proofs.YtlgjjklikbpcoaaGreatDoor
namespace SX
open Go
def byE (c : UInt8) : List SV := [.i .u8 (c.toNat : Int)]
section
variable {P : Program} {T : Tb} {ops : Array Oper} {o : Oper}
theorem OpC.bytes (hT : TabOk P T) {K : St → Prop} {t : List SV} {h : List SB} {src dst : TypeId} {x : Operand} (hop : o.op = .convert src dst x) (hg : guardOf ops t o = some []) {s : List UInt8} (hx : evG [] t x = .s s) {ts td te : TI} {e : TypeId}
    (h1 : T src = some ts) (h2 : ts.k = .str) (h3 : T dst = some td) (h4 : td.k = .slice e) (h5 : T e = some te) (h6 : te.k = .int .u8) (hK : ∀ ad cap, putK t h o.dst (.imm UInt8 0 1 byE s (some ad) cap) K) : OpC P T ops o K ⟨t, h⟩ := by
  refine ⟨fun C E m a w hr => ?_⟩
  have hwant : Region.wanted o (yielded ops a.tmps) = true := by simp [Region.wanted, guard_none hg]
  unfold opW
  rw [hwant, if_pos rfl]
  obtain ⟨g1, g2⟩ := (hr.evs .nil).live (o := x) (by rw [hx]; rfl)
  rw [hx] at g2
  have hxv : a.eval x = .string ⟨⟨s⟩⟩ := by rw [g2]; simp [den_v]
  have hs := (hT.ti src ts h1).str h2
  have hd := (hT.ti dst td h3).slice h4
  have he := TiOk.int_und (hT.ti e te h5) h6
  have hrun := Lib.run_convert_string_bytes w src dst e ⟨⟨s⟩⟩ hs hd he
  simp only [Oper.wp, execOp, hop, hxv, Sem.run_bind, hrun, Result.andThen_ok, Sem.run_pure, Oper.upon]
  have hfresh : ∀ b o', w.heap[b]? = some o' → b < w.heap.size := fun b o' hb => size_of_heap hb
  have hmn : m w.heap.size = none := by
    cases hm : m w.heap.size with
    | none => rfl
    | some o' => have := hfresh _ _ (hr.rel.im _ _ hm); omega
  have hFn : C.F w.heap.size = none := by
    cases hm : C.F w.heap.size with
    | none => rfl
    | some o' => have := hfresh _ _ (hr.rel.fr _ _ hm); omega
  have hm1 : ∀ b o', m b = some o' → (fun b => if b = w.heap.size then some (.cells (Lib.bytesCells w e ⟨⟨s⟩⟩) e ((Lib.bytesCells w e ⟨⟨s⟩⟩).size, (Lib.bytesCells w e ⟨⟨s⟩⟩).size + 1)) else m b) b = some o' := fun b o' hb => by
    have : b ≠ w.heap.size := fun e => by subst e; rw [hmn] at hb; cases hb
    simp only [if_neg this]; exact hb
  have hx' : Ext E m (vers h) E (fun b => if b = w.heap.size then some (.cells (Lib.bytesCells w e ⟨⟨s⟩⟩) e ((Lib.bytesCells w e ⟨⟨s⟩⟩).size, (Lib.bytesCells w e ⟨⟨s⟩⟩).size + 1)) else m b) (vers h) := ⟨hm1, fun _ _ h => h, fun _ _ _ => rfl⟩
  have hold : ∀ b o', w.heap[b]? = some o' → (Lib.bytesWorld w e ⟨⟨s⟩⟩).heap[b]? = some o' := fun b o' hb => by rw [Lib.bytesWorld_at_old _ _ _ _ (hfresh _ _ hb)]; exact hb
  have hos : (Lib.bytesWorld w e ⟨⟨s⟩⟩).os = w.os ∧ (Lib.bytesWorld w e ⟨⟨s⟩⟩).tape = w.tape ∧ (Lib.bytesWorld w e ⟨⟨s⟩⟩).output = w.output ∧ w.drawn ≤ (Lib.bytesWorld w e ⟨⟨s⟩⟩).drawn := by
    simp [Lib.bytesWorld, World.freeze, World.alloc, World.drew, -World.alloc_eq, -World.drew_eq]
  have hrel : Rel E C (fun b => if b = w.heap.size then some (.cells (Lib.bytesCells w e ⟨⟨s⟩⟩) e ((Lib.bytesCells w e ⟨⟨s⟩⟩).size, (Lib.bytesCells w e ⟨⟨s⟩⟩).size + 1)) else m b) h (Lib.bytesWorld w e ⟨⟨s⟩⟩) := by
    refine ⟨hos.1.trans hr.rel.os, hos.2.1.trans hr.rel.tape, ⟨hos.2.2.1.trans hr.rel.output.1, hr.rel.output.2.trans hos.2.2.2⟩, fun b o' hb => ?_, fun b o' hb => hold b o' (hr.rel.fr b o' hb), ⟨fun b o' hb => ?_, hr.rel.mf.2.mono hm1⟩, fun k B hB => ?_, hr.rel.nn, fun k b hb => ?_, hr.rel.inj⟩
    · by_cases hbs : b = w.heap.size
      · subst hbs; simp only [if_true] at hb; cases hb; exact Lib.bytesWorld_at_new w e ⟨⟨s⟩⟩
      · simp only [if_neg hbs] at hb; exact hold b o' (hr.rel.im b o' hb)
    · have : b ≠ w.heap.size := fun e => by subst e; rw [hFn] at hb; cases hb
      simp only [if_neg this]; exact hr.rel.mf.1 b o' hb
    · refine (hr.rel.bl k B hB).mono hx' (fun _ _ => rfl) fun b hb => ?_
      obtain ⟨o', ho'⟩ := (hr.rel.bl k B hB).block hB b ⟨B, hB, hb⟩
      rw [hold b o' ho', ho']
    · have := hr.rel.sp k b hb
      obtain ⟨B, hB, hb'⟩ := id hb
      obtain ⟨o', ho'⟩ := (hr.rel.bl k B hB).block hB b hb
      have hne : b ≠ w.heap.size := fun e => by have := hfresh _ _ ho'; omega
      simp only [if_neg hne]; exact this
  have hcap : s.length ≤ grownCap w (⟨⟨s⟩⟩ : ByteArray).size 0 e := by
    have := grownCap_ge w (⟨⟨s⟩⟩ : ByteArray).size 0 e
    exact this
  have hk := hK ⟨w.heap.size, 0, none⟩ (grownCap w (⟨⟨s⟩⟩ : ByteArray).size 0 e)
  rw [putK_eq] at hk
  refine ⟨E, _, _, hk, hx', ?_⟩
  refine (hr.up hx' hrel).putG (o := o) (p := []) .nil (x := .imm UInt8 0 1 byE s (some ⟨w.heap.size, 0, none⟩) (grownCap w (⟨⟨s⟩⟩ : ByteArray).size 0 e)) (v := .slice (some ⟨w.heap.size, 0, none⟩) s.length (grownCap w (⟨⟨s⟩⟩ : ByteArray).size 0 e)) (fun _ => .inr ⟨⟨?_, rfl⟩, by simp [den, wrapV, cells]⟩) (fun h => by cases h)
  simp only [Ok]
  refine ⟨hcap, fun hne => ⟨_, Lib.bytesCells w e ⟨⟨s⟩⟩, e, _, rfl, rfl, if_pos rfl, fun j hj u c hu => ?_⟩, fun _ => rfl, fun j hj => by simp [byE, OkL, Ok, isUnit]⟩
  have hu0 : u = 0 := by
    cases u with
    | zero => rfl
    | succ u => simp [byE, cellsL, cells] at hu
  subst hu0
  have hc : c = .int .u8 ((s.getD j 0).toNat : Int) := by simpa [byE, cellsL, cells] using hu.symm
  subst hc
  simp only [Nat.zero_add, Nat.mul_one, Nat.add_zero]
  unfold Lib.bytesCells
  rw [Array.getElem?_append_left (by simpa using hj)]
  simp [List.getD_eq_getElem?_getD, List.getElem?_eq_getElem hj, hj]
end
end SX
end Go.Proofs.YtlgjjklikbpcoaaGreatDoor
