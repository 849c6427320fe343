/- A part of SX: symbolic and concrete runs of the program, with contracts of functions; lemmas without further conditions. -/
import Derived.Lib.IndexMore
import Derived.Lib.IndexBytes
import Derived.Test.YthkedcneehdinaaGreatDoorRows
import Derived.ProofKit
import Derived.LaidMore
import Derived.OpenShut
import Derived.Stop.Joined
import Derived.Carry
import Derived.SizedLaws
import Derived.ChangeMaps5
import Derived.JoinedOf
import Derived.Test.YthkedcneehdinaaGreatDoorPG
set_option linter.unusedVariables false
set_option linter.unusedSimpArgs false
set_option linter.unusedSectionVars false
/- Words read as an Arm instruction, plain: the program's and the reference's answer alike. -/
set_option linter.unusedVariables false
set_option maxRecDepth 100000
namespace Go.Proofs.YthkedcneehdinaaGreatDoor
namespace SX
open Go Go.Proofs
def fnA (v : List UInt8) : Int := idx6 [] [65, 68, 68] [83, 85, 66] [69, 79, 82] [65, 78, 68] [79, 82, 82] v
/-- Which barrier; -1: none. -/
def brI (v : List UInt8) : Int := if v = [83, 89] then 0 else if v = [76, 68] then 1 else if v = [83, 84] then 2 else -1
def prA (k : Int) : Int := if k = 1 then 1 else if k = 2 then 2 else 3
def suA (k : Int) : Int := if k = 2 then 2 else 3
def sizA (nm : List UInt8) : List UInt8 × Int := sizP [66] [72] [87] [] nm
def restA (i : In) (rest : List UInt8) (z : Int) : In × Bool :=
  if rest = [] ∨ rest = [65] ∨ rest = [76] ∨ rest = [65, 76] then ({ i with acq := pre rest [65], rel := sufB rest [76], sz := z }, true) else (i, false)
def memA (nm : List UInt8) : In × Bool :=
  let z := sizA nm
  if z.1 = [76, 68, 82] ∨ z.1 = [76, 68, 65, 82] ∨ z.1 = [76, 68, 65, 80, 82] then ({ none_ 4 with acq := decide (z.1 = [76, 68, 65, 82]), wk := decide (z.1 = [76, 68, 65, 80, 82]), sz := z.2 }, true)
  else if z.1 = [83, 84, 82] ∨ z.1 = [83, 84, 76, 82] then ({ none_ 5 with rel := decide (z.1 = [83, 84, 76, 82]), sz := z.2 }, true)
  else if pre z.1 [83, 87, 80] = true then restA { none_ 6 with fn := 6 } (z.1.drop 3) z.2
  else if pre z.1 [76, 68, 65, 68, 68] = true then restA { none_ 6 with fn := 1 } (z.1.drop 5) z.2
  else ({ none_ 6 with fn := 1 }, false)
def readAP (ts : List Tk) (nm : List UInt8) (s : RS) : Rd × RS :=
  if nm = [77, 79, 86] then
    let r := regP lgA ts s
    let w := eitP lgA ts (markP ts [44] r.2)
    (⟨{ none_ (if 0 ≤ w.1.1 then 2 else 1) with dst := r.1, a := w.1.1, imm := w.1.2 }, true, []⟩, w.2)
  else if 0 < fnA nm then
    let r := regP lgA ts s
    let v := regP lgA ts (markP ts [44] r.2)
    let w := eitP lgA ts (markP ts [44] v.2)
    (⟨{ none_ 3 with dst := r.1, fn := fnA nm, a := v.1, b := w.1.1, imm := w.1.2 }, true, []⟩, w.2)
  else if nm = [68, 77, 66] then
    let w := ofP brI ts s
    (⟨{ none_ 7 with pr := prA w.1, su := suA w.1 }, true, []⟩, w.2)
  else if nm = [73, 83, 66] then (⟨none_ 8, true, []⟩, s)
  else if nm = [67, 66, 90] ∨ nm = [67, 66, 78, 90] then
    let r := regP lgA ts s
    let w := wordP ts (markP ts [44] r.2)
    (⟨{ none_ 9 with a := r.1, ze := decide (nm = [67, 66, 90]) }, true, w.1⟩, w.2)
  else if (memA nm).2 = true then
    if (memA nm).1.op = 4 then
      let r := regP lgA ts s
      let m := memP lgA ts { (memA nm).1 with dst := r.1 } (memA nm).1.sz (markP ts [44] r.2)
      (⟨m.1, true, []⟩, m.2)
    else if (memA nm).1.op = 5 then
      let r := regP lgA ts s
      let m := memP lgA ts { (memA nm).1 with a := r.1 } (memA nm).1.sz (markP ts [44] r.2)
      (⟨m.1, true, []⟩, m.2)
    else
      let r := regP lgA ts s
      let v := regP lgA ts (markP ts [44] r.2)
      let m := memP lgA ts { (memA nm).1 with a := r.1, dst := v.1 } (memA nm).1.sz (markP ts [44] v.2)
      (⟨m.1, true, []⟩, m.2)
  else (⟨(memA nm).1, false, []⟩, s)
/-! The reference's. -/
def szdA (nm hd : List UInt8) : Int := szdF [66] [72] [87] [] nm hd
def ordR (nm hd : List UInt8) : Int × Bool × Bool :=
  if 0 < szdA nm hd then (szdA nm hd, false, false) else if 0 < szdA nm (hd ++ [65]) then (szdA nm (hd ++ [65]), true, false)
  else if 0 < szdA nm (hd ++ [76]) then (szdA nm (hd ++ [76]), false, true) else if 0 < szdA nm (hd ++ [65, 76]) then (szdA nm (hd ++ [65, 76]), true, true) else (0, false, false)
def barR (ts : List Tk) (s : RS) : (Int × Int) × RS :=
  if (tkAt ts s.p).k = 1 ∧ (tkAt ts s.p).s = [83, 89] then ((3, 3), goF s)
  else if (tkAt ts s.p).k = 1 ∧ (tkAt ts s.p).s = [76, 68] then ((1, 3), goF s)
  else if (tkAt ts s.p).k = 1 ∧ (tkAt ts s.p).s = [83, 84] then ((2, 2), goF s)
  else ((3, 3), oddR ts true s)
def readAR (ts : List Tk) (nm : List UInt8) (s : RS) : Rd × RS :=
  let fn := aluR [65, 68, 68] [83, 85, 66] [69, 79, 82] [65, 78, 68] [79, 82, 82] nm
  let ld := szdA nm [76, 68, 82]
  let aq := szdA nm [76, 68, 65, 82]
  let wk := szdA nm [76, 68, 65, 80, 82]
  let st := szdA nm [83, 84, 82]
  let rl := szdA nm [83, 84, 76, 82]
  let sw := ordR nm [83, 87, 80]
  let ad := ordR nm [76, 68, 65, 68, 68]
  if nm = [77, 79, 86] then
    let r := regR lgA ts s
    let s2 := markR ts [44] r.2
    if isImm lgA ts s2 then (⟨{ blkI with dst := r.1, op := 1, imm := (immR lgA ts s2).1 }, true, []⟩, (immR lgA ts s2).2)
    else (⟨{ blkI with dst := r.1, op := 2, a := (regR lgA ts s2).1 }, true, []⟩, (regR lgA ts s2).2)
  else if 0 < fn then
    let r := regR lgA ts s
    let v := regR lgA ts (markR ts [44] r.2)
    let s2 := markR ts [44] v.2
    if isImm lgA ts s2 then (⟨{ blkI with dst := r.1, op := 3, fn := fn, a := v.1, imm := (immR lgA ts s2).1 }, true, []⟩, (immR lgA ts s2).2)
    else (⟨{ blkI with dst := r.1, op := 3, fn := fn, a := v.1, b := (regR lgA ts s2).1 }, true, []⟩, (regR lgA ts s2).2)
  else if 0 < ld + aq + wk then
    let r := regR lgA ts s
    let m := memR lgA ts { blkI with op := 4, sz := ld + aq + wk, acq := decide (0 < aq), wk := decide (0 < wk), dst := r.1 } (markR ts [44] r.2)
    (⟨m.1, true, []⟩, m.2)
  else if 0 < st + rl then
    let r := regR lgA ts s
    let m := memR lgA ts { blkI with op := 5, sz := st + rl, rel := decide (0 < rl), a := r.1 } (markR ts [44] r.2)
    (⟨m.1, true, []⟩, m.2)
  else if 0 < sw.1 + ad.1 then
    let r := regR lgA ts s
    let v := regR lgA ts (markR ts [44] r.2)
    let m := memR lgA ts { blkI with op := 6, sz := sw.1 + ad.1, fn := (if 0 < ad.1 then 1 else 6), acq := sw.2.1 || ad.2.1, rel := sw.2.2 || ad.2.2, a := r.1, dst := v.1 } (markR ts [44] v.2)
    (⟨m.1, true, []⟩, m.2)
  else if nm = [68, 77, 66] then
    let w := barR ts s
    (⟨{ blkI with op := 7, pr := w.1.1, su := w.1.2 }, true, []⟩, w.2)
  else if nm = [73, 83, 66] then (⟨{ blkI with op := 8 }, true, []⟩, s)
  else if nm = [67, 66, 90] ∨ nm = [67, 66, 78, 90] then
    let w := brR lgA ts blkI (decide (nm = [67, 66, 90])) s
    (⟨w.1.1, true, w.1.2⟩, w.2)
  else (⟨blkI, false, []⟩, s)
/-! Names. -/
theorem szd_siz3 {a b c : UInt8} (hab : a ≠ b) (hac : a ≠ c) (hbc : b ≠ c) (nm hd : List UInt8) (ha : sufB hd [a] = false) (hb : sufB hd [b] = false) (hc : sufB hd [c] = false) :
    szdF [a] [b] [c] [] nm hd = if (sizP [a] [b] [c] [] nm).1 = hd then (sizP [a] [b] [c] [] nm).2 else 0 := by
  have key : ∀ (x : UInt8) (p : List UInt8), (pre (p ++ [x]) hd = true ∧ (p ++ [x]).drop hd.length = [x] ↔ p = hd) := by
    intro x p
    constructor
    · rintro ⟨h1, h2⟩
      obtain ⟨r, hr⟩ := pre_iff.1 h1
      rw [hr, List.drop_left] at h2
      rw [h2] at hr
      exact (List.append_inj' hr rfl).1
    · rintro rfl
      exact ⟨pre_iff.2 ⟨[x], rfl⟩, by simp⟩
  have kel : ∀ (x y : UInt8) (p : List UInt8), x ≠ y → (p ++ [x]).drop hd.length ≠ [y] := by
    intro x y p hxy h
    have := congrArg List.getLast? h
    by_cases hl : hd.length ≤ p.length
    · rw [List.drop_append_of_le_length hl] at this
      simp at this
      exact hxy this
    · rw [List.drop_eq_nil_of_le (by simp; omega)] at h
      cases h
  have knil : ∀ (x : UInt8) (p : List UInt8), sufB hd [x] = false → pre (p ++ [x]) hd = true → (p ++ [x]).drop hd.length ≠ [] := by
    intro x p hx h1 h2
    obtain ⟨r, hr⟩ := pre_iff.1 h1
    rw [hr, List.drop_left] at h2
    rw [h2, List.append_nil] at hr
    rw [← hr, suf1.2 ⟨p, rfl⟩] at hx
    cases hx
  have go : ∀ (x : UInt8) (p : List UInt8) (z : Int), sufB hd [x] = false → (if pre (p ++ [x]) hd = true then (if (p ++ [x]).drop hd.length = [x] then z else if (p ++ [x]).drop hd.length = [] then 8 else 0) else 0) = if p = hd then z else 0 := by
    intro x p z hx
    have := key x p
    by_cases hp : p = hd
    · obtain ⟨h1, h2⟩ := this.2 hp
      rw [if_pos h1, if_pos h2, if_pos hp]
    · rw [if_neg hp]
      split
      · rename_i h1
        have hn2 : ¬ ((p ++ [x]).drop hd.length = [x]) := fun h2 => hp (this.1 ⟨h1, h2⟩)
        rw [if_neg hn2, if_neg (knil x p hx h1)]
      · rfl
  by_cases h0 : sufB nm [a] = true
  · obtain ⟨p, rfl⟩ := suf1.1 h0
    have e : sizP [a] [b] [c] [] (p ++ [a]) = (p, 1) := by unfold sizP; rw [if_pos h0, cut1]
    rw [e]
    rw [← go a p 1 ha]
    unfold szdF
    simp only [if_neg (kel a b p hab), if_neg (kel a c p hac)]
  by_cases h1 : sufB nm [b] = true
  · obtain ⟨p, rfl⟩ := suf1.1 h1
    have e : sizP [a] [b] [c] [] (p ++ [b]) = (p, 2) := by unfold sizP; rw [if_neg h0, if_pos h1, cut1]
    rw [e]
    rw [← go b p 2 hb]
    unfold szdF
    simp only [if_neg (kel b a p (Ne.symm hab)), if_neg (kel b c p hbc)]
  by_cases h2 : sufB nm [c] = true
  · obtain ⟨p, rfl⟩ := suf1.1 h2
    have e : sizP [a] [b] [c] [] (p ++ [c]) = (p, 4) := by unfold sizP; rw [if_neg h0, if_neg h1, if_pos h2, cut1]
    rw [e]
    rw [← go c p 4 hc]
    unfold szdF
    simp only [if_neg (kel c a p (Ne.symm hac)), if_neg (kel c b p (Ne.symm hbc))]
  have hn : sufB nm [] = true := by unfold sufB; simp
  have e : sizP [a] [b] [c] [] nm = (nm, 8) := by
    unfold sizP; rw [if_neg h0, if_neg h1, if_neg h2, if_pos hn]
    unfold cutS; rw [if_pos hn]; simp
  rw [e]
  unfold szdF
  by_cases hp : pre nm hd = true
  · obtain ⟨r, rfl⟩ := pre_iff.1 hp
    rw [if_pos hp, List.drop_left]
    rw [if_neg (fun hr => h0 (suf1.2 ⟨hd, by rw [hr]⟩)), if_neg (fun hr => h1 (suf1.2 ⟨hd, by rw [hr]⟩)), if_neg (fun hr => h2 (suf1.2 ⟨hd, by rw [hr]⟩))]
    by_cases hr : r = []
    · subst hr; rw [if_pos rfl]; simp
    · rw [if_neg hr, if_neg]
      intro hh
      exact hr (by simpa using hh)
  · rw [if_neg hp, if_neg]
    rintro rfl
    exact hp (pre_iff.2 ⟨[], by simp⟩)
theorem sizA_pos (nm : List UInt8) : 0 < (sizA nm).2 := by
  unfold sizA sizP
  have hn : sufB nm [] = true := by unfold sufB; simp
  split
  · exact (by decide : (0 : Int) < 1)
  split
  · exact (by decide : (0 : Int) < 2)
  split
  · exact (by decide : (0 : Int) < 4)
  first | exact (by decide : (0 : Int) < 8) | (rw [if_pos hn]; exact (by decide : (0 : Int) < 8))
theorem szdA_eq (nm hd : List UInt8) (h : (sufB hd [66] || sufB hd [72] || sufB hd [87]) = false) : szdA nm hd = if (sizA nm).1 = hd then (sizA nm).2 else 0 := by
  simp only [Bool.or_eq_false_iff] at h
  exact szd_siz3 (by decide) (by decide) (by decide) nm hd h.1.1 h.1.2 h.2
theorem lgA_nil : lgA.ix [] < 0 := by decide
theorem eitA_sim {ts : List Tk} (hw : WfA ts) {a b : RS} (h : nrm a = nrm b) : SmP a (eitP lgA ts a) (eitR lgA ts b) := eit_sim lgA_nil (by decide) (by decide) hw.w h
theorem bar_sim {ts : List Tk} {a b : RS} (h : nrm a = nrm b) (ha : a.e = 0) : SmP a ((prA (ofP brI ts a).1, suA (ofP brI ts a).1), (ofP brI ts a).2) (barR ts b) := by
  have h1 := of_sim (f := brI) (by decide) (ts := ts) h 0
  obtain ⟨hb, hp⟩ := nrm_p h ha
  rw [if_pos hb] at h1
  unfold barR
  by_cases hk : (tkAt ts b.p).k = 1
  · by_cases e0 : (tkAt ts b.p).s = [83, 89]
    · rw [if_pos ⟨hk, by rw [e0]; decide⟩, e0] at h1
      rw [if_pos ⟨hk, e0⟩]
      exact ⟨h1.1, fun hl => ⟨ha, by dsimp only; rw [(h1.2 hl).2]; rfl⟩⟩
    by_cases e1 : (tkAt ts b.p).s = [76, 68]
    · rw [if_pos ⟨hk, by rw [e1]; decide⟩, e1] at h1
      rw [if_neg (fun hh => e0 hh.2), if_pos ⟨hk, e1⟩]
      exact ⟨h1.1, fun hl => ⟨ha, by dsimp only; rw [(h1.2 hl).2]; rfl⟩⟩
    by_cases e2 : (tkAt ts b.p).s = [83, 84]
    · rw [if_pos ⟨hk, by rw [e2]; decide⟩, e2] at h1
      rw [if_neg (fun hh => e0 hh.2), if_neg (fun hh => e1 hh.2), if_pos ⟨hk, e2⟩]
      exact ⟨h1.1, fun hl => ⟨ha, by dsimp only; rw [(h1.2 hl).2]; rfl⟩⟩
    have e3 : brI (tkAt ts b.p).s = -1 := by unfold brI; rw [if_neg e0, if_neg e1, if_neg e2]
    rw [e3, if_neg (fun hh => absurd hh.2 (by decide))] at h1
    rw [if_neg (fun hh => e0 hh.2), if_neg (fun hh => e1 hh.2), if_neg (fun hh => e2 hh.2)]
    exact ⟨h1.1, fun hl => absurd ((nrm_live h1.1).1 hl) (odd_e ts true b)⟩
  · rw [if_neg (fun hh => hk hh.1)] at h1
    rw [if_neg (fun hh => hk hh.1), if_neg (fun hh => hk hh.1), if_neg (fun hh => hk hh.1)]
    exact ⟨h1.1, fun hl => absurd ((nrm_live h1.1).1 hl) (odd_e ts true b)⟩
/-- MOV: a number or a register, of a language whose numbers have a mark ahead. -/
theorem mov_alike {L : Lg} (hL : L.ix [] < 0) (hh : L.h ≠ []) (hm0 : letB (cd L.h 0) = false ∧ cd L.h 0 ≠ 95) {ts : List Tk} (hw : WfA ts) {a b : RS} (h : nrm a = nrm b) :
    Alike a ((⟨{ none_ (if 0 ≤ (eitP L ts (markP ts [44] (regP L ts a).2)).1.1 then 2 else 1) with dst := (regP L ts a).1, a := (eitP L ts (markP ts [44] (regP L ts a).2)).1.1, imm := (eitP L ts (markP ts [44] (regP L ts a).2)).1.2 }, true, []⟩ : Rd), (eitP L ts (markP ts [44] (regP L ts a).2)).2)
      (if isImm L ts (markR ts [44] (regR L ts b).2) then (⟨{ blkI with dst := (regR L ts b).1, op := 1, imm := (immR L ts (markR ts [44] (regR L ts b).2)).1 }, true, []⟩, (immR L ts (markR ts [44] (regR L ts b).2)).2)
        else (⟨{ blkI with dst := (regR L ts b).1, op := 2, a := (regR L ts (markR ts [44] (regR L ts b).2)).1 }, true, []⟩, (regR L ts (markR ts [44] (regR L ts b).2)).2)) := by
  have hr := reg_sim hL (ts := ts) h
  have hm := mark_sim (ts := ts) (m := [44]) hr.1
  have he := eit_sim hL hh hm0 hw.w hm.1
  generalize hsd : markR ts [44] (regR L ts b).2 = sd at *
  have e1 := eit_split (L := L) (ts := ts) (s := sd) (fun w => (⟨{ blkI with dst := (regR L ts b).1, op := if isImm L ts sd then 1 else 2, a := w.1, imm := w.2 }, true, []⟩ : Rd))
  have e2 : (if isImm L ts sd then ((⟨{ blkI with dst := (regR L ts b).1, op := 1, imm := (immR L ts sd).1 }, true, []⟩ : Rd), (immR L ts sd).2) else (⟨{ blkI with dst := (regR L ts b).1, op := 2, a := (regR L ts sd).1 }, true, []⟩, (regR L ts sd).2)) = ((⟨{ blkI with dst := (regR L ts b).1, op := if isImm L ts sd then 1 else 2, a := (eitR L ts sd).1.1, imm := (eitR L ts sd).1.2 }, true, []⟩ : Rd), (eitR L ts sd).2) := by
    rw [← e1]
    cases isImm L ts sd <;> rfl
  rw [e2]
  refine ⟨rfl, he.1, fun _ hl => ⟨?_, rfl⟩⟩
  obtain ⟨k1, k2⟩ := he.2 hl
  obtain ⟨k3, k4⟩ := hr.2 (hm.2 k1)
  have k5 := (nrm_live he.1).1 hl
  have k6 := eitR_a k5
  dsimp only
  rw [k2, k4]
  by_cases k7 : 0 ≤ (eitR L ts sd).1.1
  · rw [if_pos k7, k6.1 k7]; rfl
  · have k8 : isImm L ts sd = true := by cases hq : isImm L ts sd with
      | true => rfl
      | false => exact absurd (k6.2 hq) k7
    rw [if_neg k7, k8]; rfl
/-- One register, a MEM. -/
theorem one_alike {L : Lg} (hL : L.ix [] < 0) {ts : List Tk} {a b : RS} (h : nrm a = nrm b) (F : Int → In) :
    Alike a ((⟨(memP L ts (F (regP L ts a).1) (F 0).sz (markP ts [44] (regP L ts a).2)).1, true, []⟩ : Rd), (memP L ts (F (regP L ts a).1) (F 0).sz (markP ts [44] (regP L ts a).2)).2)
      (⟨(memR L ts { F (regR L ts b).1 with sz := (F 0).sz } (markR ts [44] (regR L ts b).2)).1, true, []⟩, (memR L ts { F (regR L ts b).1 with sz := (F 0).sz } (markR ts [44] (regR L ts b).2)).2) := by
  have hr := reg_sim hL (ts := ts) h
  have hm := mark_sim (ts := ts) (m := [44]) hr.1
  have hmm := mem_simz hL (ts := ts) (i := F (regR L ts b).1) (z := (F 0).sz) hm.1
  have est := memP_st L ts (F (regP L ts a).1) (F (regR L ts b).1) (F 0).sz (markP ts [44] (regP L ts a).2)
  refine ⟨rfl, by dsimp only; rw [est]; exact hmm.1, fun _ hl => ⟨?_, rfl⟩⟩
  dsimp only at hl
  rw [est] at hl
  obtain ⟨k1, k2⟩ := hmm.2 hl
  obtain ⟨k3, k4⟩ := hr.2 (hm.2 k1)
  dsimp only
  rw [k4, k2]
/-- Two registers, a MEM. -/
theorem two_alike {L : Lg} (hL : L.ix [] < 0) {ts : List Tk} {a b : RS} (h : nrm a = nrm b) (F : Int → Int → In) :
    Alike a ((⟨(memP L ts (F (regP L ts a).1 (regP L ts (markP ts [44] (regP L ts a).2)).1) (F 0 0).sz (markP ts [44] (regP L ts (markP ts [44] (regP L ts a).2)).2)).1, true, []⟩ : Rd), (memP L ts (F (regP L ts a).1 (regP L ts (markP ts [44] (regP L ts a).2)).1) (F 0 0).sz (markP ts [44] (regP L ts (markP ts [44] (regP L ts a).2)).2)).2)
      (⟨(memR L ts { F (regR L ts b).1 (regR L ts (markR ts [44] (regR L ts b).2)).1 with sz := (F 0 0).sz } (markR ts [44] (regR L ts (markR ts [44] (regR L ts b).2)).2)).1, true, []⟩, (memR L ts { F (regR L ts b).1 (regR L ts (markR ts [44] (regR L ts b).2)).1 with sz := (F 0 0).sz } (markR ts [44] (regR L ts (markR ts [44] (regR L ts b).2)).2)).2) := by
  have hr := reg_sim hL (ts := ts) h
  have hm := mark_sim (ts := ts) (m := [44]) hr.1
  have hr2 := reg_sim hL (ts := ts) hm.1
  have hm2 := mark_sim (ts := ts) (m := [44]) hr2.1
  have hmm := mem_simz hL (ts := ts) (i := F (regR L ts b).1 (regR L ts (markR ts [44] (regR L ts b).2)).1) (z := (F 0 0).sz) hm2.1
  have est := memP_st L ts (F (regP L ts a).1 (regP L ts (markP ts [44] (regP L ts a).2)).1) (F (regR L ts b).1 (regR L ts (markR ts [44] (regR L ts b).2)).1) (F 0 0).sz (markP ts [44] (regP L ts (markP ts [44] (regP L ts a).2)).2)
  refine ⟨rfl, by dsimp only; rw [est]; exact hmm.1, fun _ hl => ⟨?_, rfl⟩⟩
  dsimp only at hl
  rw [est] at hl
  obtain ⟨k1, k2⟩ := hmm.2 hl
  obtain ⟨k3, k4⟩ := hr2.2 (hm2.2 k1)
  obtain ⟨k5, k6⟩ := hr.2 (hm.2 k3)
  dsimp only
  rw [k4, k6, k2]
set_option maxHeartbeats 2000000 in
theorem arm_alike {ts : List Tk} (hw : WfA ts) (nm : List UInt8) {a b : RS} (h : nrm a = nrm b) (ha : a.e = 0) : Alike a (readAP ts nm a) (readAR ts nm b) := by
  have hr := reg_sim lgA_nil (ts := ts) h
  have hm := mark_sim (ts := ts) (m := [44]) hr.1
  have hfn := alu_idx (n1 := [65, 68, 68]) (n2 := [83, 85, 66]) (n3 := [69, 79, 82]) (n4 := [65, 78, 68]) (n5 := [79, 82, 82]) (v := nm) (by decide) (by decide) (by decide) (by decide) (by decide)
  unfold readAP readAR
  dsimp only
  by_cases h1 : nm = [77, 79, 86]
  · rw [if_pos h1, if_pos h1]
    exact mov_alike lgA_nil (by decide) (by decide) hw h
  rw [if_neg h1, if_neg h1]
  by_cases h2 : 0 < fnA nm
  · have h2' := hfn.1.1 h2
    rw [if_pos h2, if_pos h2']
    have hr2 := reg_sim lgA_nil (ts := ts) hm.1
    have hm2 := mark_sim (ts := ts) (m := [44]) hr2.1
    have he := eitA_sim hw hm2.1
    generalize hv : regR lgA ts (markR ts [44] (regR lgA ts b).2) = v at *
    generalize hsd : markR ts [44] v.2 = sd at *
    have e1 := eit_split (L := lgA) (ts := ts) (s := sd) (fun w => (⟨{ blkI with dst := (regR lgA ts b).1, op := 3, fn := aluR [65, 68, 68] [83, 85, 66] [69, 79, 82] [65, 78, 68] [79, 82, 82] nm, a := v.1, b := w.1, imm := w.2 }, true, []⟩ : Rd))
    have e2 : (if isImm lgA ts sd then ((⟨{ blkI with dst := (regR lgA ts b).1, op := 3, fn := aluR [65, 68, 68] [83, 85, 66] [69, 79, 82] [65, 78, 68] [79, 82, 82] nm, a := v.1, imm := (immR lgA ts sd).1 }, true, []⟩ : Rd), (immR lgA ts sd).2) else (⟨{ blkI with dst := (regR lgA ts b).1, op := 3, fn := aluR [65, 68, 68] [83, 85, 66] [69, 79, 82] [65, 78, 68] [79, 82, 82] nm, a := v.1, b := (regR lgA ts sd).1 }, true, []⟩, (regR lgA ts sd).2)) = _ := e1
    rw [e2]
    refine ⟨rfl, he.1, fun _ hl => ⟨?_, rfl⟩⟩
    obtain ⟨k1, k2⟩ := he.2 hl
    obtain ⟨k3, k4⟩ := hr2.2 (hm2.2 k1)
    obtain ⟨k5, k6⟩ := hr.2 (hm.2 k3)
    dsimp only
    rw [k2, k4, k6, show fnA nm = _ from hfn.2 h2']; rfl
  have h2' : ¬ 0 < aluR [65, 68, 68] [83, 85, 66] [69, 79, 82] [65, 78, 68] [79, 82, 82] nm := fun hh => h2 (hfn.1.2 hh)
  rw [if_neg h2, if_neg h2']
  have ez : ∀ hd : List UInt8, (sufB hd [66] || sufB hd [72] || sufB hd [87]) = false → szdA nm hd = if (sizA nm).1 = hd then (sizA nm).2 else 0 := szdA_eq nm
  have zp := sizA_pos nm
  have noz : ∀ w : List UInt8, (∃ x : Int, sizA nm = (w, x)) → (w ≠ [76, 68, 82] ∧ w ≠ [76, 68, 65, 82] ∧ w ≠ [76, 68, 65, 80, 82] ∧ w ≠ [83, 84, 82] ∧ w ≠ [83, 84, 76, 82] ∧ w ≠ [83, 87, 80] ∧ w ≠ [83, 87, 80, 65] ∧ w ≠ [83, 87, 80, 76] ∧ w ≠ [83, 87, 80, 65, 76] ∧ w ≠ [76, 68, 65, 68, 68] ∧ w ≠ [76, 68, 65, 68, 68, 65] ∧ w ≠ [76, 68, 65, 68, 68, 76] ∧ w ≠ [76, 68, 65, 68, 68, 65, 76]) →
      szdA nm [76, 68, 82] + szdA nm [76, 68, 65, 82] + szdA nm [76, 68, 65, 80, 82] = 0 ∧ szdA nm [83, 84, 82] + szdA nm [83, 84, 76, 82] = 0 ∧ (ordR nm [83, 87, 80]).1 + (ordR nm [76, 68, 65, 68, 68]).1 = 0 := by
    rintro w ⟨x, hx⟩ ⟨n1, n2, n3, n4, n5, n6, n7, n8, n9, n10, n11, n12, n13⟩
    have z : ∀ hd : List UInt8, (sufB hd [66] || sufB hd [72] || sufB hd [87]) = false → w ≠ hd → szdA nm hd = 0 := fun hd h1 h2 => by rw [ez hd h1, hx]; exact if_neg h2
    refine ⟨?_, ?_, ?_⟩
    · rw [z [76, 68, 82] rfl n1, z [76, 68, 65, 82] rfl n2, z [76, 68, 65, 80, 82] rfl n3]; rfl
    · rw [z [83, 84, 82] rfl n4, z [83, 84, 76, 82] rfl n5]; rfl
    · unfold ordR
      rw [z [83, 87, 80] rfl n6, show szdA nm ([83, 87, 80] ++ [65]) = 0 from z [83, 87, 80, 65] rfl n7, show szdA nm ([83, 87, 80] ++ [76]) = 0 from z [83, 87, 80, 76] rfl n8, show szdA nm ([83, 87, 80] ++ [65, 76]) = 0 from z [83, 87, 80, 65, 76] rfl n9,
        z [76, 68, 65, 68, 68] rfl n10, show szdA nm ([76, 68, 65, 68, 68] ++ [65]) = 0 from z [76, 68, 65, 68, 68, 65] rfl n11, show szdA nm ([76, 68, 65, 68, 68] ++ [76]) = 0 from z [76, 68, 65, 68, 68, 76] rfl n12, show szdA nm ([76, 68, 65, 68, 68] ++ [65, 76]) = 0 from z [76, 68, 65, 68, 68, 65, 76] rfl n13]
      rfl
  by_cases h3 : nm = [68, 77, 66]
  · obtain ⟨q1, q2, q3⟩ := noz [68, 77] ⟨1, by rw [h3]; rfl⟩ (by decide)
    rw [if_pos h3, q1, q2, q3, if_neg (Int.lt_irrefl 0), if_neg (Int.lt_irrefl 0), if_neg (Int.lt_irrefl 0), if_pos h3]
    have hs := bar_sim (ts := ts) h ha
    refine ⟨rfl, hs.1, fun _ hl => ⟨?_, rfl⟩⟩
    obtain ⟨k1, k2⟩ := hs.2 hl
    have k3 := congrArg Prod.fst k2
    have k4 := congrArg Prod.snd k2
    dsimp only at k3 k4 ⊢
    rw [k3, k4]; rfl
  rw [if_neg h3]
  by_cases h4 : nm = [73, 83, 66]
  · obtain ⟨q1, q2, q3⟩ := noz [73, 83] ⟨1, by rw [h4]; rfl⟩ (by decide)
    rw [if_pos h4, q1, q2, q3, if_neg (Int.lt_irrefl 0), if_neg (Int.lt_irrefl 0), if_neg (Int.lt_irrefl 0), if_neg h3, if_pos h4]
    exact ⟨rfl, h, fun _ _ => ⟨rfl, rfl⟩⟩
  rw [if_neg h4]
  by_cases h6 : nm = [67, 66, 90] ∨ nm = [67, 66, 78, 90]
  · obtain ⟨q1, q2, q3⟩ : szdA nm [76, 68, 82] + szdA nm [76, 68, 65, 82] + szdA nm [76, 68, 65, 80, 82] = 0 ∧ szdA nm [83, 84, 82] + szdA nm [83, 84, 76, 82] = 0 ∧ (ordR nm [83, 87, 80]).1 + (ordR nm [76, 68, 65, 68, 68]).1 = 0 := by
      rcases h6 with e | e
      · exact noz [67, 66, 90] ⟨8, by rw [e]; rfl⟩ (by decide)
      · exact noz [67, 66, 78, 90] ⟨8, by rw [e]; rfl⟩ (by decide)
    rw [if_pos h6, q1, q2, q3, if_neg (Int.lt_irrefl 0), if_neg (Int.lt_irrefl 0), if_neg (Int.lt_irrefl 0), if_neg h3, if_neg h4, if_pos h6]
    unfold brR
    dsimp only
    have hl := lab_sim (ts := ts) hm.1
    refine ⟨rfl, hl.1, fun _ hd => ?_⟩
    obtain ⟨k1, k2⟩ := hl.2 hd
    obtain ⟨k3, k4⟩ := hr.2 (hm.2 k1)
    exact ⟨by dsimp only; rw [k4]; rfl, k2⟩
  rw [if_neg h6]
  have z1 : ∀ {w hd : List UInt8} {x : Int}, sizA nm = (w, x) → (sufB hd [66] || sufB hd [72] || sufB hd [87]) = false → szdA nm hd = if w = hd then x else 0 := fun hx h1 => by rw [ez _ h1, hx]
  obtain ⟨w, x, hx⟩ : ∃ w x, sizA nm = (w, x) := ⟨_, _, rfl⟩
  rw [hx] at zp
  have zp : 0 < x := zp
  have q : ∀ hd : List UInt8, (sufB hd [66] || sufB hd [72] || sufB hd [87]) = false → szdA nm hd = if w = hd then x else 0 := fun hd => z1 hx
  have qo : ∀ hd : List UInt8, (sufB hd [66] || sufB hd [72] || sufB hd [87]) = false → (sufB (hd ++ [65]) [66] || sufB (hd ++ [65]) [72] || sufB (hd ++ [65]) [87]) = false → (sufB (hd ++ [76]) [66] || sufB (hd ++ [76]) [72] || sufB (hd ++ [76]) [87]) = false → (sufB (hd ++ [65, 76]) [66] || sufB (hd ++ [65, 76]) [72] || sufB (hd ++ [65, 76]) [87]) = false →
      ordR nm hd = if w = hd then (x, false, false) else if w = hd ++ [65] then (x, true, false) else if w = hd ++ [76] then (x, false, true) else if w = hd ++ [65, 76] then (x, true, true) else (0, false, false) := by
    intro hd a1 a2 a3 a4
    unfold ordR
    rw [q _ a1, q _ a2, q _ a3, q _ a4]
    have n0 : ¬ (0 : Int) < 0 := Int.lt_irrefl 0
    by_cases c1 : w = hd
    · simp only [if_pos c1, if_pos zp]
    simp only [if_neg c1, if_neg n0]
    by_cases c2 : w = hd ++ [65]
    · simp only [if_pos c2, if_pos zp]
    simp only [if_neg c2, if_neg n0]
    by_cases c3 : w = hd ++ [76]
    · simp only [if_pos c3, if_pos zp]
    simp only [if_neg c3, if_neg n0]
    by_cases c4 : w = hd ++ [65, 76]
    · simp only [if_pos c4, if_pos zp]
    simp only [if_neg c4, if_neg n0]
  rw [q [76, 68, 82] rfl, q [76, 68, 65, 82] rfl, q [76, 68, 65, 80, 82] rfl, q [83, 84, 82] rfl, q [83, 84, 76, 82] rfl, qo [83, 87, 80] rfl rfl rfl rfl, qo [76, 68, 65, 68, 68] rfl rfl rfl rfl]
  unfold memA
  rw [hx]
  dsimp only
  by_cases c0 : w = [76, 68, 82]
  · subst c0
    simp (decide := true) only [zp, if_true, if_false, Int.add_zero, Int.zero_add, restA]
    exact one_alike lgA_nil h fun r => { none_ 4 with sz := x, dst := r }
  by_cases c1 : w = [76, 68, 65, 82]
  · subst c1
    simp (decide := true) only [zp, if_true, if_false, Int.add_zero, Int.zero_add, restA]
    exact one_alike lgA_nil h fun r => { none_ 4 with sz := x, acq := true, dst := r }
  by_cases c2 : w = [76, 68, 65, 80, 82]
  · subst c2
    simp (decide := true) only [zp, if_true, if_false, Int.add_zero, Int.zero_add, restA]
    exact one_alike lgA_nil h fun r => { none_ 4 with sz := x, wk := true, dst := r }
  by_cases c3 : w = [83, 84, 82]
  · subst c3
    simp (decide := true) only [zp, if_true, if_false, Int.add_zero, Int.zero_add, restA]
    exact one_alike lgA_nil h fun r => { none_ 5 with sz := x, a := r }
  by_cases c4 : w = [83, 84, 76, 82]
  · subst c4
    simp (decide := true) only [zp, if_true, if_false, Int.add_zero, Int.zero_add, restA]
    exact one_alike lgA_nil h fun r => { none_ 5 with sz := x, rel := true, a := r }
  by_cases c5 : w = [83, 87, 80]
  · subst c5
    simp (decide := true) only [zp, if_true, if_false, Int.add_zero, Int.zero_add, restA]
    exact two_alike lgA_nil h fun r d => { none_ 6 with sz := x, fn := 6, acq := false, rel := false, a := r, dst := d }
  by_cases c6 : w = [83, 87, 80, 65]
  · subst c6
    simp (decide := true) only [zp, if_true, if_false, Int.add_zero, Int.zero_add, restA]
    exact two_alike lgA_nil h fun r d => { none_ 6 with sz := x, fn := 6, acq := true, rel := false, a := r, dst := d }
  by_cases c7 : w = [83, 87, 80, 76]
  · subst c7
    simp (decide := true) only [zp, if_true, if_false, Int.add_zero, Int.zero_add, restA]
    exact two_alike lgA_nil h fun r d => { none_ 6 with sz := x, fn := 6, acq := false, rel := true, a := r, dst := d }
  by_cases c8 : w = [83, 87, 80, 65, 76]
  · subst c8
    simp (decide := true) only [zp, if_true, if_false, Int.add_zero, Int.zero_add, restA]
    exact two_alike lgA_nil h fun r d => { none_ 6 with sz := x, fn := 6, acq := true, rel := true, a := r, dst := d }
  by_cases c9 : w = [76, 68, 65, 68, 68]
  · subst c9
    simp (decide := true) only [zp, if_true, if_false, Int.add_zero, Int.zero_add, restA]
    exact two_alike lgA_nil h fun r d => { none_ 6 with sz := x, fn := 1, acq := false, rel := false, a := r, dst := d }
  by_cases c10 : w = [76, 68, 65, 68, 68, 65]
  · subst c10
    simp (decide := true) only [zp, if_true, if_false, Int.add_zero, Int.zero_add, restA]
    exact two_alike lgA_nil h fun r d => { none_ 6 with sz := x, fn := 1, acq := true, rel := false, a := r, dst := d }
  by_cases c11 : w = [76, 68, 65, 68, 68, 76]
  · subst c11
    simp (decide := true) only [zp, if_true, if_false, Int.add_zero, Int.zero_add, restA]
    exact two_alike lgA_nil h fun r d => { none_ 6 with sz := x, fn := 1, acq := false, rel := true, a := r, dst := d }
  by_cases c12 : w = [76, 68, 65, 68, 68, 65, 76]
  · subst c12
    simp (decide := true) only [zp, if_true, if_false, Int.add_zero, Int.zero_add, restA]
    exact two_alike lgA_nil h fun r d => { none_ 6 with sz := x, fn := 1, acq := true, rel := true, a := r, dst := d }
  have n0 : ¬ (0 : Int) < 0 := Int.lt_irrefl 0
  have d1 : ¬ (w = [76, 68, 82] ∨ w = [76, 68, 65, 82] ∨ w = [76, 68, 65, 80, 82]) := fun hh => hh.elim c0 fun hh => hh.elim c1 c2
  have d2 : ¬ (w = [83, 84, 82] ∨ w = [83, 84, 76, 82]) := fun hh => hh.elim c3 c4
  have dr : ∀ (i : In) (hd rest : List UInt8), w = hd ++ rest → w ≠ hd → w ≠ hd ++ [65] → w ≠ hd ++ [76] → w ≠ hd ++ [65, 76] → restA i rest x = (i, false) := by
    intro i hd rest e a1 a2 a3 a4
    unfold restA
    rw [if_neg]
    rintro (rfl | rfl | rfl | rfl)
    · exact a1 (by rw [e, List.append_nil])
    · exact a2 e
    · exact a3 e
    · exact a4 e
  have d3 : ∃ i, (if pre w [83, 87, 80] = true then restA { none_ 6 with fn := 6 } (w.drop 3) x else if pre w [76, 68, 65, 68, 68] = true then restA { none_ 6 with fn := 1 } (w.drop 5) x else ({ none_ 6 with fn := 1 }, false)) = (i, false) := by
    by_cases p1 : pre w [83, 87, 80] = true
    · rw [if_pos p1]
      obtain ⟨r, e⟩ := pre_iff.1 p1
      have e2 : w.drop 3 = r := by rw [e]; rfl
      exact ⟨_, dr _ [83, 87, 80] _ (by rw [e2]; exact e) c5 c6 c7 c8⟩
    rw [if_neg p1]
    by_cases p2 : pre w [76, 68, 65, 68, 68] = true
    · rw [if_pos p2]
      obtain ⟨r, e⟩ := pre_iff.1 p2
      have e2 : w.drop 5 = r := by rw [e]; rfl
      exact ⟨_, dr _ [76, 68, 65, 68, 68] _ (by rw [e2]; exact e) c9 c10 c11 c12⟩
    rw [if_neg p2]
    exact ⟨_, rfl⟩
  obtain ⟨i0, d3⟩ := d3
  rw [if_neg d1, if_neg d2, d3]
  have f6 : ¬ w = [83, 87, 80] ++ [65] := c6
  have f7 : ¬ w = [83, 87, 80] ++ [76] := c7
  have f8 : ¬ w = [83, 87, 80] ++ [65, 76] := c8
  have f10 : ¬ w = [76, 68, 65, 68, 68] ++ [65] := c10
  have f11 : ¬ w = [76, 68, 65, 68, 68] ++ [76] := c11
  have f12 : ¬ w = [76, 68, 65, 68, 68] ++ [65, 76] := c12
  simp only [if_neg c0, if_neg c1, if_neg c2, if_neg c3, if_neg c4, if_neg c5, if_neg f6, if_neg f7, if_neg f8, if_neg c9, if_neg f10, if_neg f11, if_neg f12, Int.add_zero, if_neg n0, Bool.false_eq_true, if_false, if_neg h3, if_neg h4, if_neg h6]
  exact ⟨rfl, h, fun hh => Bool.noConfusion hh⟩
theorem arm_nil (ts : List Tk) (s : RS) : (readAP ts [] s).1.known = false := rfl
theorem arm_un (ts : List Tk) (nm : List UInt8) (s : RS) (h : (readAP ts nm s).1.known = false) : (readAP ts nm s).2 = s := by
  unfold readAP at h ⊢
  dsimp only at h ⊢
  repeat' split at h
  all_goals first | (cases h; done) | skip
  all_goals (repeat (first | rw [if_neg (by assumption)] | rw [if_pos (by assumption)]))
theorem arm_parse {ts : List Tk} (hw : WfA ts) : parseP readAP ts = parseR readAR ts := parse_alike (arm_nil ts) (arm_un ts) fun nm a b h ha => arm_alike hw nm h ha
end SX
end Go.Proofs.YthkedcneehdinaaGreatDoor

/- Words of a text: what each of them is like. -/
set_option linter.unusedVariables false
set_option maxRecDepth 100000
namespace Go.Proofs.YthkedcneehdinaaGreatDoor
namespace SX
open Go Go.Proofs
theorem wrap_wrap (n : Int) : IntKind.i64.wrap (IntKind.i64.wrap n) = IntKind.i64.wrap n := by
  have h : -9223372036854775808 ≤ IntKind.i64.wrap n ∧ IntKind.i64.wrap n ≤ 9223372036854775807 := by rw [IntKind.wrap_i64]; omega
  exact w64 h.1 h.2
theorem wrap_0 : IntKind.i64.wrap 0 = 0 := by decide
/-- A word as a text has it. -/
structure GoodT (t : Tk) : Prop where
  k : t.k = 1 ∨ t.k = 2 ∨ t.k = 3
  nam : t.k = 1 → letB (cd t.s 0) = true ∨ cd t.s 0 = 95
  num : IntKind.i64.wrap t.n = t.n
theorem cd_take {s : List UInt8} {n : Nat} (h : 0 < n) : cd (s.take n) 0 = cd s 0 := by
  unfold cd
  rw [List.getD_eq_getElem?_getD, List.getElem?_take_of_lt h, List.getD_eq_getElem?_getD]
theorem step_good {s : List UInt8} {p : Nat} {t : Tk} (h : stepF s p = .tok t) : GoodT t := by
  unfold stepF at h
  split at h
  · cases h
  split at h
  · split at h <;> cases h
  split at h
  · split at h
    · cases h
    · cases h
      exact ⟨.inr (.inl rfl), fun hh => absurd hh (by show ¬ (2 : Int) = 1; decide), wrap_wrap _⟩
  split at h
  · rename_i hl
    cases h
    refine ⟨.inl rfl, fun _ => ?_, wrap_0⟩
    have hne : s ≠ [] := by rintro rfl; exact absurd hl (by decide)
    have hp : 0 < rowF namB s := rowF_pos hne (by
      unfold namB
      simp only [Bool.or_eq_true, decide_eq_true_eq] at hl ⊢
      rcases hl with hl | hl
      · exact .inl (.inl (.inl hl))
      · exact .inl (.inr hl))
    show letB (cd (s.take (rowF namB s)) 0) = true ∨ cd (s.take (rowF namB s)) 0 = 95
    rw [cd_take hp]
    simpa using hl
  split at h
  · cases h
    exact ⟨.inr (.inr rfl), fun hh => absurd hh (by show ¬ (3 : Int) = 1; decide), wrap_0⟩
  split at h
  · cases h
    exact ⟨.inr (.inr rfl), fun hh => absurd hh (by show ¬ (3 : Int) = 1; decide), wrap_0⟩
  · cases h
theorem tokC_good {s : List UInt8} : ∀ {f p : Nat} {out : List Tk}, (∀ t ∈ out, GoodT t) → ∀ t ∈ (tokC s f p out).1, GoodT t
  | 0, _, out, h => h
  | f + 1, p, out, h => by
    unfold tokC
    split
    · exact h
    · split
      · exact tokC_good h
      · rename_i t ht
        refine tokC_good fun x hx => ?_
        rcases List.mem_append.1 hx with hx | hx
        · exact h x hx
        · rw [List.mem_singleton.1 hx]; exact step_good ht
      · intro t ht; cases ht
theorem tokF_good (s : List UInt8) : ∀ t ∈ (tokF s).1, GoodT t := by
  unfold tokF
  split
  · intro t ht; cases ht
  · exact tokC_good fun t ht => by cases ht
theorem wfA_of {ts : List Tk} (h : ∀ t ∈ ts, GoodT t) : WfA ts := by
  have key : ∀ p, GoodT (tkAt ts p) ∨ tkAt ts p = tk0 := by
    intro p
    unfold tkAt
    rw [List.getD_eq_getElem?_getD]
    cases hx : ts[p]? with
    | none => exact .inr rfl
    | some t => exact .inl (h t (List.mem_of_getElem? hx))
  refine ⟨fun p => ?_, fun p => ?_, fun p hp => ?_⟩
  · rcases key p with g | e
    · exact ⟨g.nam, g.num⟩
    · rw [e]; exact ⟨fun hh => absurd hh (by decide), by decide⟩
  · rcases key p with g | e
    · exact .inr g.k
    · rw [e]; exact .inl rfl
  · rcases key p with g | e
    · rcases g.k with hk | hk | hk <;> rw [hk] at hp <;> exact absurd hp (by decide)
    · rw [e]; rfl
theorem tok_wf (s : List UInt8) : WfA (tokF s).1 := wfA_of (tokF_good s)
end SX
end Go.Proofs.YthkedcneehdinaaGreatDoor

/- Words of a text that is put together: what they are. -/
set_option linter.unusedVariables false
set_option maxRecDepth 100000
namespace Go.Proofs.YthkedcneehdinaaGreatDoor
namespace SX
open Go Go.Proofs
/-- What a word is, without its place. -/
abbrev Ky := Int × List UInt8 × Int
def key (t : Tk) : Ky := (t.k, t.s, t.n)
/-! Digits. -/
theorem step_len {s : List UInt8} {p : Nat} {t : Tk} (h : stepF s p = .tok t) : t.s.length ≤ s.length := by
  unfold stepF at h
  split at h
  · cases h
  split at h
  · split at h <;> cases h
  split at h
  · split at h <;> cases h
    exact List.length_take_le' _ _
  split at h
  · cases h; exact List.length_take_le' _ _
  split at h
  · cases h; exact List.length_take_le' _ _
  split at h
  · cases h; exact List.length_take_le' _ _
  · cases h
end SX
end Go.Proofs.YthkedcneehdinaaGreatDoor

/- Instructions' texts, word by word; read again. -/
set_option linter.unusedVariables false
set_option maxRecDepth 100000
namespace Go.Proofs.YthkedcneehdinaaGreatDoor
namespace SX
open Go Go.Proofs
/-! What stands behind a place. -/
def st (p : Nat) : RS := ⟨p, 0, 0⟩
/-! Texts. -/
end SX
end Go.Proofs.YthkedcneehdinaaGreatDoor

/- Words of a text, plain: blanks first. -/
set_option linter.unusedVariables false
namespace Go.Proofs.YthkedcneehdinaaGreatDoor
namespace SX
open Go Go.Proofs
end SX
end Go.Proofs.YthkedcneehdinaaGreatDoor

/- Words of a text: the reference's small functions. -/
set_option linter.unusedVariables false
set_option maxRecDepth 100000
namespace Go.Proofs.YthkedcneehdinaaGreatDoor
namespace SX
open Go Go.Proofs
end SX
end Go.Proofs.YthkedcneehdinaaGreatDoor

/- Words of a text: the reference's numbers. -/
set_option linter.unusedVariables false
set_option maxRecDepth 100000
namespace Go.Proofs.YthkedcneehdinaaGreatDoor
namespace SX
open Go Go.Proofs
end SX
end Go.Proofs.YthkedcneehdinaaGreatDoor

/- Words of a text: the reference's Value. Printed by rkc.py. -/
set_option linter.unusedVariables false
set_option maxRecDepth 100000
namespace Go.Proofs.YthkedcneehdinaaGreatDoor
namespace SX
open Go Go.Proofs
end SX
end Go.Proofs.YthkedcneehdinaaGreatDoor

/- Words of a text: where a comment ends, plain; the reference's blanks, plain. -/
set_option linter.unusedVariables false
set_option maxRecDepth 100000
namespace Go.Proofs.YthkedcneehdinaaGreatDoor
namespace SX
open Go Go.Proofs
end SX
end Go.Proofs.YthkedcneehdinaaGreatDoor

/- Words of a text: the reference's blanks. -/
set_option linter.unusedVariables false
set_option maxRecDepth 100000
namespace Go.Proofs.YthkedcneehdinaaGreatDoor
namespace SX
open Go Go.Proofs
end SX
end Go.Proofs.YthkedcneehdinaaGreatDoor

/- Words of a text: the reference's Tokens (written by tools/rkf.py). -/
set_option linter.unusedVariables false
set_option maxRecDepth 100000
namespace Go.Proofs.YthkedcneehdinaaGreatDoor
namespace SX
open Go Go.Proofs
end SX
end Go.Proofs.YthkedcneehdinaaGreatDoor

/- Is a text one name: the reference's answer. -/
set_option linter.unusedVariables false
set_option maxRecDepth 100000
namespace Go.Proofs.YthkedcneehdinaaGreatDoor
namespace SX
open Go Go.Proofs
end SX
end Go.Proofs.YthkedcneehdinaaGreatDoor

/- Readers of words: rules; the cursor's functions. -/
set_option linter.unusedVariables false
set_option maxRecDepth 100000
namespace Go.Proofs.YthkedcneehdinaaGreatDoor
namespace SX
open Go Go.Proofs
section
variable {P : Program} {T : Tb}
/-- A function that hands back a value, and leaves the blocks that it is lent so. -/
theorem Ctr.enterH (hT : TabOk P T) {f : FuncId} {fn : Func} {c : Code} {n : Nat} (hf : P.funcs[f]? = some fn) (hb : fn.body = some c) (hn : fn.ntmps = n) (hnm : (fn.name == "runtime.NumGoroutine") = false) {args : List SV} {H H' : List SB} {r : SV}
    (hl : Nat.ble args.length n = true) (hr : Bnd H'.length r) (hH : BndH H'.length H') (hle : H.length ≤ H'.length) (h : sx P T c (retK T fn.results.toList (fun r' h => r' = r ∧ ∃ X, h = H' ++ X)) ⟨args ++ List.replicate (n - args.length) .dead, H⟩) : Ctr P f args H (fun r' h => r' = r ∧ h = H') := by
  have h1 := Ctr.enter hT hf hb hn hnm hl h
  exact h1.trim callX_m fun r' H1 ⟨e, X, hX⟩ => ⟨H', X, hX, hle, hH, by rw [e]; exact hr, e, rfl⟩
variable {ops : Array Oper} {o : Oper}
/-- A call that is lent the blocks ks, and hands them back so. -/
theorem OpC.callH {K : St → Prop} {t : List SV} {h : List SB} {c : Call} (hop : o.op = .call c) {fo : Operand} (hcal : c.callee = .value fo) (hg : guardOf ops t o = some []) {f : FuncId} {fst caps : List SV} (hf : calB (evG [] t fo) = some (f, fst, caps))
    (ks : List Nat) {ρ : Nat → Nat} (hρ : rho ks h.length = ρ) {args0 : List SV} {H0 H1 : List SB} {r0 : SV} (hc : Ctr P f args0 H0 (fun r h => r = r0 ∧ h = H1))
    (ha : fst ++ (c.args.toList.map (evG [] t) ++ caps) = renL ρ args0) (hl : (c.args.toList.map (evG [] t)).all live = true) (hnd : nodupB ks = true) (hks : ks.length = H0.length) (hH : Lent ρ h H0 0) (hlen : H1.length = H0.length)
    (hK : setBK h (zipB ρ H1 0) fun h2 => putK t h2 o.dst (ren ρ r0) K) : OpC P T ops o K ⟨t, h⟩ := by
  refine OpC.callL hop hcal hg hf ks 0 (ns := []) rfl (h1 := h) (by simp) (ρ := ρ) (by rw [List.append_nil]; exact hρ) hc ha hl (by rw [List.append_nil]; exact hnd) hks hH rfl (fun r H' hk => ?_) ?_
  · rw [hk.2, List.append_nil, hlen, hks]; exact ⟨Nat.le_refl _, Nat.le_refl _⟩
  · rintro r H' ⟨rfl, rfl⟩
    exact hK
end
section
variable (ts : List Tk) (ad : Option Addr) (cap : Nat)
def curB (p : Nat) : SB := .mem 158 [.imm Tk tk0 4 tkenc ts ad cap, .i .i64 p] 1 0
def rdrB (c l : Nat) (lb : List UInt8) (e q : Int) : SB := .mem 107 [.ptr c 1 0 [], .ptr l 1 0 [], .s lb, .i .i64 e, .i .i64 q] 1 0
end
variable {ts : List Tk} {ad : Option Addr} {cap : Nat}
theorem bndCur {M p : Nat} : BndB M (curB ts ad cap p) := ⟨rfl, rfl, trivial⟩
theorem wfn {p : Nat} (hp : p ≤ ts.length) (hl : ts.length ≤ 100000) : IntKind.i64.wrap ((p : Int) + 1) = ((p + 1 : Nat) : Int) := w64 (by omega) (by omega)
theorem left_ok {p : Nat} (hp : p ≤ ts.length) (hl : ts.length ≤ 100000) : Ctr Tryz.prog 70 [.ptr 0 1 0 []] [curB ts ad cap p] (fun r h => r = .i .i64 ((ts.length - p : Nat) : Int) ∧ h = [curB ts ad cap p]) := by
  have e : IntKind.i64.wrap ((ts.length : Int) - (p : Int)) = ((ts.length - p : Nat) : Int) := by rw [w64 (by omega) (by omega)]; omega
  rw [← e]
  refine Ctr.enterH tabOkF (fn := Tryz.f70) rfl rfl rfl rfl rfl rfl ⟨bndCur, trivial⟩ (Nat.le_refl _) ?_
  refine WpC.dr tabOkF mixed 0 ?_
  refine ⟨by kernel_rfl, ?_⟩
  exact ⟨rfl, _, rfl⟩
theorem peek_ok {p : Nat} (hp : p ≤ ts.length) : Ctr Tryz.prog 124 [.ptr 0 1 0 []] [curB ts ad cap p] (fun r h => r = .tup [.agg (tkenc (tkAt ts p)), .b (decide (p < ts.length))] ∧ h = [curB ts ad cap p]) := by
  refine Ctr.enterH tabOkF (fn := Tryz.f124) rfl rfl rfl rfl rfl rfl ⟨bndCur, trivial⟩ (Nat.le_refl _) ?_
  refine WpC.dr tabOkF mixed 0 ?_
  refine ⟨by kernel_rfl, ?_⟩
  refine ⟨fun h1 => ?_, fun h1 => ?_⟩
  · have h1 : (p : Int) = (ts.length : Int) := of_decide_eq_true h1
    have e1 : tkAt ts p = tk0 := by unfold tkAt; rw [List.getD_eq_getElem?_getD, List.getElem?_eq_none (by omega)]; rfl
    rw [e1, decide_eq_false (by omega)]
    exact ⟨rfl, _, rfl⟩
  · have h1 : ¬ (p : Int) = (ts.length : Int) := of_decide_eq_false h1
    rw [decide_eq_true (by omega)]
    refine WpC.dr tabOkF mixed 0 ?_
    refine ⟨fun _ => ⟨by omega, by omega⟩, ?_⟩
    refine ⟨by kernel_rfl, ?_⟩
    exact ⟨rfl, _, rfl⟩
theorem next_ok {p : Nat} (hp : p < ts.length) (hl : ts.length ≤ 100000) : Ctr Tryz.prog 198 [.ptr 0 1 0 []] [curB ts ad cap p] (fun r h => r = .tup [.agg (tkenc (tkAt ts p)), .b true] ∧ h = [curB ts ad cap (p + 1)]) := by
  have hk := peek_ok (ad := ad) (cap := cap) (p := p) (ts := ts) (by omega)
  rw [decide_eq_true hp] at hk
  have e1 := wfn (ts := ts) (p := p) (by omega) hl
  have eB : curB ts ad cap (p + 1) = .mem 158 [.imm Tk tk0 4 tkenc ts ad cap, .i .i64 (IntKind.i64.wrap ((p : Int) + 1))] 1 0 := by rw [e1]; rfl
  rw [eB]
  refine Ctr.enterH tabOkF (fn := Tryz.f198) rfl rfl rfl rfl rfl rfl ⟨⟨rfl, rfl, trivial⟩, trivial⟩ (Nat.le_refl _) ?_
  refine OpC.callH rfl rfl rfl rfl [0] rfl hk rfl rfl rfl rfl ⟨rfl, trivial⟩ rfl ?_
  refine ⟨fun _ => ?_, fun h => no_tf h⟩
  exact ⟨rfl, _, rfl⟩
theorem name_ok {p : Nat} (hp : p ≤ ts.length) (hl : ts.length ≤ 100000) : Ctr Tryz.prog 154 [.ptr 0 1 0 []] [curB ts ad cap p]
    (fun r h => r = .tup [.s (if (tkAt ts p).k = 1 then (tkAt ts p).s else []), .b (decide ((tkAt ts p).k = 1))] ∧ h = [curB ts ad cap (if (tkAt ts p).k = 1 then p + 1 else p)]) := by
  have hk := peek_ok (ad := ad) (cap := cap) hp
  by_cases h1 : (tkAt ts p).k = 1
  · have hlt := at_lt (ts := ts) (p := p) (by rw [h1]; decide)
    rw [if_pos h1, if_pos h1, decide_eq_true h1]
    rw [decide_eq_true hlt] at hk
    have e1 := wfn (ts := ts) (p := p) (by omega) hl
    have eB : curB ts ad cap (p + 1) = .mem 158 [.imm Tk tk0 4 tkenc ts ad cap, .i .i64 (IntKind.i64.wrap ((p : Int) + 1))] 1 0 := by rw [e1]; rfl
    rw [eB]
    refine Ctr.enterH tabOkF (fn := Tryz.f154) rfl rfl rfl rfl rfl rfl ⟨⟨rfl, rfl, trivial⟩, trivial⟩ (Nat.le_refl _) ?_
    refine OpC.callH rfl rfl rfl rfl [0] rfl hk rfl rfl rfl rfl ⟨rfl, trivial⟩ rfl ?_
    refine ⟨fun h => ?_, fun _ => ⟨rfl, _, rfl⟩⟩
    have h : (!decide ((tkAt ts p).k = 1)) = true := h
    rw [decide_eq_true h1] at h; cases h
  · rw [if_neg h1, if_neg h1, decide_eq_false h1]
    refine Ctr.enterH tabOkF (fn := Tryz.f154) rfl rfl rfl rfl rfl rfl ⟨bndCur, trivial⟩ (Nat.le_refl _) ?_
    refine OpC.callH rfl rfl rfl rfl [0] rfl hk rfl rfl rfl rfl ⟨rfl, trivial⟩ rfl ?_
    refine ⟨fun _ => ⟨rfl, _, rfl⟩, fun h => ?_⟩
    have h : ((!decide (p < ts.length)) || (!decide ((tkAt ts p).k = 1))) = false := h
    rw [decide_eq_false h1, Bool.not_false, Bool.or_true] at h; cases h
theorem at_ok {p : Nat} (hp : p ≤ ts.length) (hl : ts.length ≤ 100000) : Ctr Tryz.prog 68 [.ptr 0 1 0 []] [curB ts ad cap p] (fun r h => r = .i .i64 (whF ts p) ∧ h = [curB ts ad cap p]) := by
  have hk := peek_ok (ad := ad) (cap := cap) hp
  refine Ctr.enterH tabOkF (fn := Tryz.f68) rfl rfl rfl rfl rfl rfl ⟨bndCur, trivial⟩ (Nat.le_refl _) ?_
  refine OpC.callH rfl rfl rfl rfl [0] rfl hk rfl rfl rfl rfl ⟨rfl, trivial⟩ rfl ?_
  unfold whF
  refine ⟨fun h1 => ?_, fun h1 => ?_⟩
  · have h1 : p < ts.length := of_decide_eq_true h1
    rw [if_pos h1]
    exact ⟨rfl, _, rfl⟩
  · have h1 : ¬ p < ts.length := of_decide_eq_false h1
    rw [if_neg h1]
    refine ⟨fun h2 => ?_, fun h2 => ?_⟩
    · have h2 : (ts.length : Int) = 0 := of_decide_eq_true h2
      rw [if_pos (by omega)]
      exact ⟨rfl, _, rfl⟩
    · have h2 : ¬ (ts.length : Int) = 0 := of_decide_eq_false h2
      rw [if_neg (by omega)]
      have e1 : IntKind.i64.wrap ((ts.length : Int) - 1) = ((ts.length - 1 : Nat) : Int) := by rw [w64 (by omega) (by omega)]; omega
      refine WpC.dr tabOkF mixed 1 ?_
      refine ⟨fun _ => ?_, ?_⟩
      · show (0 : Int) ≤ IntKind.i64.wrap ((ts.length : Int) - 1) ∧ IntKind.i64.wrap ((ts.length : Int) - 1) < (ts.length : Int)
        rw [e1]; omega
      refine ⟨by kernel_rfl, ?_⟩
      refine ⟨i_cg ?_, _, rfl⟩
      show IntKind.i64.wrap ((ts.getD (IntKind.i64.wrap ((ts.length : Int) - 1)).toNat tk0).a + ((ts.getD (IntKind.i64.wrap ((ts.length : Int) - 1)).toNat tk0).s.length : Int)) = _
      rw [e1, Int.toNat_natCast]; rfl
end SX
end Go.Proofs.YthkedcneehdinaaGreatDoor

/- Readers of words: Take of one mark. -/
set_option linter.unusedVariables false
set_option maxRecDepth 100000
namespace Go.Proofs.YthkedcneehdinaaGreatDoor
namespace SX
open Go Go.Proofs
variable {ts : List Tk} {ad : Option Addr} {cap : Nat}
theorem take_in {m : List UInt8} {p : Nat} (hlt : p < ts.length) (e0 : IntKind.i64.wrap ((p : Int) + ((0 : Nat) : Int)) = (p : Int)) : ((!decide ((ts.getD (IntKind.i64.wrap ((p : Int) + ((0 : Nat) : Int))).toNat tk0).s = m)) || decide ((ts.getD (IntKind.i64.wrap ((p : Int) + ((0 : Nat) : Int))).toNat tk0).k = 2)) = !takeB ts m p := by
  rw [e0, Int.toNat_natCast]
  show ((!decide ((tkAt ts p).s = m)) || decide ((tkAt ts p).k = 2)) = _
  unfold takeB
  rw [decide_eq_true hlt]
  cases decide ((tkAt ts p).s = m) <;> cases decide ((tkAt ts p).k = 2) <;> rfl
theorem take_ok {m : List UInt8} {p : Nat} {b : Bool} {q : Nat} (hb : takeB ts m p = b) (hq : q = if b then p + 1 else p) (hp : p ≤ ts.length) (hl : ts.length ≤ 100000) : Ctr Tryz.prog 188 [.ptr 0 1 0 [], .sl 1 1 0 1 (some 1) 0] [curB ts ad cap p, strB [m]] (fun r h => r = .b b ∧ h = [curB ts ad cap q, strB [m]]) := by
  have hL := left_ok (ad := ad) (cap := cap) hp hl
  have e0 : IntKind.i64.wrap ((p : Int) + ((0 : Nat) : Int)) = (p : Int) := w64 (by omega) (by omega)
  have e1 : IntKind.i64.wrap ((p : Int) + 1) = ((p + 1 : Nat) : Int) := wfn hp hl
  have eB : ∀ x : Int, x = ((p + 1 : Nat) : Int) → .mem 158 [.imm Tk tk0 4 tkenc ts ad cap, .i .i64 x] 1 0 = curB ts ad cap (p + 1) := fun x h => by rw [h]; rfl
  refine Ctr.enterH tabOkF (fn := Tryz.f188) rfl rfl rfl rfl rfl rfl ⟨bndCur, ⟨rfl, trivial⟩, trivial⟩ (Nat.le_refl _) ?_
  refine OpC.callH rfl rfl rfl rfl [0] rfl hL rfl rfl rfl rfl ⟨rfl, trivial⟩ rfl ?_
  refine ⟨fun h1 => ?_, fun h1 => ?_⟩
  · have h1 : ((ts.length - p : Nat) : Int) < 1 := of_decide_eq_true h1
    have hbf : b = false := by
      rw [← hb]; unfold takeB; rw [decide_eq_false (by omega)]; rfl
    subst hbf
    rw [hq]
    exact ⟨rfl, _, rfl⟩
  · have h1 : ¬ ((ts.length - p : Nat) : Int) < 1 := of_decide_eq_false h1
    have hlt : p < ts.length := by omega
    have ht := take_in (m := m) hlt e0
    rw [hb] at ht
    refine WpC.loop tabOkF (β := Nat) (fun k => k = 0 ∨ (k = 1 ∧ b = true)) (fun k => [(15, .i .i64 k)]) (fun _ => [curB ts ad cap p, strB [m]]) (fun k => 1 - k) 0 (2 ^ 51 - 1 - 3 - 2 ^ 14 - 2 ^ 13) (.inl rfl) ?_ ?_
    · exact ⟨rfl, ⟨⟨rfl, rfl, rfl⟩, trivial⟩, ⟨[], rfl⟩, ⟨bndCur, ⟨rfl, trivial⟩, trivial⟩, rfl⟩
    · rintro k (rfl | ⟨rfl, hbt⟩)
      · refine ⟨fun _ => ?_, fun h => no_tf h⟩
        refine ⟨fun _ => by decide, ?_⟩
        refine WpC.dr tabOkF mixed 1 ?_
        refine ⟨fun _ => ?_, ?_⟩
        · show (0 : Int) ≤ IntKind.i64.wrap ((p : Int) + ((0 : Nat) : Int)) ∧ IntKind.i64.wrap ((p : Int) + ((0 : Nat) : Int)) < (ts.length : Int)
          rw [e0]; omega
        refine ⟨by kernel_rfl, ?_⟩
        refine ⟨fun h2 => ?_, fun h2 => ?_⟩
        · have h2 := ht.symm.trans h2
          have hbf : b = false := by cases b with | false => rfl | true => cases h2
          subst hbf
          rw [hq]
          exact ⟨rfl, _, rfl⟩
        · have h2 := ht.symm.trans h2
          have hbt : b = true := by cases b with | true => rfl | false => cases h2
          exact ⟨1, .inr ⟨rfl, hbt⟩, by decide, rfl, ⟨⟨rfl, rfl, rfl⟩, trivial⟩, ⟨_, rfl⟩, ⟨bndCur, ⟨rfl, trivial⟩, trivial⟩, rfl⟩
      · refine ⟨fun h => no_ft h, fun _ => ?_⟩
        subst hbt
        rw [hq, if_pos rfl]
        refine ⟨rfl, [], ?_⟩
        rw [← eB _ e1]
        rfl
end SX
end Go.Proofs.YthkedcneehdinaaGreatDoor

/- Readers of words: the reader's small functions. -/
set_option linter.unusedVariables false
set_option maxRecDepth 100000
namespace Go.Proofs.YthkedcneehdinaaGreatDoor
namespace SX
open Go Go.Proofs
/-- What a reader stands on: a language, a row of words, a label. -/
structure Rc where
  L : Lg
  rd : Nat
  pr : Nat
  ts : List Tk
  ad : Option Addr
  cap : Nat
  lb : List UInt8
def hR (c : Rc) (s : RS) : List SB := [rowS c.L.s0 c.L.s1 c.L.s2 c.L.s3 c.L.s4 c.L.s5 c.L.s6 c.L.s7, langB c.L.h c.rd c.pr, curB c.ts c.ad c.cap s.p, rdrB 2 1 c.lb s.e s.q]
theorem bndR {c : Rc} {s : RS} : BndH 4 (hR c s) := ⟨⟨rfl, rfl, rfl, rfl, rfl, rfl, rfl, rfl, trivial⟩, ⟨rfl, rfl, rfl, rfl, trivial⟩, bndCur, ⟨rfl, rfl, rfl, rfl, rfl, trivial⟩, trivial⟩
/-- A state that may be. -/
structure Rk (c : Rc) (s : RS) : Prop where
  p : s.p ≤ c.ts.length
  l : c.ts.length ≤ 100000
variable {c : Rc} {s : RS}
theorem Rk.fail (h : Rk c s) (e q : Int) : Rk c (failF s e q) := by
  unfold failF; split
  · exact ⟨h.p, h.l⟩
  · exact h
theorem Rk.miss (h : Rk c s) : Rk c (missP c.ts s) := by unfold missP; split <;> exact h.fail _ _
theorem Rk.go (h : Rk c s) (hl : s.p < c.ts.length) : Rk c (goF s) := ⟨hl, h.l⟩
theorem take_lt {ts : List Tk} {m : List UInt8} {p : Nat} (h : takeB ts m p = true) : p < ts.length := by
  unfold takeB at h
  simp only [Bool.and_eq_true, decide_eq_true_eq] at h
  exact h.1
theorem Rk.mark (h : Rk c s) (m : List UInt8) : Rk c (markP c.ts m s) := by
  unfold markP
  split
  · split
    · rename_i ht; exact h.go (take_lt ht)
    · exact h.miss
  · exact h
theorem Rk.word (h : Rk c s) : Rk c (wordP c.ts s).2 := by
  unfold wordP
  split
  · split
    · rename_i hk; exact h.go (at_lt (by rw [hk]; decide))
    · exact h.miss
  · exact h
theorem Rk.of (h : Rk c s) (f : List UInt8 → Int) : Rk c (ofP f c.ts s).2 := by
  unfold ofP
  split
  · exact h.word.fail _ _
  · exact h.word
theorem rfail_ok (e q : Int) : Ctr Tryz.prog 71 [.ptr 3 1 0 [], .i .i64 e, .i .i64 q] (hR c s) (fun r h => r = .tup [] ∧ h = hR c (failF s e q)) := by
  obtain ⟨p, e0, q0⟩ := s
  by_cases he : e0 = 0
  · subst he
    refine Ctr.enterH tabOkF (fn := Tryz.f71) rfl rfl rfl rfl rfl rfl bndR (Nat.le_refl _) ?_
    refine ⟨fun _ => ?_, fun h => no_tf h⟩
    exact ⟨rfl, _, rfl⟩
  · have e1 : failF ⟨p, e0, q0⟩ e q = ⟨p, e0, q0⟩ := fail_dead he e q
    rw [e1]
    refine Ctr.enterH tabOkF (fn := Tryz.f71) rfl rfl rfl rfl rfl rfl bndR (Nat.le_refl _) ?_
    refine ⟨fun h => absurd (of_decide_eq_true h) he, fun _ => ?_⟩
    exact ⟨rfl, _, rfl⟩
theorem miss_ok (hk : Rk c s) : Ctr Tryz.prog 155 [.ptr 3 1 0 []] (hR c s) (fun r h => r = .tup [] ∧ h = hR c (missP c.ts s)) := by
  refine Ctr.enterH tabOkF (fn := Tryz.f155) rfl rfl rfl rfl rfl rfl bndR (Nat.le_refl _) ?_
  refine OpC.callH rfl rfl rfl rfl [2] rfl (left_ok (ad := c.ad) (cap := c.cap) hk.p hk.l) rfl rfl rfl rfl ⟨rfl, trivial⟩ rfl ?_
  unfold missP
  refine ⟨fun h1 => ?_, fun h1 => ?_⟩
  · have h1 : ((c.ts.length - s.p : Nat) : Int) = 0 := of_decide_eq_true h1
    have h2 : ¬ s.p < c.ts.length := by omega
    rw [if_neg h2]
    refine OpC.callH rfl rfl rfl rfl [2] rfl (at_ok (ad := c.ad) (cap := c.cap) hk.p hk.l) rfl rfl rfl rfl ⟨rfl, trivial⟩ rfl ?_
    refine OpC.callH rfl rfl rfl rfl [0, 1, 2, 3] rfl (rfail_ok 24 (whF c.ts s.p)) rfl rfl rfl rfl ⟨rfl, rfl, rfl, rfl, trivial⟩ rfl ?_
    exact ⟨rfl, _, rfl⟩
  · have h1 : ¬ ((c.ts.length - s.p : Nat) : Int) = 0 := of_decide_eq_false h1
    rw [if_pos (by have := hk.p; omega)]
    refine OpC.callH rfl rfl rfl rfl [2] rfl (at_ok (ad := c.ad) (cap := c.cap) hk.p hk.l) rfl rfl rfl rfl ⟨rfl, trivial⟩ rfl ?_
    refine OpC.callH rfl rfl rfl rfl [0, 1, 2, 3] rfl (rfail_ok 22 (whF c.ts s.p)) rfl rfl rfl rfl ⟨rfl, rfl, rfl, rfl, trivial⟩ rfl ?_
    exact ⟨rfl, _, rfl⟩
theorem nmd_ok (hk : Rk c s) : Ctr Tryz.prog 195 [.ptr 3 1 0 []] (hR c s) (fun r h => r = .b (nmdB c.ts s) ∧ h = hR c s) := by
  have e : nmdB c.ts s = (decide (s.p < c.ts.length) && decide ((tkAt c.ts s.p).k = 1)) := by
    unfold nmdB
    by_cases h3 : (tkAt c.ts s.p).k = 1
    · rw [decide_eq_true h3, decide_eq_true (at_lt (by rw [h3]; decide))]; rfl
    · rw [decide_eq_false h3, Bool.and_false]
  rw [e]
  refine Ctr.enterH tabOkF (fn := Tryz.f195) rfl rfl rfl rfl rfl rfl bndR (Nat.le_refl _) ?_
  refine OpC.callH rfl rfl rfl rfl [2] rfl (peek_ok (ad := c.ad) (cap := c.cap) hk.p) rfl rfl rfl rfl ⟨rfl, trivial⟩ rfl ?_
  exact ⟨rfl, _, rfl⟩
theorem rmark_w (hk : Rk c s) (m : List UInt8) : Ctr Tryz.prog 137 [.ptr 3 1 0 [], .s m] (hR c s) (fun r h => r = .tup [] ∧ h = hR c (markP c.ts m s)) := by
  obtain ⟨p, e0, q0⟩ := s
  by_cases he : e0 = 0
  · subst he
    unfold markP
    rw [if_pos rfl]
    refine Ctr.enterH tabOkF (fn := Tryz.f137) rfl rfl rfl rfl rfl rfl bndR (Nat.le_refl _) ?_
    refine OpC.open 13 rfl rfl rfl ?_
    refine OpC.open 14 rfl rfl rfl ?_
    refine OpC.guardT tabOkF rfl rfl ?_
    refine OpC.guardT tabOkF rfl rfl ?_
    cases hb : takeB c.ts m p with
    | true =>
      refine OpC.callH rfl rfl rfl rfl [2, 4] rfl (take_ok (ad := c.ad) (cap := c.cap) (m := m) hb rfl hk.p hk.l) rfl rfl rfl rfl ⟨rfl, rfl, trivial⟩ rfl ?_
      refine ⟨fun h => no_ft h, fun _ => ?_⟩
      exact ⟨rfl, _, rfl⟩
    | false =>
      refine OpC.callH rfl rfl rfl rfl [2, 4] rfl (take_ok (ad := c.ad) (cap := c.cap) (m := m) hb rfl hk.p hk.l) rfl rfl rfl rfl ⟨rfl, rfl, trivial⟩ rfl ?_
      refine ⟨fun _ => ?_, fun h => no_tf h⟩
      refine OpC.callH rfl rfl rfl rfl [0, 1, 2, 3] rfl (miss_ok (s := ⟨p, 0, q0⟩) hk) rfl rfl rfl rfl ⟨rfl, rfl, rfl, rfl, trivial⟩ rfl ?_
      exact ⟨rfl, _, rfl⟩
  · have e1 : markP c.ts m ⟨p, e0, q0⟩ = ⟨p, e0, q0⟩ := by unfold markP; rw [if_neg he]
    rw [e1]
    refine Ctr.enterH tabOkF (fn := Tryz.f137) rfl rfl rfl rfl rfl rfl bndR (Nat.le_refl _) ?_
    have hg : (decide (e0 = 0) == true) = false := by rw [decide_eq_false he]; rfl
    refine OpC.skipG rfl hg (.raw (.pointer none)) ?_
    refine OpC.skipG rfl hg (.b false) ?_
    refine ⟨fun h => ?_, fun _ => ⟨rfl, _, rfl⟩⟩
    have h : (decide (e0 = 0) && !false) = true := h
    rw [decide_eq_false he] at h; cases h
theorem rword_w (hk : Rk c s) : Ctr Tryz.prog 90 [.ptr 3 1 0 []] (hR c s) (fun r h => r = .tup [.s (wordP c.ts s).1, .i .i64 (whF c.ts s.p)] ∧ h = hR c (wordP c.ts s).2) := by
  obtain ⟨p, e0, q0⟩ := s
  have hat := at_ok (ad := c.ad) (cap := c.cap) hk.p hk.l
  by_cases he : e0 = 0
  · subst he
    unfold wordP
    rw [if_pos rfl]
    have hn := name_ok (ad := c.ad) (cap := c.cap) hk.p hk.l
    by_cases h1 : (tkAt c.ts p).k = 1
    · have h1' : (tkAt c.ts (⟨p, 0, q0⟩ : RS).p).k = 1 := h1
      rw [if_pos h1'] at hn ⊢
      rw [if_pos h1', decide_eq_true h1'] at hn
      refine Ctr.enterH tabOkF (fn := Tryz.f90) rfl rfl rfl rfl rfl rfl bndR (Nat.le_refl _) ?_
      refine OpC.callH rfl rfl rfl rfl [2] rfl hat rfl rfl rfl rfl ⟨rfl, trivial⟩ rfl ?_
      refine ⟨fun h => no_ft h, fun _ => ?_⟩
      refine OpC.callH rfl rfl rfl rfl [2] rfl hn rfl rfl rfl rfl ⟨rfl, trivial⟩ rfl ?_
      refine ⟨fun h => no_ft h, fun _ => ?_⟩
      exact ⟨rfl, _, rfl⟩
    · have h1' : ¬ (tkAt c.ts (⟨p, 0, q0⟩ : RS).p).k = 1 := h1
      rw [if_neg h1'] at hn ⊢
      rw [if_neg h1', decide_eq_false h1'] at hn
      refine Ctr.enterH tabOkF (fn := Tryz.f90) rfl rfl rfl rfl rfl rfl bndR (Nat.le_refl _) ?_
      refine OpC.callH rfl rfl rfl rfl [2] rfl hat rfl rfl rfl rfl ⟨rfl, trivial⟩ rfl ?_
      refine ⟨fun h => no_ft h, fun _ => ?_⟩
      refine OpC.callH rfl rfl rfl rfl [2] rfl hn rfl rfl rfl rfl ⟨rfl, trivial⟩ rfl ?_
      refine ⟨fun _ => ?_, fun h => no_tf h⟩
      refine OpC.callH rfl rfl rfl rfl [0, 1, 2, 3] rfl (miss_ok (s := ⟨p, 0, q0⟩) hk) rfl rfl rfl rfl ⟨rfl, rfl, rfl, rfl, trivial⟩ rfl ?_
      exact ⟨rfl, _, rfl⟩
  · have e1 : wordP c.ts ⟨p, e0, q0⟩ = ([], ⟨p, e0, q0⟩) := by unfold wordP; rw [if_neg he]
    rw [e1]
    refine Ctr.enterH tabOkF (fn := Tryz.f90) rfl rfl rfl rfl rfl rfl bndR (Nat.le_refl _) ?_
    refine OpC.callH rfl rfl rfl rfl [2] rfl hat rfl rfl rfl rfl ⟨rfl, trivial⟩ rfl ?_
    refine ⟨fun _ => ⟨rfl, _, rfl⟩, fun h => ?_⟩
    have h : (!decide (e0 = 0)) = false := h
    rw [decide_eq_false he] at h; cases h
end SX
end Go.Proofs.YthkedcneehdinaaGreatDoor

/- Which register a name is. Cut from XRg. -/
set_option linter.unusedVariables false
set_option maxRecDepth 100000
namespace Go.Proofs.YthkedcneehdinaaGreatDoor
namespace SX
open Go Go.Proofs
set_option maxHeartbeats 1000000 in
theorem index_s (s0 s1 s2 s3 s4 s5 s6 s7 v : List UInt8) : Ctr Tryz.prog 102 [.sl 0 1 0 8 (some 8) 0, .s v] [rowS s0 s1 s2 s3 s4 s5 s6 s7] (fun r h => r = .i .i64 (idxF s0 s1 s2 s3 s4 s5 s6 s7 v) ∧ h = [rowS s0 s1 s2 s3 s4 s5 s6 s7]) := by
  refine Ctr.enterG tabOkF (fn := Tryz.f102) rfl rfl rfl rfl rfl rfl ⟨⟨rfl, rfl, rfl, rfl, rfl, rfl, rfl, rfl, trivial⟩, trivial⟩ ?_
  refine WpC.loop tabOkF (β := Nat) (fun k => k ≤ 8 ∧ (0 < k → v ≠ s0) ∧ (1 < k → v ≠ s1) ∧ (2 < k → v ≠ s2) ∧ (3 < k → v ≠ s3) ∧ (4 < k → v ≠ s4) ∧ (5 < k → v ≠ s5) ∧ (6 < k → v ≠ s6) ∧ (7 < k → v ≠ s7)) (fun k => [(8, .i .i64 k)]) (fun _ => [rowS s0 s1 s2 s3 s4 s5 s6 s7]) (fun k => 8 - k) 0 524080 ⟨by decide, fun h => absurd h (by decide), fun h => absurd h (by decide), fun h => absurd h (by decide), fun h => absurd h (by decide), fun h => absurd h (by decide), fun h => absurd h (by decide), fun h => absurd h (by decide), fun h => absurd h (by decide)⟩ ?_ ?_
  · exact ⟨rfl, ⟨⟨rfl, rfl, rfl⟩, trivial⟩, ⟨[], rfl⟩, ⟨⟨rfl, rfl, rfl, rfl, rfl, rfl, rfl, rfl, trivial⟩, trivial⟩, rfl⟩
  · rintro k ⟨hk, q0, q1, q2, q3, q4, q5, q6, q7⟩
    rcases (by omega : k = 0 ∨ k = 1 ∨ k = 2 ∨ k = 3 ∨ k = 4 ∨ k = 5 ∨ k = 6 ∨ k = 7 ∨ k = 8) with rfl | rfl | rfl | rfl | rfl | rfl | rfl | rfl | rfl
    · refine ⟨fun _ => ?_, fun h => absurd h (by decide)⟩
      refine ⟨fun _ => by decide, ?_⟩
      refine ⟨fun h => ?_, fun h => ?_⟩
      · have e : v = s0 := of_decide_eq_true h
        refine ⟨i_cg ?_, _, rfl⟩
        unfold idxF
        rw [if_pos e]
        rfl
      · have e0 : ¬ v = s0 := of_decide_eq_false h
        exact ⟨1, ⟨by decide, fun _ => e0, fun h => absurd h (by decide), fun h => absurd h (by decide), fun h => absurd h (by decide), fun h => absurd h (by decide), fun h => absurd h (by decide), fun h => absurd h (by decide), fun h => absurd h (by decide)⟩, by decide, rfl, ⟨⟨rfl, rfl, rfl⟩, trivial⟩, ⟨[], rfl⟩, ⟨⟨rfl, rfl, rfl, rfl, rfl, rfl, rfl, rfl, trivial⟩, trivial⟩, rfl⟩
    · have e0 := q0 (by decide)
      refine ⟨fun _ => ?_, fun h => absurd h (by decide)⟩
      refine ⟨fun _ => by decide, ?_⟩
      refine ⟨fun h => ?_, fun h => ?_⟩
      · have e : v = s1 := of_decide_eq_true h
        refine ⟨i_cg ?_, _, rfl⟩
        unfold idxF
        rw [if_neg e0]
        rw [if_pos e]
        rfl
      · have e1 : ¬ v = s1 := of_decide_eq_false h
        exact ⟨2, ⟨by decide, fun _ => e0, fun _ => e1, fun h => absurd h (by decide), fun h => absurd h (by decide), fun h => absurd h (by decide), fun h => absurd h (by decide), fun h => absurd h (by decide), fun h => absurd h (by decide)⟩, by decide, rfl, ⟨⟨rfl, rfl, rfl⟩, trivial⟩, ⟨[], rfl⟩, ⟨⟨rfl, rfl, rfl, rfl, rfl, rfl, rfl, rfl, trivial⟩, trivial⟩, rfl⟩
    · have e0 := q0 (by decide)
      have e1 := q1 (by decide)
      refine ⟨fun _ => ?_, fun h => absurd h (by decide)⟩
      refine ⟨fun _ => by decide, ?_⟩
      refine ⟨fun h => ?_, fun h => ?_⟩
      · have e : v = s2 := of_decide_eq_true h
        refine ⟨i_cg ?_, _, rfl⟩
        unfold idxF
        rw [if_neg e0]
        rw [if_neg e1]
        rw [if_pos e]
        rfl
      · have e2 : ¬ v = s2 := of_decide_eq_false h
        exact ⟨3, ⟨by decide, fun _ => e0, fun _ => e1, fun _ => e2, fun h => absurd h (by decide), fun h => absurd h (by decide), fun h => absurd h (by decide), fun h => absurd h (by decide), fun h => absurd h (by decide)⟩, by decide, rfl, ⟨⟨rfl, rfl, rfl⟩, trivial⟩, ⟨[], rfl⟩, ⟨⟨rfl, rfl, rfl, rfl, rfl, rfl, rfl, rfl, trivial⟩, trivial⟩, rfl⟩
    · have e0 := q0 (by decide)
      have e1 := q1 (by decide)
      have e2 := q2 (by decide)
      refine ⟨fun _ => ?_, fun h => absurd h (by decide)⟩
      refine ⟨fun _ => by decide, ?_⟩
      refine ⟨fun h => ?_, fun h => ?_⟩
      · have e : v = s3 := of_decide_eq_true h
        refine ⟨i_cg ?_, _, rfl⟩
        unfold idxF
        rw [if_neg e0]
        rw [if_neg e1]
        rw [if_neg e2]
        rw [if_pos e]
        rfl
      · have e3 : ¬ v = s3 := of_decide_eq_false h
        exact ⟨4, ⟨by decide, fun _ => e0, fun _ => e1, fun _ => e2, fun _ => e3, fun h => absurd h (by decide), fun h => absurd h (by decide), fun h => absurd h (by decide), fun h => absurd h (by decide)⟩, by decide, rfl, ⟨⟨rfl, rfl, rfl⟩, trivial⟩, ⟨[], rfl⟩, ⟨⟨rfl, rfl, rfl, rfl, rfl, rfl, rfl, rfl, trivial⟩, trivial⟩, rfl⟩
    · have e0 := q0 (by decide)
      have e1 := q1 (by decide)
      have e2 := q2 (by decide)
      have e3 := q3 (by decide)
      refine ⟨fun _ => ?_, fun h => absurd h (by decide)⟩
      refine ⟨fun _ => by decide, ?_⟩
      refine ⟨fun h => ?_, fun h => ?_⟩
      · have e : v = s4 := of_decide_eq_true h
        refine ⟨i_cg ?_, _, rfl⟩
        unfold idxF
        rw [if_neg e0]
        rw [if_neg e1]
        rw [if_neg e2]
        rw [if_neg e3]
        rw [if_pos e]
        rfl
      · have e4 : ¬ v = s4 := of_decide_eq_false h
        exact ⟨5, ⟨by decide, fun _ => e0, fun _ => e1, fun _ => e2, fun _ => e3, fun _ => e4, fun h => absurd h (by decide), fun h => absurd h (by decide), fun h => absurd h (by decide)⟩, by decide, rfl, ⟨⟨rfl, rfl, rfl⟩, trivial⟩, ⟨[], rfl⟩, ⟨⟨rfl, rfl, rfl, rfl, rfl, rfl, rfl, rfl, trivial⟩, trivial⟩, rfl⟩
    · have e0 := q0 (by decide)
      have e1 := q1 (by decide)
      have e2 := q2 (by decide)
      have e3 := q3 (by decide)
      have e4 := q4 (by decide)
      refine ⟨fun _ => ?_, fun h => absurd h (by decide)⟩
      refine ⟨fun _ => by decide, ?_⟩
      refine ⟨fun h => ?_, fun h => ?_⟩
      · have e : v = s5 := of_decide_eq_true h
        refine ⟨i_cg ?_, _, rfl⟩
        unfold idxF
        rw [if_neg e0]
        rw [if_neg e1]
        rw [if_neg e2]
        rw [if_neg e3]
        rw [if_neg e4]
        rw [if_pos e]
        rfl
      · have e5 : ¬ v = s5 := of_decide_eq_false h
        exact ⟨6, ⟨by decide, fun _ => e0, fun _ => e1, fun _ => e2, fun _ => e3, fun _ => e4, fun _ => e5, fun h => absurd h (by decide), fun h => absurd h (by decide)⟩, by decide, rfl, ⟨⟨rfl, rfl, rfl⟩, trivial⟩, ⟨[], rfl⟩, ⟨⟨rfl, rfl, rfl, rfl, rfl, rfl, rfl, rfl, trivial⟩, trivial⟩, rfl⟩
    · have e0 := q0 (by decide)
      have e1 := q1 (by decide)
      have e2 := q2 (by decide)
      have e3 := q3 (by decide)
      have e4 := q4 (by decide)
      have e5 := q5 (by decide)
      refine ⟨fun _ => ?_, fun h => absurd h (by decide)⟩
      refine ⟨fun _ => by decide, ?_⟩
      refine ⟨fun h => ?_, fun h => ?_⟩
      · have e : v = s6 := of_decide_eq_true h
        refine ⟨i_cg ?_, _, rfl⟩
        unfold idxF
        rw [if_neg e0]
        rw [if_neg e1]
        rw [if_neg e2]
        rw [if_neg e3]
        rw [if_neg e4]
        rw [if_neg e5]
        rw [if_pos e]
        rfl
      · have e6 : ¬ v = s6 := of_decide_eq_false h
        exact ⟨7, ⟨by decide, fun _ => e0, fun _ => e1, fun _ => e2, fun _ => e3, fun _ => e4, fun _ => e5, fun _ => e6, fun h => absurd h (by decide)⟩, by decide, rfl, ⟨⟨rfl, rfl, rfl⟩, trivial⟩, ⟨[], rfl⟩, ⟨⟨rfl, rfl, rfl, rfl, rfl, rfl, rfl, rfl, trivial⟩, trivial⟩, rfl⟩
    · have e0 := q0 (by decide)
      have e1 := q1 (by decide)
      have e2 := q2 (by decide)
      have e3 := q3 (by decide)
      have e4 := q4 (by decide)
      have e5 := q5 (by decide)
      have e6 := q6 (by decide)
      refine ⟨fun _ => ?_, fun h => absurd h (by decide)⟩
      refine ⟨fun _ => by decide, ?_⟩
      refine ⟨fun h => ?_, fun h => ?_⟩
      · have e : v = s7 := of_decide_eq_true h
        refine ⟨i_cg ?_, _, rfl⟩
        unfold idxF
        rw [if_neg e0]
        rw [if_neg e1]
        rw [if_neg e2]
        rw [if_neg e3]
        rw [if_neg e4]
        rw [if_neg e5]
        rw [if_neg e6]
        rw [if_pos e]
        rfl
      · have e7 : ¬ v = s7 := of_decide_eq_false h
        exact ⟨8, ⟨by decide, fun _ => e0, fun _ => e1, fun _ => e2, fun _ => e3, fun _ => e4, fun _ => e5, fun _ => e6, fun _ => e7⟩, by decide, rfl, ⟨⟨rfl, rfl, rfl⟩, trivial⟩, ⟨[], rfl⟩, ⟨⟨rfl, rfl, rfl, rfl, rfl, rfl, rfl, rfl, trivial⟩, trivial⟩, rfl⟩
    · have e0 := q0 (by decide)
      have e1 := q1 (by decide)
      have e2 := q2 (by decide)
      have e3 := q3 (by decide)
      have e4 := q4 (by decide)
      have e5 := q5 (by decide)
      have e6 := q6 (by decide)
      have e7 := q7 (by decide)
      refine ⟨fun h => absurd h (by decide), fun _ => ⟨i_cg ?_, _, rfl⟩⟩
      unfold idxF
      rw [if_neg e0, if_neg e1, if_neg e2, if_neg e3, if_neg e4, if_neg e5, if_neg e6, if_neg e7]
theorem lreg_ok (s0 s1 s2 s3 s4 s5 s6 s7 h v : List UInt8) (rd pr : Nat) : Ctr Tryz.prog 54 [.ptr 1 1 0 [], .s v] [rowS s0 s1 s2 s3 s4 s5 s6 s7, langB h rd pr] (fun r h' => r = .i .i64 (idxF s0 s1 s2 s3 s4 s5 s6 s7 v) ∧ h' = [rowS s0 s1 s2 s3 s4 s5 s6 s7, langB h rd pr]) := by
  refine Ctr.enterG tabOkF (fn := Tryz.f54) rfl rfl rfl rfl rfl rfl bndLang ?_
  refine OpC.callG rfl rfl rfl rfl rfl rfl (fun _ => Ctr.spread (index_s s0 s1 s2 s3 s4 s5 s6 s7 v) (fun ρ => rfl) _ [0] rfl rfl ⟨rfl, trivial⟩ rfl) ?_
  exact ⟨rfl, _, rfl⟩
end SX
end Go.Proofs.YthkedcneehdinaaGreatDoor

/- Readers of words: names of some, numbers, places of memory. -/
set_option linter.unusedVariables false
set_option maxRecDepth 100000
namespace Go.Proofs.YthkedcneehdinaaGreatDoor
namespace SX
open Go Go.Proofs
variable {c : Rc} {s : RS}
theorem of_lt {f : List UInt8 → Int} (h : f (wordP c.ts s).1 < 0) : ofP f c.ts s = (0, failF (wordP c.ts s).2 21 (whF c.ts s.p)) := by unfold ofP; rw [if_pos h]
theorem of_ge {f : List UInt8 → Int} (h : ¬ f (wordP c.ts s).1 < 0) : ofP f c.ts s = (f (wordP c.ts s).1, (wordP c.ts s).2) := by unfold ofP; rw [if_neg h]
/-- One of some names, told by a function. -/
theorem of_fn (hk : Rk c s) (fid : Nat) (f : List UInt8 → Int) (hf : ∀ v, CtrV Tryz.prog fid [.s v] (.i .i64 (f v))) : Ctr Tryz.prog 159 [.ptr 3 1 0 [], .fn fid []] (hR c s) (fun r h => r = .i .i64 (ofP f c.ts s).1 ∧ h = hR c (ofP f c.ts s).2) := by
  have hw := rword_w hk
  by_cases h0 : f (wordP c.ts s).1 < 0
  · rw [of_lt h0]
    refine Ctr.enterH tabOkF (fn := Tryz.f159) rfl rfl rfl rfl rfl rfl bndR (Nat.le_refl _) ?_
    refine OpC.callH rfl rfl rfl rfl [0, 1, 2, 3] rfl hw rfl rfl rfl rfl ⟨rfl, rfl, rfl, rfl, trivial⟩ rfl ?_
    refine OpC.callV rfl rfl rfl rfl rfl rfl rfl (fun _ => hf _) ?_
    refine ⟨fun _ => ?_, fun h => absurd h0 (of_decide_eq_false h)⟩
    refine OpC.callH rfl rfl rfl rfl [0, 1, 2, 3] rfl (rfail_ok (s := (wordP c.ts s).2) 21 (whF c.ts s.p)) rfl rfl rfl rfl ⟨rfl, rfl, rfl, rfl, trivial⟩ rfl ?_
    exact ⟨rfl, _, rfl⟩
  · rw [of_ge h0]
    refine Ctr.enterH tabOkF (fn := Tryz.f159) rfl rfl rfl rfl rfl rfl bndR (Nat.le_refl _) ?_
    refine OpC.callH rfl rfl rfl rfl [0, 1, 2, 3] rfl hw rfl rfl rfl rfl ⟨rfl, rfl, rfl, rfl, trivial⟩ rfl ?_
    refine OpC.callV rfl rfl rfl rfl rfl rfl rfl (fun _ => hf _) ?_
    refine ⟨fun h => absurd (of_decide_eq_true h) h0, fun _ => ?_⟩
    exact ⟨rfl, _, rfl⟩
/-- A register's name. -/
theorem of_reg (hk : Rk c s) : Ctr Tryz.prog 159 [.ptr 3 1 0 [], .bm 54 (.ptr 1 1 0 [])] (hR c s) (fun r h => r = .i .i64 (regP c.L c.ts s).1 ∧ h = hR c (regP c.L c.ts s).2) := by
  have hw := rword_w hk
  have hl : ∀ v, Ctr Tryz.prog 54 [.ptr 1 1 0 [], .s v] [rowS c.L.s0 c.L.s1 c.L.s2 c.L.s3 c.L.s4 c.L.s5 c.L.s6 c.L.s7, langB c.L.h c.rd c.pr] (fun r h' => r = .i .i64 (c.L.ix v) ∧ h' = [rowS c.L.s0 c.L.s1 c.L.s2 c.L.s3 c.L.s4 c.L.s5 c.L.s6 c.L.s7, langB c.L.h c.rd c.pr]) := fun v => lreg_ok _ _ _ _ _ _ _ _ _ v _ _
  unfold regP
  by_cases h0 : c.L.ix (wordP c.ts s).1 < 0
  · rw [of_lt h0]
    refine Ctr.enterH tabOkF (fn := Tryz.f159) rfl rfl rfl rfl rfl rfl bndR (Nat.le_refl _) ?_
    refine OpC.callH rfl rfl rfl rfl [0, 1, 2, 3] rfl hw rfl rfl rfl rfl ⟨rfl, rfl, rfl, rfl, trivial⟩ rfl ?_
    refine OpC.callH rfl rfl rfl rfl [0, 1] rfl (hl _) rfl rfl rfl rfl ⟨rfl, rfl, trivial⟩ rfl ?_
    refine ⟨fun _ => ?_, fun h => absurd h0 (of_decide_eq_false h)⟩
    refine OpC.callH rfl rfl rfl rfl [0, 1, 2, 3] rfl (rfail_ok (s := (wordP c.ts s).2) 21 (whF c.ts s.p)) rfl rfl rfl rfl ⟨rfl, rfl, rfl, rfl, trivial⟩ rfl ?_
    exact ⟨rfl, _, rfl⟩
  · rw [of_ge h0]
    refine Ctr.enterH tabOkF (fn := Tryz.f159) rfl rfl rfl rfl rfl rfl bndR (Nat.le_refl _) ?_
    refine OpC.callH rfl rfl rfl rfl [0, 1, 2, 3] rfl hw rfl rfl rfl rfl ⟨rfl, rfl, rfl, rfl, trivial⟩ rfl ?_
    refine OpC.callH rfl rfl rfl rfl [0, 1] rfl (hl _) rfl rfl rfl rfl ⟨rfl, rfl, trivial⟩ rfl ?_
    refine ⟨fun h => absurd (of_decide_eq_true h) h0, fun _ => ?_⟩
    exact ⟨rfl, _, rfl⟩
theorem rreg_w (hk : Rk c s) : Ctr Tryz.prog 136 [.ptr 3 1 0 []] (hR c s) (fun r h => r = .i .i64 (regP c.L c.ts s).1 ∧ h = hR c (regP c.L c.ts s).2) := by
  refine Ctr.enterH tabOkF (fn := Tryz.f136) rfl rfl rfl rfl rfl rfl bndR (Nat.le_refl _) ?_
  refine OpC.callH rfl rfl rfl rfl [0, 1, 2, 3] rfl (of_reg hk) rfl rfl rfl rfl ⟨rfl, rfl, rfl, rfl, trivial⟩ rfl ?_
  exact ⟨rfl, _, rfl⟩
theorem Rk.reg (h : Rk c s) : Rk c (regP c.L c.ts s).2 := h.of _
theorem Rk.nm (h : Rk c s) (g : Int) : Rk c (nmP c.ts g s).2 := by
  unfold nmP
  split
  · rename_i hk; exact h.go (at_lt (by rw [hk]; decide))
  · exact h.miss
theorem Rk.num (h : Rk c s) : Rk c (numP c.ts s).2 := by
  unfold numP
  split
  · split
    · rename_i ht; exact (h.go (take_lt ht)).nm _
    · exact h.nm _
  · exact h
theorem Rk.imm (h : Rk c s) : Rk c (immP c.L c.ts s).2 := by
  unfold immP
  split
  · exact h.num
  · exact (h.mark _).num
set_option maxHeartbeats 1000000 in
theorem rnum_w (hk : Rk c s) : Ctr Tryz.prog 158 [.ptr 3 1 0 []] (hR c s) (fun r h => r = .i .i64 (numP c.ts s).1 ∧ h = hR c (numP c.ts s).2) := by
  obtain ⟨p, e0, q0⟩ := s
  by_cases he : e0 = 0
  · subst he
    cases hb : takeB c.ts [45] p with
    | true =>
      have hp : p < c.ts.length := take_lt hb
      have hk2 : Rk c ⟨p + 1, 0, q0⟩ := ⟨hp, hk.l⟩
      have e1 : numP c.ts ⟨p, 0, q0⟩ = nmP c.ts (-1) ⟨p + 1, 0, q0⟩ := by unfold numP; rw [if_pos rfl]; exact if_pos hb
      rw [e1]
      unfold nmP
      have hpk := peek_ok (ad := c.ad) (cap := c.cap) hk2.p
      by_cases h2 : (tkAt c.ts (p + 1)).k = 2
      · have hlt := at_lt (ts := c.ts) (p := p + 1) (by rw [h2]; decide)
        have h2' : (tkAt c.ts (⟨p + 1, 0, q0⟩ : RS).p).k = 2 := h2
        rw [if_pos h2']
        rw [decide_eq_true (show (⟨p + 1, 0, q0⟩ : RS).p < c.ts.length from hlt)] at hpk
        refine Ctr.enterH tabOkF (fn := Tryz.f158) rfl rfl rfl rfl rfl rfl bndR (Nat.le_refl _) ?_
        refine ⟨fun h => no_ft h, fun _ => ?_⟩
        refine OpC.callH rfl rfl rfl rfl [2, 4] rfl (take_ok (ad := c.ad) (cap := c.cap) hb rfl hk.p hk.l) rfl rfl rfl rfl ⟨rfl, rfl, trivial⟩ rfl ?_
        refine ⟨fun _ => ?_, fun h => no_tf h⟩
        refine OpC.callH rfl rfl rfl rfl [2] rfl hpk rfl rfl rfl rfl ⟨rfl, trivial⟩ rfl ?_
        refine ⟨fun h => ?_, fun _ => ?_⟩
        · have h : (false || (!decide ((tkAt c.ts (p + 1)).k = 2))) = true := h
          rw [decide_eq_true h2] at h; cases h
        refine OpC.callH rfl rfl rfl rfl [2] rfl (next_ok (ad := c.ad) (cap := c.cap) hlt hk.l) rfl rfl rfl rfl ⟨rfl, trivial⟩ rfl ?_
        exact ⟨rfl, _, rfl⟩
      · have h2' : ¬ (tkAt c.ts (⟨p + 1, 0, q0⟩ : RS).p).k = 2 := h2
        rw [if_neg h2']
        refine Ctr.enterH tabOkF (fn := Tryz.f158) rfl rfl rfl rfl rfl rfl bndR (Nat.le_refl _) ?_
        refine ⟨fun h => no_ft h, fun _ => ?_⟩
        refine OpC.callH rfl rfl rfl rfl [2, 4] rfl (take_ok (ad := c.ad) (cap := c.cap) hb rfl hk.p hk.l) rfl rfl rfl rfl ⟨rfl, rfl, trivial⟩ rfl ?_
        refine ⟨fun _ => ?_, fun h => no_tf h⟩
        refine OpC.callH rfl rfl rfl rfl [2] rfl hpk rfl rfl rfl rfl ⟨rfl, trivial⟩ rfl ?_
        refine ⟨fun _ => ?_, fun h => ?_⟩
        · refine OpC.callH rfl rfl rfl rfl [0, 1, 2, 3] rfl (miss_ok (s := ⟨p + 1, 0, q0⟩) hk2) rfl rfl rfl rfl ⟨rfl, rfl, rfl, rfl, trivial⟩ rfl ?_
          exact ⟨rfl, _, rfl⟩
        · have h : ((!decide (p + 1 < c.ts.length)) || (!decide ((tkAt c.ts (p + 1)).k = 2))) = false := h
          rw [decide_eq_false h2, Bool.not_false, Bool.or_true] at h; cases h
    | false =>
      have e1 : numP c.ts ⟨p, 0, q0⟩ = nmP c.ts 1 ⟨p, 0, q0⟩ := by unfold numP; rw [if_pos rfl]; exact if_neg (by rw [hb]; decide)
      rw [e1]
      unfold nmP
      have hpk := peek_ok (ad := c.ad) (cap := c.cap) hk.p
      by_cases h2 : (tkAt c.ts p).k = 2
      · have hlt := at_lt (ts := c.ts) (p := p) (by rw [h2]; decide)
        have h2' : (tkAt c.ts (⟨p, 0, q0⟩ : RS).p).k = 2 := h2
        rw [if_pos h2']
        rw [decide_eq_true (show (⟨p, 0, q0⟩ : RS).p < c.ts.length from hlt)] at hpk
        refine Ctr.enterH tabOkF (fn := Tryz.f158) rfl rfl rfl rfl rfl rfl bndR (Nat.le_refl _) ?_
        refine ⟨fun h => no_ft h, fun _ => ?_⟩
        refine OpC.callH rfl rfl rfl rfl [2, 4] rfl (take_ok (ad := c.ad) (cap := c.cap) hb rfl hk.p hk.l) rfl rfl rfl rfl ⟨rfl, rfl, trivial⟩ rfl ?_
        refine ⟨fun h => no_ft h, fun _ => ?_⟩
        refine OpC.callH rfl rfl rfl rfl [2] rfl hpk rfl rfl rfl rfl ⟨rfl, trivial⟩ rfl ?_
        refine ⟨fun h => ?_, fun _ => ?_⟩
        · have h : (false || (!decide ((tkAt c.ts p).k = 2))) = true := h
          rw [decide_eq_true h2] at h; cases h
        refine OpC.callH rfl rfl rfl rfl [2] rfl (next_ok (ad := c.ad) (cap := c.cap) hlt hk.l) rfl rfl rfl rfl ⟨rfl, trivial⟩ rfl ?_
        exact ⟨rfl, _, rfl⟩
      · have h2' : ¬ (tkAt c.ts (⟨p, 0, q0⟩ : RS).p).k = 2 := h2
        rw [if_neg h2']
        refine Ctr.enterH tabOkF (fn := Tryz.f158) rfl rfl rfl rfl rfl rfl bndR (Nat.le_refl _) ?_
        refine ⟨fun h => no_ft h, fun _ => ?_⟩
        refine OpC.callH rfl rfl rfl rfl [2, 4] rfl (take_ok (ad := c.ad) (cap := c.cap) hb rfl hk.p hk.l) rfl rfl rfl rfl ⟨rfl, rfl, trivial⟩ rfl ?_
        refine ⟨fun h => no_ft h, fun _ => ?_⟩
        refine OpC.callH rfl rfl rfl rfl [2] rfl hpk rfl rfl rfl rfl ⟨rfl, trivial⟩ rfl ?_
        refine ⟨fun _ => ?_, fun h => ?_⟩
        · refine OpC.callH rfl rfl rfl rfl [0, 1, 2, 3] rfl (miss_ok (s := ⟨p, 0, q0⟩) hk) rfl rfl rfl rfl ⟨rfl, rfl, rfl, rfl, trivial⟩ rfl ?_
          exact ⟨rfl, _, rfl⟩
        · have h : ((!decide (p < c.ts.length)) || (!decide ((tkAt c.ts p).k = 2))) = false := h
          rw [decide_eq_false h2, Bool.not_false, Bool.or_true] at h; cases h
  · have e1 : numP c.ts ⟨p, e0, q0⟩ = (0, ⟨p, e0, q0⟩) := by unfold numP; rw [if_neg he]
    rw [e1]
    refine Ctr.enterH tabOkF (fn := Tryz.f158) rfl rfl rfl rfl rfl rfl bndR (Nat.le_refl _) ?_
    refine ⟨fun _ => ⟨rfl, _, rfl⟩, fun h => ?_⟩
    have h : (!decide (e0 = 0)) = false := h
    rw [decide_eq_false he] at h; cases h
theorem rimm_w (hk : Rk c s) : Ctr Tryz.prog 196 [.ptr 3 1 0 []] (hR c s) (fun r h => r = .i .i64 (immP c.L c.ts s).1 ∧ h = hR c (immP c.L c.ts s).2) := by
  unfold immP
  by_cases hh : c.L.h = []
  · rw [if_pos hh]
    refine Ctr.enterH tabOkF (fn := Tryz.f196) rfl rfl rfl rfl rfl rfl bndR (Nat.le_refl _) ?_
    refine ⟨fun h => ?_, fun _ => ?_⟩
    · have h : (!decide (c.L.h = [])) = true := h
      rw [decide_eq_true hh] at h; cases h
    refine OpC.callH rfl rfl rfl rfl [0, 1, 2, 3] rfl (rnum_w hk) rfl rfl rfl rfl ⟨rfl, rfl, rfl, rfl, trivial⟩ rfl ?_
    exact ⟨rfl, _, rfl⟩
  · rw [if_neg hh]
    refine Ctr.enterH tabOkF (fn := Tryz.f196) rfl rfl rfl rfl rfl rfl bndR (Nat.le_refl _) ?_
    refine ⟨fun _ => ?_, fun h => ?_⟩
    rotate_left
    · have h : (!decide (c.L.h = [])) = false := h
      rw [decide_eq_false hh] at h; cases h
    refine OpC.callH rfl rfl rfl rfl [0, 1, 2, 3] rfl (rmark_w hk c.L.h) rfl rfl rfl rfl ⟨rfl, rfl, rfl, rfl, trivial⟩ rfl ?_
    refine OpC.callH rfl rfl rfl rfl [0, 1, 2, 3] rfl (rnum_w (hk.mark c.L.h)) rfl rfl rfl rfl ⟨rfl, rfl, rfl, rfl, trivial⟩ rfl ?_
    exact ⟨rfl, _, rfl⟩
end SX
end Go.Proofs.YthkedcneehdinaaGreatDoor

/- Readers of words: a register or a number; a place of memory. Written by pwe.py. -/
set_option linter.unusedVariables false
set_option maxRecDepth 100000
namespace Go.Proofs.YthkedcneehdinaaGreatDoor
namespace SX
open Go Go.Proofs
variable {c : Rc} {s : RS}
def insB (i : In) : SB := .mem 23 (ienc i) 1 0
def hI (c : Rc) (s : RS) (i : In) : List SB := [rowS c.L.s0 c.L.s1 c.L.s2 c.L.s3 c.L.s4 c.L.s5 c.L.s6 c.L.s7, langB c.L.h c.rd c.pr, curB c.ts c.ad c.cap s.p, rdrB 2 1 c.lb s.e s.q, insB i]
theorem bndI {c : Rc} {s : RS} {i : In} : BndH 5 (hI c s i) := ⟨⟨rfl, rfl, rfl, rfl, rfl, rfl, rfl, rfl, trivial⟩, ⟨rfl, rfl, rfl, rfl, trivial⟩, bndCur, ⟨rfl, rfl, rfl, rfl, rfl, trivial⟩, ⟨rfl, rfl, rfl, rfl, rfl, rfl, rfl, rfl, rfl, rfl, rfl, rfl, rfl, rfl, rfl, rfl, rfl, trivial⟩, trivial⟩
theorem loc_all : ∀ n : Fin 256, Lib.index [120, 121, 122] [UInt8.ofNat n.val] = locI [UInt8.ofNat n.val] := by decide +kernel
theorem loc_w (v : List UInt8) : CtrV Tryz.prog 197 [.s v] (.i .i64 (locI v)) := by
  refine Ctr.enterV tabOkF (fn := Tryz.f197) rfl rfl rfl rfl rfl rfl ?_
  refine ⟨fun h => ?_, fun h => ?_⟩
  · have h : (!decide ((v.length : Int) = 1)) = true := h
    have h : ¬ (v.length : Int) = 1 := by simpa using h
    refine i_cg ?_
    unfold locI
    rw [if_neg (by rintro rfl; exact h rfl), if_neg (by rintro rfl; exact h rfl), if_neg (by rintro rfl; exact h rfl)]
  · have h : (!decide ((v.length : Int) = 1)) = false := h
    have h : (v.length : Int) = 1 := by simpa using h
    refine OpC.callV rfl rfl rfl rfl rfl rfl rfl (fun _ => sIndex_ok [120, 121, 122] v (by decide)) ?_
    refine i_cg ?_
    match v, h with
    | [x], _ =>
      have := loc_all ⟨x.toNat, x.toNat_lt⟩
      have e : UInt8.ofNat x.toNat = x := by simp
      simp only [e] at this
      exact this
    | [], h => simp at h
    | _ :: _ :: _, h => simp at h; omega
theorem eita_w (hk : Rk c s) {i : In} (hi : i.imm = 0) : Ctr Tryz.prog 138 [.ptr 3 1 0 [], .ptr 4 1 2 [], .ptr 4 1 4 []] (hI c s i) (fun r h => r = .tup [] ∧ h = hI c (eitP c.L c.ts s).2 { i with a := (eitP c.L c.ts s).1.1, imm := (eitP c.L c.ts s).1.2 }) := by
  obtain ⟨op, dst, a, b, imm, loc, off, ix, sz, fn, acq, wk, rel, pr, su, to, ze⟩ := i
  dsimp only at hi
  subst hi
  have hn := nmd_ok hk
  unfold eitP
  cases hb : nmdB c.ts s with
  | true =>
    rw [hb] at hn
    rw [if_pos rfl]
    refine Ctr.enterH tabOkF (fn := Tryz.f138) rfl rfl rfl rfl rfl rfl bndI (Nat.le_refl _) ?_
    refine OpC.callH rfl rfl rfl rfl [0, 1, 2, 3] rfl (hn) rfl rfl rfl rfl ⟨rfl, rfl, rfl, rfl, trivial⟩ rfl ?_
    refine ⟨fun _ => ?_, fun h => no_tf h⟩
    refine OpC.callH rfl rfl rfl rfl [0, 1, 2, 3] rfl (rreg_w hk) rfl rfl rfl rfl ⟨rfl, rfl, rfl, rfl, trivial⟩ rfl ?_
    exact ⟨rfl, _, rfl⟩
  | false =>
    rw [hb] at hn
    rw [if_neg (by decide)]
    refine Ctr.enterH tabOkF (fn := Tryz.f138) rfl rfl rfl rfl rfl rfl bndI (Nat.le_refl _) ?_
    refine OpC.callH rfl rfl rfl rfl [0, 1, 2, 3] rfl (hn) rfl rfl rfl rfl ⟨rfl, rfl, rfl, rfl, trivial⟩ rfl ?_
    refine ⟨fun h => no_ft h, fun _ => ?_⟩
    refine OpC.callH rfl rfl rfl rfl [0, 1, 2, 3] rfl (rimm_w hk) rfl rfl rfl rfl ⟨rfl, rfl, rfl, rfl, trivial⟩ rfl ?_
    exact ⟨rfl, _, rfl⟩
theorem eitb_w (hk : Rk c s) {i : In} (hi : i.imm = 0) : Ctr Tryz.prog 138 [.ptr 3 1 0 [], .ptr 4 1 3 [], .ptr 4 1 4 []] (hI c s i) (fun r h => r = .tup [] ∧ h = hI c (eitP c.L c.ts s).2 { i with b := (eitP c.L c.ts s).1.1, imm := (eitP c.L c.ts s).1.2 }) := by
  obtain ⟨op, dst, a, b, imm, loc, off, ix, sz, fn, acq, wk, rel, pr, su, to, ze⟩ := i
  dsimp only at hi
  subst hi
  have hn := nmd_ok hk
  unfold eitP
  cases hb : nmdB c.ts s with
  | true =>
    rw [hb] at hn
    rw [if_pos rfl]
    refine Ctr.enterH tabOkF (fn := Tryz.f138) rfl rfl rfl rfl rfl rfl bndI (Nat.le_refl _) ?_
    refine OpC.callH rfl rfl rfl rfl [0, 1, 2, 3] rfl (hn) rfl rfl rfl rfl ⟨rfl, rfl, rfl, rfl, trivial⟩ rfl ?_
    refine ⟨fun _ => ?_, fun h => no_tf h⟩
    refine OpC.callH rfl rfl rfl rfl [0, 1, 2, 3] rfl (rreg_w hk) rfl rfl rfl rfl ⟨rfl, rfl, rfl, rfl, trivial⟩ rfl ?_
    exact ⟨rfl, _, rfl⟩
  | false =>
    rw [hb] at hn
    rw [if_neg (by decide)]
    refine Ctr.enterH tabOkF (fn := Tryz.f138) rfl rfl rfl rfl rfl rfl bndI (Nat.le_refl _) ?_
    refine OpC.callH rfl rfl rfl rfl [0, 1, 2, 3] rfl (hn) rfl rfl rfl rfl ⟨rfl, rfl, rfl, rfl, trivial⟩ rfl ?_
    refine ⟨fun h => no_ft h, fun _ => ?_⟩
    refine OpC.callH rfl rfl rfl rfl [0, 1, 2, 3] rfl (rimm_w hk) rfl rfl rfl rfl ⟨rfl, rfl, rfl, rfl, trivial⟩ rfl ?_
    exact ⟨rfl, _, rfl⟩
theorem Rk.eit (h : Rk c s) : Rk c (eitP c.L c.ts s).2 := by
  unfold eitP
  split
  · exact h.reg
  · exact h.imm
theorem Rk.plus (h : Rk c s) (i : In) : Rk c (plusP c.L c.ts i s).2 := by
  unfold plusP ixP
  split
  · rename_i hk
    have h1 : Rk c (goF s) := h.go (at_lt (by rw [hk]; decide))
    split
    · rename_i ht; exact (h1.go (take_lt ht)).reg
    · exact h1
  · exact h.reg
theorem Rk.mem (h : Rk c s) (i : In) (z : Int) : Rk c (memP c.L c.ts i z s).2 := by
  unfold memP
  dsimp only
  have h1 := (h.mark [91]).of locI
  refine Rk.mark ?_ _
  split
  · rename_i ht
    simp only [Bool.and_eq_true] at ht
    exact (h1.go (take_lt ht.2)).plus _
  · exact h1
set_option maxHeartbeats 2000000 in
theorem rmem_w (hk : Rk c s) (i : In) (z : Int) : Ctr Tryz.prog 141 [.ptr 3 1 0 [], .ptr 4 1 0 [], .i .i64 z] (hI c s i) (fun r h => r = .tup [] ∧ h = hI c (memP c.L c.ts i z s).2 (memP c.L c.ts i z s).1) := by
  obtain ⟨op, dst, a, b, imm, loc, off, ix, sz, fn, acq, wk, rel, pr, su, to, ze⟩ := i
  have hof := of_fn (hk.mark [91]) 197 locI loc_w
  have hk1 := (hk.mark [91]).of locI
  unfold memP
  dsimp only
  generalize ofP locI c.ts (markP c.ts [91] s) = w at *
  obtain ⟨v, p, e0, q0⟩ := w
  dsimp only at hof hk1 ⊢
  by_cases he : e0 = 0
  · subst he
    cases hb : takeB c.ts [43] p with
    | true =>
      simp only [decide_true, Bool.and_self, if_true]
      have hp : p < c.ts.length := take_lt hb
      have hk2 : Rk c ⟨p + 1, 0, q0⟩ := ⟨hp, hk1.l⟩
      have hpk := peek_ok (ad := c.ad) (cap := c.cap) (show p + 1 ≤ c.ts.length from hp)
      unfold plusP
      rw [show goF (⟨p, 0, q0⟩ : RS) = ⟨p + 1, 0, q0⟩ from rfl]
      by_cases h2 : (tkAt c.ts (p + 1)).k = 2
      · have hlt := at_lt (ts := c.ts) (p := p + 1) (by rw [h2]; decide)
        have hk3 : Rk c ⟨p + 1 + 1, 0, q0⟩ := ⟨hlt, hk1.l⟩
        have h2' : (tkAt c.ts (⟨p + 1, 0, q0⟩ : RS).p).k = 2 := h2
        rw [if_pos h2', show goF (⟨p + 1, 0, q0⟩ : RS) = ⟨p + 1 + 1, 0, q0⟩ from rfl]
        rw [decide_eq_true hlt] at hpk
        cases hb2 : takeB c.ts [43] (p + 1 + 1) with
        | true =>
          have hk4 : Rk c ⟨p + 1 + 1 + 1, 0, q0⟩ := ⟨take_lt hb2, hk1.l⟩
          rw [if_pos rfl, show goF (⟨p + 1 + 1, 0, q0⟩ : RS) = ⟨p + 1 + 1 + 1, 0, q0⟩ from rfl]
          unfold ixP
          dsimp only
          refine Ctr.enterH tabOkF (fn := Tryz.f141) rfl rfl rfl rfl rfl rfl bndI (Nat.le_refl _) ?_
          refine OpC.callH rfl rfl rfl rfl [0, 1, 2, 3] rfl (rmark_w hk [91]) rfl rfl rfl rfl ⟨rfl, rfl, rfl, rfl, trivial⟩ rfl ?_
          refine OpC.callH rfl rfl rfl rfl [0, 1, 2, 3] rfl (hof) rfl rfl rfl rfl ⟨rfl, rfl, rfl, rfl, trivial⟩ rfl ?_
          refine OpC.open 28 rfl rfl rfl ?_
          refine OpC.guardT tabOkF rfl rfl ?_
          refine OpC.guardT tabOkF rfl rfl ?_
          refine OpC.callH rfl rfl rfl rfl [2, 5] rfl (take_ok (ad := c.ad) (cap := c.cap) (m := [43]) hb rfl (Nat.le_of_lt hp) hk1.l) rfl rfl rfl rfl ⟨rfl, rfl, trivial⟩ rfl ?_
          refine ⟨fun _ => ?_, fun h => no_tf h⟩
          refine OpC.callH rfl rfl rfl rfl [2] rfl (hpk) rfl rfl rfl rfl ⟨rfl, trivial⟩ rfl ?_
          refine ⟨fun _ => ?_, fun h => ?_⟩
          rotate_left
          · have h : (true && decide ((tkAt c.ts (p + 1)).k = 2)) = false := h
            rw [decide_eq_true h2] at h; cases h
          refine OpC.callH rfl rfl rfl rfl [2] rfl (next_ok (ad := c.ad) (cap := c.cap) hlt hk1.l) rfl rfl rfl rfl ⟨rfl, trivial⟩ rfl ?_
          refine OpC.callH rfl rfl rfl rfl [2, 7] rfl (take_ok (ad := c.ad) (cap := c.cap) (m := [43]) hb2 rfl hk3.p hk1.l) rfl rfl rfl rfl ⟨rfl, rfl, trivial⟩ rfl ?_
          refine ⟨fun _ => ?_, fun h => no_tf h⟩
          refine OpC.callH rfl rfl rfl rfl [0, 1, 2, 3] rfl (rreg_w hk4) rfl rfl rfl rfl ⟨rfl, rfl, rfl, rfl, trivial⟩ rfl ?_
          refine OpC.callH rfl rfl rfl rfl [0, 1, 2, 3] rfl (rmark_w hk4.reg [93]) rfl rfl rfl rfl ⟨rfl, rfl, rfl, rfl, trivial⟩ rfl ?_
          exact ⟨rfl, _, rfl⟩
        | false =>
          rw [if_neg (by decide)]
          dsimp only
          refine Ctr.enterH tabOkF (fn := Tryz.f141) rfl rfl rfl rfl rfl rfl bndI (Nat.le_refl _) ?_
          refine OpC.callH rfl rfl rfl rfl [0, 1, 2, 3] rfl (rmark_w hk [91]) rfl rfl rfl rfl ⟨rfl, rfl, rfl, rfl, trivial⟩ rfl ?_
          refine OpC.callH rfl rfl rfl rfl [0, 1, 2, 3] rfl (hof) rfl rfl rfl rfl ⟨rfl, rfl, rfl, rfl, trivial⟩ rfl ?_
          refine OpC.open 28 rfl rfl rfl ?_
          refine OpC.guardT tabOkF rfl rfl ?_
          refine OpC.guardT tabOkF rfl rfl ?_
          refine OpC.callH rfl rfl rfl rfl [2, 5] rfl (take_ok (ad := c.ad) (cap := c.cap) (m := [43]) hb rfl (Nat.le_of_lt hp) hk1.l) rfl rfl rfl rfl ⟨rfl, rfl, trivial⟩ rfl ?_
          refine ⟨fun _ => ?_, fun h => no_tf h⟩
          refine OpC.callH rfl rfl rfl rfl [2] rfl (hpk) rfl rfl rfl rfl ⟨rfl, trivial⟩ rfl ?_
          refine ⟨fun _ => ?_, fun h => ?_⟩
          rotate_left
          · have h : (true && decide ((tkAt c.ts (p + 1)).k = 2)) = false := h
            rw [decide_eq_true h2] at h; cases h
          refine OpC.callH rfl rfl rfl rfl [2] rfl (next_ok (ad := c.ad) (cap := c.cap) hlt hk1.l) rfl rfl rfl rfl ⟨rfl, trivial⟩ rfl ?_
          refine OpC.callH rfl rfl rfl rfl [2, 7] rfl (take_ok (ad := c.ad) (cap := c.cap) (m := [43]) hb2 rfl hk3.p hk1.l) rfl rfl rfl rfl ⟨rfl, rfl, trivial⟩ rfl ?_
          refine ⟨fun h => no_ft h, fun _ => ?_⟩
          refine OpC.callH rfl rfl rfl rfl [0, 1, 2, 3] rfl (rmark_w hk3 [93]) rfl rfl rfl rfl ⟨rfl, rfl, rfl, rfl, trivial⟩ rfl ?_
          exact ⟨rfl, _, rfl⟩
      · have h2' : ¬ (tkAt c.ts (⟨p + 1, 0, q0⟩ : RS).p).k = 2 := h2
        rw [if_neg h2']
        unfold ixP
        dsimp only
        refine Ctr.enterH tabOkF (fn := Tryz.f141) rfl rfl rfl rfl rfl rfl bndI (Nat.le_refl _) ?_
        refine OpC.callH rfl rfl rfl rfl [0, 1, 2, 3] rfl (rmark_w hk [91]) rfl rfl rfl rfl ⟨rfl, rfl, rfl, rfl, trivial⟩ rfl ?_
        refine OpC.callH rfl rfl rfl rfl [0, 1, 2, 3] rfl (hof) rfl rfl rfl rfl ⟨rfl, rfl, rfl, rfl, trivial⟩ rfl ?_
        refine OpC.open 28 rfl rfl rfl ?_
        refine OpC.guardT tabOkF rfl rfl ?_
        refine OpC.guardT tabOkF rfl rfl ?_
        refine OpC.callH rfl rfl rfl rfl [2, 5] rfl (take_ok (ad := c.ad) (cap := c.cap) (m := [43]) hb rfl (Nat.le_of_lt hp) hk1.l) rfl rfl rfl rfl ⟨rfl, rfl, trivial⟩ rfl ?_
        refine ⟨fun _ => ?_, fun h => no_tf h⟩
        refine OpC.callH rfl rfl rfl rfl [2] rfl (hpk) rfl rfl rfl rfl ⟨rfl, trivial⟩ rfl ?_
        refine ⟨fun h => ?_, fun _ => ?_⟩
        · have h : (decide (p + 1 < c.ts.length) && decide ((tkAt c.ts (p + 1)).k = 2)) = true := h
          rw [decide_eq_false h2, Bool.and_false] at h; cases h
        refine OpC.callH rfl rfl rfl rfl [0, 1, 2, 3] rfl (rreg_w hk2) rfl rfl rfl rfl ⟨rfl, rfl, rfl, rfl, trivial⟩ rfl ?_
        refine OpC.callH rfl rfl rfl rfl [0, 1, 2, 3] rfl (rmark_w hk2.reg [93]) rfl rfl rfl rfl ⟨rfl, rfl, rfl, rfl, trivial⟩ rfl ?_
        exact ⟨rfl, _, rfl⟩
    | false =>
      simp only [Bool.and_false, Bool.false_eq_true, if_false]
      refine Ctr.enterH tabOkF (fn := Tryz.f141) rfl rfl rfl rfl rfl rfl bndI (Nat.le_refl _) ?_
      refine OpC.callH rfl rfl rfl rfl [0, 1, 2, 3] rfl (rmark_w hk [91]) rfl rfl rfl rfl ⟨rfl, rfl, rfl, rfl, trivial⟩ rfl ?_
      refine OpC.callH rfl rfl rfl rfl [0, 1, 2, 3] rfl (hof) rfl rfl rfl rfl ⟨rfl, rfl, rfl, rfl, trivial⟩ rfl ?_
      refine OpC.open 28 rfl rfl rfl ?_
      refine OpC.guardT tabOkF rfl rfl ?_
      refine OpC.guardT tabOkF rfl rfl ?_
      refine OpC.callH rfl rfl rfl rfl [2, 5] rfl (take_ok (ad := c.ad) (cap := c.cap) (m := [43]) hb rfl hk1.p hk1.l) rfl rfl rfl rfl ⟨rfl, rfl, trivial⟩ rfl ?_
      refine ⟨fun h => no_ft h, fun _ => ?_⟩
      refine OpC.callH rfl rfl rfl rfl [0, 1, 2, 3] rfl (rmark_w hk1 [93]) rfl rfl rfl rfl ⟨rfl, rfl, rfl, rfl, trivial⟩ rfl ?_
      exact ⟨rfl, _, rfl⟩
  · rw [decide_eq_false he]
    simp only [Bool.false_and, Bool.false_eq_true, if_false]
    have hg : (decide (e0 = 0) == true) = false := by rw [decide_eq_false he]; rfl
    refine Ctr.enterH tabOkF (fn := Tryz.f141) rfl rfl rfl rfl rfl rfl bndI (Nat.le_refl _) ?_
    refine OpC.callH rfl rfl rfl rfl [0, 1, 2, 3] rfl (rmark_w hk [91]) rfl rfl rfl rfl ⟨rfl, rfl, rfl, rfl, trivial⟩ rfl ?_
    refine OpC.callH rfl rfl rfl rfl [0, 1, 2, 3] rfl (hof) rfl rfl rfl rfl ⟨rfl, rfl, rfl, rfl, trivial⟩ rfl ?_
    refine OpC.skipG rfl hg (.raw (.pointer none)) ?_
    refine OpC.skipG rfl hg (.b false) ?_
    refine ⟨fun h => ?_, fun _ => ?_⟩
    · have h : (decide (e0 = 0) && false) = true := h
      rw [Bool.and_false] at h; cases h
    refine OpC.callH rfl rfl rfl rfl [0, 1, 2, 3] rfl (rmark_w hk1 [93]) rfl rfl rfl rfl ⟨rfl, rfl, rfl, rfl, trivial⟩ rfl ?_
    exact ⟨rfl, _, rfl⟩
end SX
end Go.Proofs.YthkedcneehdinaaGreatDoor

/- Readers of words: a new reader; names of functions, sizes. -/
set_option linter.unusedVariables false
set_option maxRecDepth 100000
namespace Go.Proofs.YthkedcneehdinaaGreatDoor
namespace SX
open Go Go.Proofs
/-- A row that is handed back stays. -/
theorem Cp.row1 {α : Type} {d : α} {n : Nat} {enc : α → List SV} {X : List Value → World → (Value → World → Prop) → Prop} (hX : XMono X) {args : List SV} {H : List SB} {ty : TypeId} {g k : Nat} (hn : n = g + 1) (hw : ∀ x, wdL (enc x) = n) (hok : ∀ x m, OkL m [] (enc x)) {K : SV → List SB → Prop}
    (h : Cp X args H (fun r h => ∃ (xs : List α) (ver : Nat), r = .sl k ver 0 xs.length none 0 ∧ h[k]? = some (.mem ty [.arr xs.length α d n enc xs] ver n) ∧ ver ≠ 0 ∧ ∀ ad cap, K (.imm α d n enc xs (some ad) cap) (h.set k (.gone ver)))) : Cp X args H K := by
  subst hn
  refine ⟨fun C E m w hr ha => hX _ _ _ _ (h.out C E m w hr ha) fun v w' ⟨r, H', E', m', h1, ⟨xs, ver, e, hk, hv, hK⟩, h3, h4, h5⟩ => ?_⟩
  subst e
  have hrep : Rep E' C m' ⟨[.sl k ver 0 xs.length none 0], H'⟩ ⟨#[den E' (.sl k ver 0 xs.length none 0)], []⟩ w' :=
    ⟨rfl, fun q x u hx hu => by
      rcases q with _ | q
      · simp at hx hu; subst hx; subst hu
        exact ⟨h3.1, rfl⟩
      · simp at hx, rfl, h5⟩
  obtain ⟨m2, b, c, e1, e2, e3⟩ := still_base (k := k) hrep hk rfl hv hw hok
  obtain ⟨ad, cap, e4⟩ := still_slot (j := 0) (i := 0) (len := xs.length) e2 e3 rfl hw hok (by simp) (by omega)
  have e5 := e4.sl 0 _ _ rfl rfl
  simp only [List.drop_zero, List.take_length] at e5
  have e6 : Ok m2 (vers (H'.set k (.gone ver))) (.imm α d (g + 1) enc xs (some ad) cap) ∧ den E' (.sl k ver 0 xs.length none 0) = den E' (.imm α d (g + 1) enc xs (some ad) cap) := e5
  exact ⟨_, _, E', m2, h1.trans e6.2, hK ad cap, ⟨e6.1, rfl⟩, h4.trans e1, e4.rel⟩
/-- nil, as a row that stays. -/
theorem Cp.nil1 {α : Type} {d : α} {n : Nat} {enc : α → List SV} {X : List Value → World → (Value → World → Prop) → Prop} (hX : XMono X) {args : List SV} {H : List SB} (hw : ∀ x, wdL (enc x) = n) {K : SV → List SB → Prop}
    (h : Cp X args H (fun r h => r = .nils ∧ K (.imm α d n enc [] none 0) h)) : Cp X args H K := by
  refine ⟨fun C E m w hr ha => hX _ _ _ _ (h.out C E m w hr ha) fun v w' ⟨r, H', E', m', h1, ⟨e, hK⟩, h3, h4, h5⟩ => ?_⟩
  subst e
  refine ⟨_, H', E', m', ?_, hK, ⟨?_, rfl⟩, h4, h5⟩
  · rw [h1]; simp [den, wrapV, cells]
  · simp only [Ok]
    exact ⟨Nat.le_refl _, fun hh => absurd rfl hh, hw, fun j hj => absurd hj (Nat.not_lt_zero _)⟩
theorem tok_bytes (n : Nat) (h : n ≤ 100000) : n * 40 ≤ 140737488355328 := by omega
/-- A copy of words stays. -/
theorem clone_tk (ts : List Tk) (ad : Option Addr) (cap : Nat) (hl : ts.length ≤ 100000) (hn : ad = none → ts = []) : Ctr Tryz.prog 187 [.imm Tk tk0 4 tkenc ts ad cap] [] (fun r h => (∃ ad' cap', r = .imm Tk tk0 4 tkenc ts ad' cap') ∧ ∃ X, h = X) := by
  cases ad with
  | none =>
    obtain rfl := hn rfl
    refine Cp.nil1 (α := Tk) (d := tk0) (n := 4) (enc := tkenc) callX_m tkw ?_
    refine Ctr.enter tabOkF (fn := Tryz.f187) rfl rfl rfl rfl rfl ?_
    refine ⟨fun _ => ?_, fun h => no_tf h⟩
    exact ⟨rfl, ⟨_, _, rfl⟩, _, rfl⟩
  | some ad =>
    refine Cp.row1 (α := Tk) (d := tk0) (enc := tkenc) (n := 4) (g := 3) (k := 1) (ty := 42) callX_m rfl tkw tkok ?_
    refine Ctr.enter tabOkF (fn := Tryz.f187) rfl rfl rfl rfl rfl ?_
    refine ⟨fun h => no_ft h, fun _ => ?_⟩
    refine OpC.yld 1 rfl (yld_app_lit tabOkF rfl rfl rfl rfl rfl rfl rfl rfl (fun E => rfl) (SrcA.imm rfl rfl rfl) (p := 1) rfl Joins.nil (Nat.le_trans hl (by decide)) ?_) (fun d hd => by cases hd; rfl) ?_
    · exact tok_bytes _ hl
    exact ⟨ts, 1, rfl, rfl, by decide, fun ad' cap' => ⟨⟨ad', cap', rfl⟩, _, rfl⟩⟩
theorem clone_tk0 (ts : List Tk) (ad : Option Addr) (cap : Nat) (hl : ts.length ≤ 100000) (hn : ad = none → ts = []) : Ctr Tryz.prog 187 [.imm Tk tk0 4 tkenc ts ad cap] [] (fun r h => (∃ ad' cap', r = .imm Tk tk0 4 tkenc ts ad' cap') ∧ h = []) :=
  (clone_tk ts ad cap hl hn).trim callX_m fun r H1 ⟨⟨a, c, h1⟩, _⟩ => ⟨[], H1, rfl, Nat.le_refl _, trivial, by rw [h1]; rfl, ⟨a, c, h1⟩, rfl⟩
theorem new_w (ts : List Tk) (ad : Option Addr) (cap : Nat) (hl : ts.length ≤ 100000) (hn : ad = none → ts = []) : Ctr Tryz.prog 123 [.imm Tk tk0 4 tkenc ts ad cap] [] (fun r h => r = .ptr 0 1 0 [] ∧ ∃ ad' cap', h = [curB ts ad' cap' 0]) := by
  have key : Ctr Tryz.prog 123 [.imm Tk tk0 4 tkenc ts ad cap] [] (fun r h => r = .ptr 0 1 0 [] ∧ ∃ ad' cap' X, h = curB ts ad' cap' 0 :: X) := by
    refine Ctr.enter tabOkF (fn := Tryz.f123) rfl rfl rfl rfl rfl ?_
    refine OpC.callL rfl rfl rfl rfl [] 0 rfl rfl rfl (clone_tk0 ts ad cap hl hn) rfl rfl rfl rfl trivial rfl (fun r H' hk => ?_) ?_
    · rw [hk.2]; exact ⟨Nat.le_refl _, Nat.le_refl _⟩
    rintro r H' ⟨⟨ad', cap', rfl⟩, rfl⟩
    exact ⟨rfl, ad', cap', [], rfl⟩
  exact key.trim callX_m fun r H1 ⟨h1, ad', cap', X, h2⟩ => ⟨[curB ts ad' cap' 0], X, h2, Nat.zero_le _, ⟨bndCur, trivial⟩, by rw [h1]; rfl, h1, ad', cap', rfl⟩
theorem none_w (op : Int) : CtrV Tryz.prog 135 [.i .i64 op] (.agg (ienc (none_ op))) := by
  refine Ctr.enterV tabOkF (fn := Tryz.f135) rfl rfl rfl rfl rfl rfl ?_
  exact rfl
set_option maxHeartbeats 1000000 in
theorem index6_s (s0 s1 s2 s3 s4 s5 v : List UInt8) : Ctr Tryz.prog 102 [.sl 0 1 0 6 (some 6) 0, .s v] [strB [s0, s1, s2, s3, s4, s5]] (fun r h => r = .i .i64 (idx6 s0 s1 s2 s3 s4 s5 v) ∧ h = [strB [s0, s1, s2, s3, s4, s5]]) := by
  refine Ctr.enterG tabOkF (fn := Tryz.f102) rfl rfl rfl rfl rfl rfl ⟨⟨rfl, rfl, rfl, rfl, rfl, rfl, trivial⟩, trivial⟩ ?_
  refine WpC.loop tabOkF (β := Nat) (fun k => k ≤ 6 ∧ (0 < k → v ≠ s0) ∧ (1 < k → v ≠ s1) ∧ (2 < k → v ≠ s2) ∧ (3 < k → v ≠ s3) ∧ (4 < k → v ≠ s4) ∧ (5 < k → v ≠ s5)) (fun k => [(8, .i .i64 k)]) (fun _ => [strB [s0, s1, s2, s3, s4, s5]]) (fun k => 6 - k) 0 524080 ⟨by decide, fun h => absurd h (by decide), fun h => absurd h (by decide), fun h => absurd h (by decide), fun h => absurd h (by decide), fun h => absurd h (by decide), fun h => absurd h (by decide)⟩ ?_ ?_
  · exact ⟨rfl, ⟨⟨rfl, rfl, rfl⟩, trivial⟩, ⟨[], rfl⟩, ⟨⟨rfl, rfl, rfl, rfl, rfl, rfl, trivial⟩, trivial⟩, rfl⟩
  · rintro k ⟨hk, q0, q1, q2, q3, q4, q5⟩
    rcases (by omega : k = 0 ∨ k = 1 ∨ k = 2 ∨ k = 3 ∨ k = 4 ∨ k = 5 ∨ k = 6) with rfl | rfl | rfl | rfl | rfl | rfl | rfl
    · refine ⟨fun _ => ?_, fun h => absurd h (by decide)⟩
      refine ⟨fun _ => by decide, ?_⟩
      refine ⟨fun h => ?_, fun h => ?_⟩
      · have e : v = s0 := of_decide_eq_true h
        refine ⟨i_cg ?_, _, rfl⟩
        unfold idx6
        rw [if_pos e]
        rfl
      · have e0 : ¬ v = s0 := of_decide_eq_false h
        exact ⟨1, ⟨by decide, fun _ => e0, fun h => absurd h (by decide), fun h => absurd h (by decide), fun h => absurd h (by decide), fun h => absurd h (by decide), fun h => absurd h (by decide)⟩, by decide, rfl, ⟨⟨rfl, rfl, rfl⟩, trivial⟩, ⟨[], rfl⟩, ⟨⟨rfl, rfl, rfl, rfl, rfl, rfl, trivial⟩, trivial⟩, rfl⟩
    · have e0 := q0 (by decide)
      refine ⟨fun _ => ?_, fun h => absurd h (by decide)⟩
      refine ⟨fun _ => by decide, ?_⟩
      refine ⟨fun h => ?_, fun h => ?_⟩
      · have e : v = s1 := of_decide_eq_true h
        refine ⟨i_cg ?_, _, rfl⟩
        unfold idx6
        rw [if_neg e0]
        rw [if_pos e]
        rfl
      · have e1 : ¬ v = s1 := of_decide_eq_false h
        exact ⟨2, ⟨by decide, fun _ => e0, fun _ => e1, fun h => absurd h (by decide), fun h => absurd h (by decide), fun h => absurd h (by decide), fun h => absurd h (by decide)⟩, by decide, rfl, ⟨⟨rfl, rfl, rfl⟩, trivial⟩, ⟨[], rfl⟩, ⟨⟨rfl, rfl, rfl, rfl, rfl, rfl, trivial⟩, trivial⟩, rfl⟩
    · have e0 := q0 (by decide)
      have e1 := q1 (by decide)
      refine ⟨fun _ => ?_, fun h => absurd h (by decide)⟩
      refine ⟨fun _ => by decide, ?_⟩
      refine ⟨fun h => ?_, fun h => ?_⟩
      · have e : v = s2 := of_decide_eq_true h
        refine ⟨i_cg ?_, _, rfl⟩
        unfold idx6
        rw [if_neg e0]
        rw [if_neg e1]
        rw [if_pos e]
        rfl
      · have e2 : ¬ v = s2 := of_decide_eq_false h
        exact ⟨3, ⟨by decide, fun _ => e0, fun _ => e1, fun _ => e2, fun h => absurd h (by decide), fun h => absurd h (by decide), fun h => absurd h (by decide)⟩, by decide, rfl, ⟨⟨rfl, rfl, rfl⟩, trivial⟩, ⟨[], rfl⟩, ⟨⟨rfl, rfl, rfl, rfl, rfl, rfl, trivial⟩, trivial⟩, rfl⟩
    · have e0 := q0 (by decide)
      have e1 := q1 (by decide)
      have e2 := q2 (by decide)
      refine ⟨fun _ => ?_, fun h => absurd h (by decide)⟩
      refine ⟨fun _ => by decide, ?_⟩
      refine ⟨fun h => ?_, fun h => ?_⟩
      · have e : v = s3 := of_decide_eq_true h
        refine ⟨i_cg ?_, _, rfl⟩
        unfold idx6
        rw [if_neg e0]
        rw [if_neg e1]
        rw [if_neg e2]
        rw [if_pos e]
        rfl
      · have e3 : ¬ v = s3 := of_decide_eq_false h
        exact ⟨4, ⟨by decide, fun _ => e0, fun _ => e1, fun _ => e2, fun _ => e3, fun h => absurd h (by decide), fun h => absurd h (by decide)⟩, by decide, rfl, ⟨⟨rfl, rfl, rfl⟩, trivial⟩, ⟨[], rfl⟩, ⟨⟨rfl, rfl, rfl, rfl, rfl, rfl, trivial⟩, trivial⟩, rfl⟩
    · have e0 := q0 (by decide)
      have e1 := q1 (by decide)
      have e2 := q2 (by decide)
      have e3 := q3 (by decide)
      refine ⟨fun _ => ?_, fun h => absurd h (by decide)⟩
      refine ⟨fun _ => by decide, ?_⟩
      refine ⟨fun h => ?_, fun h => ?_⟩
      · have e : v = s4 := of_decide_eq_true h
        refine ⟨i_cg ?_, _, rfl⟩
        unfold idx6
        rw [if_neg e0]
        rw [if_neg e1]
        rw [if_neg e2]
        rw [if_neg e3]
        rw [if_pos e]
        rfl
      · have e4 : ¬ v = s4 := of_decide_eq_false h
        exact ⟨5, ⟨by decide, fun _ => e0, fun _ => e1, fun _ => e2, fun _ => e3, fun _ => e4, fun h => absurd h (by decide)⟩, by decide, rfl, ⟨⟨rfl, rfl, rfl⟩, trivial⟩, ⟨[], rfl⟩, ⟨⟨rfl, rfl, rfl, rfl, rfl, rfl, trivial⟩, trivial⟩, rfl⟩
    · have e0 := q0 (by decide)
      have e1 := q1 (by decide)
      have e2 := q2 (by decide)
      have e3 := q3 (by decide)
      have e4 := q4 (by decide)
      refine ⟨fun _ => ?_, fun h => absurd h (by decide)⟩
      refine ⟨fun _ => by decide, ?_⟩
      refine ⟨fun h => ?_, fun h => ?_⟩
      · have e : v = s5 := of_decide_eq_true h
        refine ⟨i_cg ?_, _, rfl⟩
        unfold idx6
        rw [if_neg e0]
        rw [if_neg e1]
        rw [if_neg e2]
        rw [if_neg e3]
        rw [if_neg e4]
        rw [if_pos e]
        rfl
      · have e5 : ¬ v = s5 := of_decide_eq_false h
        exact ⟨6, ⟨by decide, fun _ => e0, fun _ => e1, fun _ => e2, fun _ => e3, fun _ => e4, fun _ => e5⟩, by decide, rfl, ⟨⟨rfl, rfl, rfl⟩, trivial⟩, ⟨[], rfl⟩, ⟨⟨rfl, rfl, rfl, rfl, rfl, rfl, trivial⟩, trivial⟩, rfl⟩
    · have e0 := q0 (by decide)
      have e1 := q1 (by decide)
      have e2 := q2 (by decide)
      have e3 := q3 (by decide)
      have e4 := q4 (by decide)
      have e5 := q5 (by decide)
      refine ⟨fun h => absurd h (by decide), fun _ => ⟨i_cg ?_, _, rfl⟩⟩
      unfold idx6
      rw [if_neg e0, if_neg e1, if_neg e2, if_neg e3, if_neg e4, if_neg e5]
theorem hasSuf_w (s p : List UInt8) (hs : s.length ≤ 1000000) (hp : p.length ≤ 1000000) : CtrV Tryz.prog 235 [.s s, .s p] (.b (sufB s p)) := by
  refine Ctr.enterV tabOkF (fn := Tryz.f235) rfl rfl rfl rfl rfl rfl ?_
  refine ⟨fun hg => ?_, ?_⟩
  · have hg : (decide ((p.length : Int) ≤ (s.length : Int)) == true) = true := hg
    have hg : (p.length : Int) ≤ (s.length : Int) := by simpa using hg
    show (0 : Int) ≤ IntKind.i64.wrap ((s.length : Int) - (p.length : Int)) ∧ IntKind.i64.wrap ((s.length : Int) - (p.length : Int)) ≤ (s.length : Int)
    rw [w64 (by omega) (by omega)]; omega
  refine b_cg ?_
  show (decide ((p.length : Int) ≤ (s.length : Int)) && decide ((s.take s.length).drop (IntKind.i64.wrap ((s.length : Int) - (p.length : Int))).toNat = p)) = sufB s p
  unfold sufB
  rw [w64 (by omega) (by omega), List.take_length]
  by_cases h : p.length ≤ s.length
  · rw [decide_eq_true h, decide_eq_true (by omega), show ((s.length : Int) - (p.length : Int)).toNat = s.length - p.length by omega]
  · rw [decide_eq_false h, decide_eq_false (by omega)]; rfl
theorem cutSuf0_w (s p : List UInt8) (hs : s.length ≤ 1000000) (hp : p.length ≤ 1000000) : CtrV Tryz.prog 212 [.s s, .s p] (.tup [.s (cutS s p), .b (sufB s p)]) := by
  refine Ctr.enterV tabOkF (fn := Tryz.f212) rfl rfl rfl rfl rfl rfl ?_
  refine OpC.callV rfl rfl rfl rfl rfl rfl rfl (fun _ => hasSuf_w s p hs hp) ?_
  unfold cutS
  cases hb : sufB s p with
  | false =>
    refine ⟨fun _ => ?_, fun h => no_tf h⟩
    exact rfl
  | true =>
    refine ⟨fun h => no_ft h, fun _ => ?_⟩
    have hle : p.length ≤ s.length := by
      unfold sufB at hb
      simp only [Bool.and_eq_true, decide_eq_true_eq] at hb
      exact hb.1
    have e : IntKind.i64.wrap ((s.length : Int) - (p.length : Int)) = ((s.length - p.length : Nat) : Int) := by rw [w64 (by omega) (by omega)]; omega
    refine ⟨fun _ => ?_, ?_⟩
    · show (0 : Int) ≤ IntKind.i64.wrap ((s.length : Int) - (p.length : Int)) ∧ IntKind.i64.wrap ((s.length : Int) - (p.length : Int)) ≤ (s.length : Int)
      rw [e]; omega
    show SV.tup [.s ((s.take (IntKind.i64.wrap ((s.length : Int) - (p.length : Int))).toNat).drop 0), .b true] = _
    rw [e, Int.toNat_natCast, List.drop_zero, if_pos rfl]
theorem cutSuf_w (s p : List UInt8) (hs : s.length ≤ 1000000) (hp : p.length ≤ 1000000) : CtrV Tryz.prog 156 [.s s, .s p] (.tup [.s (cutS s p), .b (sufB s p)]) := by
  refine Ctr.enterV tabOkF (fn := Tryz.f156) rfl rfl rfl rfl rfl rfl ?_
  refine OpC.callV rfl rfl rfl rfl rfl rfl rfl (fun _ => cutSuf0_w s p hs hp) ?_
  exact rfl
set_option maxHeartbeats 1000000 in
theorem size_w (s e0 e1 e2 e3 : List UInt8) (hs : s.length ≤ 1000000) (h0 : e0.length ≤ 1000000) (h1 : e1.length ≤ 1000000) (h2 : e2.length ≤ 1000000) (h3 : e3.length ≤ 1000000) : Ctr Tryz.prog 139 [.s s, .sl 0 1 0 4 (some 4) 0] [strB [e0, e1, e2, e3]] (fun r h => r = .tup [.s (sizP e0 e1 e2 e3 s).1, .i .i64 (sizP e0 e1 e2 e3 s).2] ∧ h = [strB [e0, e1, e2, e3]]) := by
  have hB : BndH 1 [strB [e0, e1, e2, e3]] := ⟨⟨rfl, rfl, rfl, rfl, trivial⟩, trivial⟩
  refine Ctr.enterG tabOkF (fn := Tryz.f139) rfl rfl rfl rfl rfl rfl hB ?_
  refine WpC.loop tabOkF (β := Nat) (fun k => k ≤ 4 ∧ (0 < k → sufB s e0 = false) ∧ (1 < k → sufB s e1 = false) ∧ (2 < k → sufB s e2 = false) ∧ (3 < k → sufB s e3 = false)) (fun k => [(12, .i .i64 k)]) (fun _ => [strB [e0, e1, e2, e3]]) (fun k => 4 - k) 0 (2 ^ 29 - 1 - 3 - 2 ^ 10 - 2 ^ 11) ⟨by decide, fun h => absurd h (by decide), fun h => absurd h (by decide), fun h => absurd h (by decide), fun h => absurd h (by decide)⟩ ?_ ?_
  · exact ⟨rfl, ⟨⟨rfl, rfl, rfl⟩, trivial⟩, ⟨[], rfl⟩, hB, rfl⟩
  · rintro k ⟨hk, q0, q1, q2, q3⟩
    rcases (by omega : k = 0 ∨ k = 1 ∨ k = 2 ∨ k = 3 ∨ k = 4) with rfl | rfl | rfl | rfl | rfl
    · refine ⟨fun _ => ?_, fun h => no_tf h⟩
      refine ⟨fun _ => by decide, ?_⟩
      refine OpC.callV rfl rfl rfl rfl rfl rfl rfl (fun _ => cutSuf_w s e0 hs h0) ?_
      refine ⟨fun h => ?_, fun h => ?_⟩
      · have h : sufB s e0 = true := h
        refine WpC.dr tabOkF mixed 0 ?_
        refine ⟨fun _ => by decide, ?_⟩
        refine ⟨by kernel_rfl, ?_⟩
        refine ⟨?_, _, rfl⟩
        unfold sizP
        rw [if_pos h]
        rfl
      · have f0 : sufB s e0 = false := h
        exact ⟨1, ⟨by decide, fun _ => f0, fun h => absurd h (by decide), fun h => absurd h (by decide), fun h => absurd h (by decide)⟩, by decide, rfl, ⟨⟨rfl, rfl, rfl⟩, trivial⟩, ⟨[], rfl⟩, hB, rfl⟩
    · have f0 := q0 (by decide)
      refine ⟨fun _ => ?_, fun h => no_tf h⟩
      refine ⟨fun _ => by decide, ?_⟩
      refine OpC.callV rfl rfl rfl rfl rfl rfl rfl (fun _ => cutSuf_w s e1 hs h1) ?_
      refine ⟨fun h => ?_, fun h => ?_⟩
      · have h : sufB s e1 = true := h
        refine WpC.dr tabOkF mixed 0 ?_
        refine ⟨fun _ => by decide, ?_⟩
        refine ⟨by kernel_rfl, ?_⟩
        refine ⟨?_, _, rfl⟩
        unfold sizP
        rw [if_neg (by rw [f0]; decide)]
        rw [if_pos h]
        rfl
      · have f1 : sufB s e1 = false := h
        exact ⟨2, ⟨by decide, fun _ => f0, fun _ => f1, fun h => absurd h (by decide), fun h => absurd h (by decide)⟩, by decide, rfl, ⟨⟨rfl, rfl, rfl⟩, trivial⟩, ⟨[], rfl⟩, hB, rfl⟩
    · have f0 := q0 (by decide)
      have f1 := q1 (by decide)
      refine ⟨fun _ => ?_, fun h => no_tf h⟩
      refine ⟨fun _ => by decide, ?_⟩
      refine OpC.callV rfl rfl rfl rfl rfl rfl rfl (fun _ => cutSuf_w s e2 hs h2) ?_
      refine ⟨fun h => ?_, fun h => ?_⟩
      · have h : sufB s e2 = true := h
        refine WpC.dr tabOkF mixed 0 ?_
        refine ⟨fun _ => by decide, ?_⟩
        refine ⟨by kernel_rfl, ?_⟩
        refine ⟨?_, _, rfl⟩
        unfold sizP
        rw [if_neg (by rw [f0]; decide)]
        rw [if_neg (by rw [f1]; decide)]
        rw [if_pos h]
        rfl
      · have f2 : sufB s e2 = false := h
        exact ⟨3, ⟨by decide, fun _ => f0, fun _ => f1, fun _ => f2, fun h => absurd h (by decide)⟩, by decide, rfl, ⟨⟨rfl, rfl, rfl⟩, trivial⟩, ⟨[], rfl⟩, hB, rfl⟩
    · have f0 := q0 (by decide)
      have f1 := q1 (by decide)
      have f2 := q2 (by decide)
      refine ⟨fun _ => ?_, fun h => no_tf h⟩
      refine ⟨fun _ => by decide, ?_⟩
      refine OpC.callV rfl rfl rfl rfl rfl rfl rfl (fun _ => cutSuf_w s e3 hs h3) ?_
      refine ⟨fun h => ?_, fun h => ?_⟩
      · have h : sufB s e3 = true := h
        refine WpC.dr tabOkF mixed 0 ?_
        refine ⟨fun _ => by decide, ?_⟩
        refine ⟨by kernel_rfl, ?_⟩
        refine ⟨?_, _, rfl⟩
        unfold sizP
        rw [if_neg (by rw [f0]; decide)]
        rw [if_neg (by rw [f1]; decide)]
        rw [if_neg (by rw [f2]; decide)]
        rw [if_pos h]
        rfl
      · have f3 : sufB s e3 = false := h
        exact ⟨4, ⟨by decide, fun _ => f0, fun _ => f1, fun _ => f2, fun _ => f3⟩, by decide, rfl, ⟨⟨rfl, rfl, rfl⟩, trivial⟩, ⟨[], rfl⟩, hB, rfl⟩
    · have f0 := q0 (by decide)
      have f1 := q1 (by decide)
      have f2 := q2 (by decide)
      have f3 := q3 (by decide)
      refine ⟨fun h => no_ft h, fun _ => ⟨?_, _, rfl⟩⟩
      unfold sizP
      rw [if_neg (by rw [f0]; decide), if_neg (by rw [f1]; decide), if_neg (by rw [f2]; decide), if_neg (by rw [f3]; decide)]
      rfl
end SX
end Go.Proofs.YthkedcneehdinaaGreatDoor

/- x86: functions' names. Cut from XPr. -/
set_option linter.unusedVariables false
set_option maxRecDepth 100000
namespace Go.Proofs.YthkedcneehdinaaGreatDoor
namespace SX
open Go Go.Proofs
end SX
end Go.Proofs.YthkedcneehdinaaGreatDoor

/- x86: an instruction read. Written by pwg.py. -/
set_option linter.unusedVariables false
set_option maxRecDepth 100000
namespace Go.Proofs.YthkedcneehdinaaGreatDoor
namespace SX
open Go Go.Proofs
variable {c : Rc} {s : RS}
def Rc.put (c : Rc) (lb : List UInt8) : Rc := { c with lb := lb }
/-- What a reader of a language does: the heap behind it bears the label. -/
def ReadOk (rdF : List Tk → List UInt8 → RS → Rd × RS) (L : Lg) (f : Nat) : Prop :=
  ∀ (c : Rc) (s : RS) (nm : List UInt8), c.L = L → c.lb = [] → Rk c s → nm.length ≤ 100000 → Ctr Tryz.prog f [.ptr 3 1 0 [], .s nm] (hR c s) (fun r h => r = .tup [.agg (ienc (rdF c.ts nm s).1.i), .b (rdF c.ts nm s).1.known] ∧ h = hR (c.put (rdF c.ts nm s).1.lb) (rdF c.ts nm s).2)
end SX
end Go.Proofs.YthkedcneehdinaaGreatDoor

/- An instruction parsed: the program's. Written by pwh.py. -/
set_option linter.unusedVariables false
set_option maxRecDepth 100000
namespace Go.Proofs.YthkedcneehdinaaGreatDoor
namespace SX
open Go Go.Proofs
theorem newReader_w (s0 s1 s2 s3 s4 s5 s6 s7 h : List UInt8) (rd pr : Nat) (ts : List Tk) (ad : Option Addr) (cap : Nat) (hl : ts.length ≤ 100000) (hn : ad = none → ts = []) : Ctr Tryz.prog 67 [.ptr 1 1 0 [], .imm Tk tk0 4 tkenc ts ad cap] [rowS s0 s1 s2 s3 s4 s5 s6 s7, langB h rd pr]
    (fun r h' => r = .ptr 3 1 0 [] ∧ ∃ ad' cap', h' = [rowS s0 s1 s2 s3 s4 s5 s6 s7, langB h rd pr, curB ts ad' cap' 0, rdrB 2 1 [] 0 0]) := by
  have key : Ctr Tryz.prog 67 [.ptr 1 1 0 [], .imm Tk tk0 4 tkenc ts ad cap] [rowS s0 s1 s2 s3 s4 s5 s6 s7, langB h rd pr]
    (fun r h' => r = .ptr 3 1 0 [] ∧ ∃ ad' cap' X, h' = [rowS s0 s1 s2 s3 s4 s5 s6 s7, langB h rd pr, curB ts ad' cap' 0, rdrB 2 1 [] 0 0] ++ X) := by
    refine Ctr.enter tabOkF (fn := Tryz.f67) rfl rfl rfl rfl rfl ?_
    refine OpC.callL rfl rfl rfl rfl [] 1 rfl rfl rfl (new_w ts ad cap hl hn) rfl rfl rfl rfl trivial rfl (fun r H' hk => ?_) ?_
    · obtain ⟨_, a, b, e⟩ := hk; rw [e]; exact ⟨Nat.zero_le _, Nat.le_refl _⟩
    rintro r H' ⟨rfl, ad', cap', rfl⟩
    exact ⟨rfl, ad', cap', [], rfl⟩
  exact key.trim callX_m fun r H1 ⟨h1, ad', cap', X, h2⟩ => ⟨_, X, h2, by show 2 ≤ 4; decide, ⟨⟨rfl, rfl, rfl, rfl, rfl, rfl, rfl, rfl, trivial⟩, ⟨rfl, rfl, rfl, rfl, trivial⟩, bndCur, ⟨rfl, rfl, rfl, rfl, rfl, trivial⟩, trivial⟩, by rw [h1]; rfl, h1, ad', cap', rfl⟩
/-- Where a reader of a language comes to may be. -/
def ReadRk (rdF : List Tk → List UInt8 → RS → Rd × RS) (L : Lg) : Prop := ∀ (c : Rc) (s : RS) (nm : List UInt8), c.L = L → Rk c s → Rk c (rdF c.ts nm s).2
def prV5 (p : Pr) : SV := .tup [.agg (ienc p.i), .s p.lb, .i .i64 p.e, .i .i64 p.q]
theorem Rk.put {c : Rc} {s : RS} (h : Rk c s) (lb : List UInt8) : Rk (c.put lb) s := ⟨h.p, h.l⟩
set_option maxHeartbeats 4000000 in
theorem lparse_w {rdF : List Tk → List UInt8 → RS → Rd × RS} {L : Lg} {rd pr : Nat} (hread : ReadOk rdF L rd) (hrk : ReadRk rdF L) (ts : List Tk) (ad : Option Addr) (cap : Nat) (hl : ts.length ≤ 100000) (hn : ad = none → ts = []) (hnm : (tkAt ts 0).s.length ≤ 100000) :
    Ctr Tryz.prog 48 [.ptr 1 1 0 [], .imm Tk tk0 4 tkenc ts ad cap] [rowS L.s0 L.s1 L.s2 L.s3 L.s4 L.s5 L.s6 L.s7, langB L.h rd pr] (fun r h' => r = prV5 (parseP rdF ts) ∧ h' = [rowS L.s0 L.s1 L.s2 L.s3 L.s4 L.s5 L.s6 L.s7, langB L.h rd pr]) := by
  have hk0 : ∀ a b, Rk ⟨L, rd, pr, ts, a, b, []⟩ rs0 := fun a b => ⟨Nat.zero_le _, hl⟩
  have hwl : (wordP ts rs0).1.length ≤ 100000 := by
    unfold wordP
    split
    · split
      · exact hnm
      · exact Nat.zero_le _
    · exact Nat.zero_le _
  unfold parseP
  refine Ctr.enterH tabOkF (fn := Tryz.f48) rfl rfl rfl rfl rfl rfl bndLang (Nat.le_refl _) ?_
  refine OpC.callL rfl rfl rfl rfl [0, 1] 2 rfl rfl rfl (newReader_w _ _ _ _ _ _ _ _ _ _ _ ts ad cap hl hn) rfl rfl rfl rfl ⟨rfl, rfl, trivial⟩ rfl (fun r H' hk => ?_) ?_
  · obtain ⟨_, a, b, e⟩ := hk; rw [e]; exact ⟨by show 2 ≤ 4; decide, by show 4 ≤ 4; decide⟩
  rintro r H' ⟨rfl, ad', cap', rfl⟩
  have hk0 := hk0 ad' cap'
  have hk1 : Rk ⟨L, rd, pr, ts, ad', cap', []⟩ (wordP ts rs0).2 := hk0.word
  have hx := hread ⟨L, rd, pr, ts, ad', cap', []⟩ (wordP ts rs0).2 (wordP ts rs0).1 rfl rfl hk1 hwl
  have hk2 : Rk ⟨L, rd, pr, ts, ad', cap', []⟩ (rdF ts (wordP ts rs0).1 (wordP ts rs0).2).2 := hrk ⟨L, rd, pr, ts, ad', cap', []⟩ (wordP ts rs0).2 (wordP ts rs0).1 rfl hk1
  dsimp only at hx
  generalize hX : rdF ts (wordP ts rs0).1 (wordP ts rs0).2 = x at *
  have hk3 : Rk (⟨L, rd, pr, ts, ad', cap', x.1.lb⟩ : Rc) x.2 := hk2.put _
  cases hkn : x.1.known with
  | true =>
    rw [hkn] at hx
    refine OpC.callH rfl rfl rfl rfl [3] rfl (at_ok (ad := ad') (cap := cap') (p := 0) (Nat.zero_le _) hl) rfl rfl rfl rfl ⟨rfl, trivial⟩ rfl ?_
    refine OpC.callH rfl rfl rfl rfl [0, 1, 3, 4] rfl (rword_w (c := ⟨L, rd, pr, ts, ad', cap', []⟩) hk0) rfl rfl rfl rfl ⟨rfl, rfl, rfl, rfl, trivial⟩ rfl ?_
    refine OpC.callH rfl rfl rfl rfl [0, 1, 3, 4] rfl (hx) rfl rfl rfl rfl ⟨rfl, rfl, rfl, rfl, trivial⟩ rfl ?_
    refine ⟨fun h => no_ft h, fun _ => ?_⟩
    refine OpC.callH rfl rfl rfl rfl [3] rfl (left_ok (ad := ad') (cap := cap') (hk3).p hl) rfl rfl rfl rfl ⟨rfl, trivial⟩ rfl ?_
    refine ⟨fun hm => ?_, fun hm => ?_⟩
    · have hm : (0 : Int) < ((ts.length - (x.2).p : Nat) : Int) := of_decide_eq_true hm
      have hm : (x.2).p < ts.length := by omega
      have em : moreF ts (x.2) = failF (x.2) 25 (whF ts (x.2).p) := by unfold moreF; rw [if_pos hm]
      refine OpC.callH rfl rfl rfl rfl [3] rfl (at_ok (ad := ad') (cap := cap') (hk3).p hl) rfl rfl rfl rfl ⟨rfl, trivial⟩ rfl ?_
      refine OpC.callH rfl rfl rfl rfl [0, 1, 3, 4] rfl (rfail_ok (c := (⟨L, rd, pr, ts, ad', cap', x.1.lb⟩ : Rc)) (s := x.2) 25 (whF ts (x.2).p)) rfl rfl rfl rfl ⟨rfl, rfl, rfl, rfl, trivial⟩ rfl ?_
      refine OpC.callV rfl rfl rfl rfl rfl rfl rfl (fun _ => uright_ok x.1.i 0 1) ?_
      refine ⟨fun hr => ?_, fun hr => ?_⟩
      · have hr : rgtF x.1.i 0 1 = 34 := of_decide_eq_true hr
        refine OpC.callH rfl rfl rfl rfl [0, 1, 3, 4] rfl (rfail_ok (c := (⟨L, rd, pr, ts, ad', cap', x.1.lb⟩ : Rc)) (s := failF (x.2) 25 (whF ts (x.2).p)) 34 (whF ts 0)) rfl rfl rfl rfl ⟨rfl, rfl, rfl, rfl, trivial⟩ rfl ?_
        have hP : endP ts (whF ts 0) x = outF x.1 (failF (failF (x.2) 25 (whF ts (x.2).p)) 34 (whF ts 0)) := by unfold endP; dsimp only; rw [show (if x.1.known = true then x.2 else failF x.2 21 (whF ts 0)) = x.2 by rw [hkn]; rfl, em, if_pos hr]
        refine ⟨fun he => ?_, fun he => ?_⟩
        · have he : (!decide ((failF (failF (x.2) 25 (whF ts (x.2).p)) 34 (whF ts 0)).e = 0)) = true := he
          have he : ¬ (failF (failF (x.2) 25 (whF ts (x.2).p)) 34 (whF ts 0)).e = 0 := by simpa using he
          have hO : outF x.1 (failF (failF (x.2) 25 (whF ts (x.2).p)) 34 (whF ts 0)) = ⟨in0, [], (failF (failF (x.2) 25 (whF ts (x.2).p)) 34 (whF ts 0)).e, (failF (failF (x.2) 25 (whF ts (x.2).p)) 34 (whF ts 0)).q⟩ := by unfold outF; rw [if_neg he]
          rw [hP, hO]
          refine WpC.dr tabOkF mixed 0 ?_
          refine ⟨by kernel_rfl, ?_⟩
          exact ⟨rfl, _, rfl⟩
        · have he : (!decide ((failF (failF (x.2) 25 (whF ts (x.2).p)) 34 (whF ts 0)).e = 0)) = false := he
          have he : (failF (failF (x.2) 25 (whF ts (x.2).p)) 34 (whF ts 0)).e = 0 := by simpa using he
          have hO : outF x.1 (failF (failF (x.2) 25 (whF ts (x.2).p)) 34 (whF ts 0)) = ⟨x.1.i, x.1.lb, 0, 0⟩ := by unfold outF; rw [if_pos he]
          rw [hP, hO]
          refine WpC.dr tabOkF mixed 0 ?_
          refine ⟨by kernel_rfl, ?_⟩
          exact ⟨rfl, _, rfl⟩
      · have hr : ¬ rgtF x.1.i 0 1 = 34 := of_decide_eq_false hr
        have hP : endP ts (whF ts 0) x = outF x.1 (failF (x.2) 25 (whF ts (x.2).p)) := by unfold endP; dsimp only; rw [show (if x.1.known = true then x.2 else failF x.2 21 (whF ts 0)) = x.2 by rw [hkn]; rfl, em, if_neg hr]
        refine ⟨fun he => ?_, fun he => ?_⟩
        · have he : (!decide ((failF (x.2) 25 (whF ts (x.2).p)).e = 0)) = true := he
          have he : ¬ (failF (x.2) 25 (whF ts (x.2).p)).e = 0 := by simpa using he
          have hO : outF x.1 (failF (x.2) 25 (whF ts (x.2).p)) = ⟨in0, [], (failF (x.2) 25 (whF ts (x.2).p)).e, (failF (x.2) 25 (whF ts (x.2).p)).q⟩ := by unfold outF; rw [if_neg he]
          rw [hP, hO]
          refine WpC.dr tabOkF mixed 0 ?_
          refine ⟨by kernel_rfl, ?_⟩
          exact ⟨rfl, _, rfl⟩
        · have he : (!decide ((failF (x.2) 25 (whF ts (x.2).p)).e = 0)) = false := he
          have he : (failF (x.2) 25 (whF ts (x.2).p)).e = 0 := by simpa using he
          have hO : outF x.1 (failF (x.2) 25 (whF ts (x.2).p)) = ⟨x.1.i, x.1.lb, 0, 0⟩ := by unfold outF; rw [if_pos he]
          rw [hP, hO]
          refine WpC.dr tabOkF mixed 0 ?_
          refine ⟨by kernel_rfl, ?_⟩
          exact ⟨rfl, _, rfl⟩
    · have hm : ¬ (0 : Int) < ((ts.length - (x.2).p : Nat) : Int) := of_decide_eq_false hm
      have hm : ¬ (x.2).p < ts.length := by omega
      have em : moreF ts (x.2) = x.2 := by unfold moreF; rw [if_neg hm]
      refine OpC.callV rfl rfl rfl rfl rfl rfl rfl (fun _ => uright_ok x.1.i 0 1) ?_
      refine ⟨fun hr => ?_, fun hr => ?_⟩
      · have hr : rgtF x.1.i 0 1 = 34 := of_decide_eq_true hr
        refine OpC.callH rfl rfl rfl rfl [0, 1, 3, 4] rfl (rfail_ok (c := (⟨L, rd, pr, ts, ad', cap', x.1.lb⟩ : Rc)) (s := x.2) 34 (whF ts 0)) rfl rfl rfl rfl ⟨rfl, rfl, rfl, rfl, trivial⟩ rfl ?_
        have hP : endP ts (whF ts 0) x = outF x.1 (failF (x.2) 34 (whF ts 0)) := by unfold endP; dsimp only; rw [show (if x.1.known = true then x.2 else failF x.2 21 (whF ts 0)) = x.2 by rw [hkn]; rfl, em, if_pos hr]
        refine ⟨fun he => ?_, fun he => ?_⟩
        · have he : (!decide ((failF (x.2) 34 (whF ts 0)).e = 0)) = true := he
          have he : ¬ (failF (x.2) 34 (whF ts 0)).e = 0 := by simpa using he
          have hO : outF x.1 (failF (x.2) 34 (whF ts 0)) = ⟨in0, [], (failF (x.2) 34 (whF ts 0)).e, (failF (x.2) 34 (whF ts 0)).q⟩ := by unfold outF; rw [if_neg he]
          rw [hP, hO]
          refine WpC.dr tabOkF mixed 0 ?_
          refine ⟨by kernel_rfl, ?_⟩
          exact ⟨rfl, _, rfl⟩
        · have he : (!decide ((failF (x.2) 34 (whF ts 0)).e = 0)) = false := he
          have he : (failF (x.2) 34 (whF ts 0)).e = 0 := by simpa using he
          have hO : outF x.1 (failF (x.2) 34 (whF ts 0)) = ⟨x.1.i, x.1.lb, 0, 0⟩ := by unfold outF; rw [if_pos he]
          rw [hP, hO]
          refine WpC.dr tabOkF mixed 0 ?_
          refine ⟨by kernel_rfl, ?_⟩
          exact ⟨rfl, _, rfl⟩
      · have hr : ¬ rgtF x.1.i 0 1 = 34 := of_decide_eq_false hr
        have hP : endP ts (whF ts 0) x = outF x.1 (x.2) := by unfold endP; dsimp only; rw [show (if x.1.known = true then x.2 else failF x.2 21 (whF ts 0)) = x.2 by rw [hkn]; rfl, em, if_neg hr]
        refine ⟨fun he => ?_, fun he => ?_⟩
        · have he : (!decide ((x.2).e = 0)) = true := he
          have he : ¬ (x.2).e = 0 := by simpa using he
          have hO : outF x.1 (x.2) = ⟨in0, [], (x.2).e, (x.2).q⟩ := by unfold outF; rw [if_neg he]
          rw [hP, hO]
          refine WpC.dr tabOkF mixed 0 ?_
          refine ⟨by kernel_rfl, ?_⟩
          exact ⟨rfl, _, rfl⟩
        · have he : (!decide ((x.2).e = 0)) = false := he
          have he : (x.2).e = 0 := by simpa using he
          have hO : outF x.1 (x.2) = ⟨x.1.i, x.1.lb, 0, 0⟩ := by unfold outF; rw [if_pos he]
          rw [hP, hO]
          refine WpC.dr tabOkF mixed 0 ?_
          refine ⟨by kernel_rfl, ?_⟩
          exact ⟨rfl, _, rfl⟩
  | false =>
    rw [hkn] at hx
    refine OpC.callH rfl rfl rfl rfl [3] rfl (at_ok (ad := ad') (cap := cap') (p := 0) (Nat.zero_le _) hl) rfl rfl rfl rfl ⟨rfl, trivial⟩ rfl ?_
    refine OpC.callH rfl rfl rfl rfl [0, 1, 3, 4] rfl (rword_w (c := ⟨L, rd, pr, ts, ad', cap', []⟩) hk0) rfl rfl rfl rfl ⟨rfl, rfl, rfl, rfl, trivial⟩ rfl ?_
    refine OpC.callH rfl rfl rfl rfl [0, 1, 3, 4] rfl (hx) rfl rfl rfl rfl ⟨rfl, rfl, rfl, rfl, trivial⟩ rfl ?_
    refine ⟨fun _ => ?_, fun h => no_tf h⟩
    refine OpC.callH rfl rfl rfl rfl [0, 1, 3, 4] rfl (rfail_ok (c := (⟨L, rd, pr, ts, ad', cap', x.1.lb⟩ : Rc)) (s := x.2) 21 (whF ts 0)) rfl rfl rfl rfl ⟨rfl, rfl, rfl, rfl, trivial⟩ rfl ?_
    refine OpC.callH rfl rfl rfl rfl [3] rfl (left_ok (ad := ad') (cap := cap') ((hk3.fail 21 (whF ts 0))).p hl) rfl rfl rfl rfl ⟨rfl, trivial⟩ rfl ?_
    refine ⟨fun hm => ?_, fun hm => ?_⟩
    · have hm : (0 : Int) < ((ts.length - (failF x.2 21 (whF ts 0)).p : Nat) : Int) := of_decide_eq_true hm
      have hm : (failF x.2 21 (whF ts 0)).p < ts.length := by omega
      have em : moreF ts (failF x.2 21 (whF ts 0)) = failF (failF x.2 21 (whF ts 0)) 25 (whF ts (failF x.2 21 (whF ts 0)).p) := by unfold moreF; rw [if_pos hm]
      refine OpC.callH rfl rfl rfl rfl [3] rfl (at_ok (ad := ad') (cap := cap') ((hk3.fail 21 (whF ts 0))).p hl) rfl rfl rfl rfl ⟨rfl, trivial⟩ rfl ?_
      refine OpC.callH rfl rfl rfl rfl [0, 1, 3, 4] rfl (rfail_ok (c := (⟨L, rd, pr, ts, ad', cap', x.1.lb⟩ : Rc)) (s := failF x.2 21 (whF ts 0)) 25 (whF ts (failF x.2 21 (whF ts 0)).p)) rfl rfl rfl rfl ⟨rfl, rfl, rfl, rfl, trivial⟩ rfl ?_
      refine OpC.callV rfl rfl rfl rfl rfl rfl rfl (fun _ => uright_ok x.1.i 0 1) ?_
      refine ⟨fun hr => ?_, fun hr => ?_⟩
      · have hr : rgtF x.1.i 0 1 = 34 := of_decide_eq_true hr
        refine OpC.callH rfl rfl rfl rfl [0, 1, 3, 4] rfl (rfail_ok (c := (⟨L, rd, pr, ts, ad', cap', x.1.lb⟩ : Rc)) (s := failF (failF x.2 21 (whF ts 0)) 25 (whF ts (failF x.2 21 (whF ts 0)).p)) 34 (whF ts 0)) rfl rfl rfl rfl ⟨rfl, rfl, rfl, rfl, trivial⟩ rfl ?_
        have hP : endP ts (whF ts 0) x = outF x.1 (failF (failF (failF x.2 21 (whF ts 0)) 25 (whF ts (failF x.2 21 (whF ts 0)).p)) 34 (whF ts 0)) := by unfold endP; dsimp only; rw [show (if x.1.known = true then x.2 else failF x.2 21 (whF ts 0)) = failF x.2 21 (whF ts 0) by rw [hkn]; rfl, em, if_pos hr]
        refine ⟨fun he => ?_, fun he => ?_⟩
        · have he : (!decide ((failF (failF (failF x.2 21 (whF ts 0)) 25 (whF ts (failF x.2 21 (whF ts 0)).p)) 34 (whF ts 0)).e = 0)) = true := he
          have he : ¬ (failF (failF (failF x.2 21 (whF ts 0)) 25 (whF ts (failF x.2 21 (whF ts 0)).p)) 34 (whF ts 0)).e = 0 := by simpa using he
          have hO : outF x.1 (failF (failF (failF x.2 21 (whF ts 0)) 25 (whF ts (failF x.2 21 (whF ts 0)).p)) 34 (whF ts 0)) = ⟨in0, [], (failF (failF (failF x.2 21 (whF ts 0)) 25 (whF ts (failF x.2 21 (whF ts 0)).p)) 34 (whF ts 0)).e, (failF (failF (failF x.2 21 (whF ts 0)) 25 (whF ts (failF x.2 21 (whF ts 0)).p)) 34 (whF ts 0)).q⟩ := by unfold outF; rw [if_neg he]
          rw [hP, hO]
          refine WpC.dr tabOkF mixed 0 ?_
          refine ⟨by kernel_rfl, ?_⟩
          exact ⟨rfl, _, rfl⟩
        · have he : (!decide ((failF (failF (failF x.2 21 (whF ts 0)) 25 (whF ts (failF x.2 21 (whF ts 0)).p)) 34 (whF ts 0)).e = 0)) = false := he
          have he : (failF (failF (failF x.2 21 (whF ts 0)) 25 (whF ts (failF x.2 21 (whF ts 0)).p)) 34 (whF ts 0)).e = 0 := by simpa using he
          have hO : outF x.1 (failF (failF (failF x.2 21 (whF ts 0)) 25 (whF ts (failF x.2 21 (whF ts 0)).p)) 34 (whF ts 0)) = ⟨x.1.i, x.1.lb, 0, 0⟩ := by unfold outF; rw [if_pos he]
          rw [hP, hO]
          refine WpC.dr tabOkF mixed 0 ?_
          refine ⟨by kernel_rfl, ?_⟩
          exact ⟨rfl, _, rfl⟩
      · have hr : ¬ rgtF x.1.i 0 1 = 34 := of_decide_eq_false hr
        have hP : endP ts (whF ts 0) x = outF x.1 (failF (failF x.2 21 (whF ts 0)) 25 (whF ts (failF x.2 21 (whF ts 0)).p)) := by unfold endP; dsimp only; rw [show (if x.1.known = true then x.2 else failF x.2 21 (whF ts 0)) = failF x.2 21 (whF ts 0) by rw [hkn]; rfl, em, if_neg hr]
        refine ⟨fun he => ?_, fun he => ?_⟩
        · have he : (!decide ((failF (failF x.2 21 (whF ts 0)) 25 (whF ts (failF x.2 21 (whF ts 0)).p)).e = 0)) = true := he
          have he : ¬ (failF (failF x.2 21 (whF ts 0)) 25 (whF ts (failF x.2 21 (whF ts 0)).p)).e = 0 := by simpa using he
          have hO : outF x.1 (failF (failF x.2 21 (whF ts 0)) 25 (whF ts (failF x.2 21 (whF ts 0)).p)) = ⟨in0, [], (failF (failF x.2 21 (whF ts 0)) 25 (whF ts (failF x.2 21 (whF ts 0)).p)).e, (failF (failF x.2 21 (whF ts 0)) 25 (whF ts (failF x.2 21 (whF ts 0)).p)).q⟩ := by unfold outF; rw [if_neg he]
          rw [hP, hO]
          refine WpC.dr tabOkF mixed 0 ?_
          refine ⟨by kernel_rfl, ?_⟩
          exact ⟨rfl, _, rfl⟩
        · have he : (!decide ((failF (failF x.2 21 (whF ts 0)) 25 (whF ts (failF x.2 21 (whF ts 0)).p)).e = 0)) = false := he
          have he : (failF (failF x.2 21 (whF ts 0)) 25 (whF ts (failF x.2 21 (whF ts 0)).p)).e = 0 := by simpa using he
          have hO : outF x.1 (failF (failF x.2 21 (whF ts 0)) 25 (whF ts (failF x.2 21 (whF ts 0)).p)) = ⟨x.1.i, x.1.lb, 0, 0⟩ := by unfold outF; rw [if_pos he]
          rw [hP, hO]
          refine WpC.dr tabOkF mixed 0 ?_
          refine ⟨by kernel_rfl, ?_⟩
          exact ⟨rfl, _, rfl⟩
    · have hm : ¬ (0 : Int) < ((ts.length - (failF x.2 21 (whF ts 0)).p : Nat) : Int) := of_decide_eq_false hm
      have hm : ¬ (failF x.2 21 (whF ts 0)).p < ts.length := by omega
      have em : moreF ts (failF x.2 21 (whF ts 0)) = failF x.2 21 (whF ts 0) := by unfold moreF; rw [if_neg hm]
      refine OpC.callV rfl rfl rfl rfl rfl rfl rfl (fun _ => uright_ok x.1.i 0 1) ?_
      refine ⟨fun hr => ?_, fun hr => ?_⟩
      · have hr : rgtF x.1.i 0 1 = 34 := of_decide_eq_true hr
        refine OpC.callH rfl rfl rfl rfl [0, 1, 3, 4] rfl (rfail_ok (c := (⟨L, rd, pr, ts, ad', cap', x.1.lb⟩ : Rc)) (s := failF x.2 21 (whF ts 0)) 34 (whF ts 0)) rfl rfl rfl rfl ⟨rfl, rfl, rfl, rfl, trivial⟩ rfl ?_
        have hP : endP ts (whF ts 0) x = outF x.1 (failF (failF x.2 21 (whF ts 0)) 34 (whF ts 0)) := by unfold endP; dsimp only; rw [show (if x.1.known = true then x.2 else failF x.2 21 (whF ts 0)) = failF x.2 21 (whF ts 0) by rw [hkn]; rfl, em, if_pos hr]
        refine ⟨fun he => ?_, fun he => ?_⟩
        · have he : (!decide ((failF (failF x.2 21 (whF ts 0)) 34 (whF ts 0)).e = 0)) = true := he
          have he : ¬ (failF (failF x.2 21 (whF ts 0)) 34 (whF ts 0)).e = 0 := by simpa using he
          have hO : outF x.1 (failF (failF x.2 21 (whF ts 0)) 34 (whF ts 0)) = ⟨in0, [], (failF (failF x.2 21 (whF ts 0)) 34 (whF ts 0)).e, (failF (failF x.2 21 (whF ts 0)) 34 (whF ts 0)).q⟩ := by unfold outF; rw [if_neg he]
          rw [hP, hO]
          refine WpC.dr tabOkF mixed 0 ?_
          refine ⟨by kernel_rfl, ?_⟩
          exact ⟨rfl, _, rfl⟩
        · have he : (!decide ((failF (failF x.2 21 (whF ts 0)) 34 (whF ts 0)).e = 0)) = false := he
          have he : (failF (failF x.2 21 (whF ts 0)) 34 (whF ts 0)).e = 0 := by simpa using he
          have hO : outF x.1 (failF (failF x.2 21 (whF ts 0)) 34 (whF ts 0)) = ⟨x.1.i, x.1.lb, 0, 0⟩ := by unfold outF; rw [if_pos he]
          rw [hP, hO]
          refine WpC.dr tabOkF mixed 0 ?_
          refine ⟨by kernel_rfl, ?_⟩
          exact ⟨rfl, _, rfl⟩
      · have hr : ¬ rgtF x.1.i 0 1 = 34 := of_decide_eq_false hr
        have hP : endP ts (whF ts 0) x = outF x.1 (failF x.2 21 (whF ts 0)) := by unfold endP; dsimp only; rw [show (if x.1.known = true then x.2 else failF x.2 21 (whF ts 0)) = failF x.2 21 (whF ts 0) by rw [hkn]; rfl, em, if_neg hr]
        refine ⟨fun he => ?_, fun he => ?_⟩
        · have he : (!decide ((failF x.2 21 (whF ts 0)).e = 0)) = true := he
          have he : ¬ (failF x.2 21 (whF ts 0)).e = 0 := by simpa using he
          have hO : outF x.1 (failF x.2 21 (whF ts 0)) = ⟨in0, [], (failF x.2 21 (whF ts 0)).e, (failF x.2 21 (whF ts 0)).q⟩ := by unfold outF; rw [if_neg he]
          rw [hP, hO]
          refine WpC.dr tabOkF mixed 0 ?_
          refine ⟨by kernel_rfl, ?_⟩
          exact ⟨rfl, _, rfl⟩
        · have he : (!decide ((failF x.2 21 (whF ts 0)).e = 0)) = false := he
          have he : (failF x.2 21 (whF ts 0)).e = 0 := by simpa using he
          have hO : outF x.1 (failF x.2 21 (whF ts 0)) = ⟨x.1.i, x.1.lb, 0, 0⟩ := by unfold outF; rw [if_pos he]
          rw [hP, hO]
          refine WpC.dr tabOkF mixed 0 ?_
          refine ⟨by kernel_rfl, ?_⟩
          exact ⟨rfl, _, rfl⟩
end SX
end Go.Proofs.YthkedcneehdinaaGreatDoor

/- Rows: instructions that come in. Written by rwa.py. -/
set_option linter.unusedVariables false
set_option maxRecDepth 100000
namespace Go.Proofs.YthkedcneehdinaaGreatDoor
open Go Go.ChangeShapes Go.WideShapes Go.ChangeAt Go.RowKit
theorem own : ownKnob Tryz.prog.godebug = none := by kernel_rfl
theorem compsOk : ∀ t, t < Tryz.prog.types.size → SX.CompsOk Tryz.prog (· < Tryz.prog.types.size) t := SX.compsOk_of (by kernel_rfl)
namespace SX
end SX
theorem and_tt {a b : Bool} (h1 : a = true) (h2 : b = true) : (a && b) = true := by rw [h1, h2]; rfl
theorem facts_of {P : Program} {f : FuncId} {fn : Func} {s : ChangeSpec} {c : OpenClaim} (h0 : (c.wf (OpenSpec.ofChange s)) = true) (h1 : (laidOutB P) = true) (h2 : (mapsRowed P) = true) (h3 : (fn.params.all (P.readableRec ·)) = true) (h4 : (namedTie P c.named s.vars) = true) (h5 : ((c.stops == [])) = true) (h6 : ((P.stops == [])) = true) (h7 : ((c.knobs == [])) = true) (h8 : ((P.stopKnobs == [])) = true) (h9 : ((c.inPlace == P.inPlace f)) = true) (h10 : ((c.unfollowed == P.unfollowed f)) = true) (h11 : ((c.recurses == P.recurses f)) = true) (h12 : ((c.named == P.varsNamed f)) = true) (h13 : ((c.maps == (fn.params.toList ++ s.plain.varTypes P).any (P.mapsRec ·))) = true) (h14 : ((c.ifaces == (fn.params.toList ++ s.plain.varTypes P).any (P.ifacesRec ·))) = true) (h15 : ((c.mapsOut == P.mapsAmong fn.resultTypes.toList)) = true) (h16 : ((c.loops == (fn.params.toList ++ s.plain.varTypes P).any (P.loopsFrom ·))) = true) (h17 : ((c.wideKeys == (fn.params.toList ++ s.plain.varTypes P ++ fn.resultTypes.toList).any (P.wideKeysFrom ·))) = true) (h18 : (s.vars.all (P.varReadable ·)) = true) (h19 : (fn.resultTypes.all (fun t => P.readableRec t && decide (t < P.types.size))) = true) (h20 : ((c.ifacesOut == fn.resultTypes.toList.any (P.ifacesRec ·))) = true) (h21 : ((c.loopsOut == fn.resultTypes.toList.any (P.loopsFrom ·))) = true) (h22 : ((c.plainKeys == P.plainKeys)) = true) (h23 : (c.shortTexts.isNone) = true) (h24 : (P.stopsHeard) = true) (h25 : (P.mayEnter) = true) (h26 : ((c.lifted == P.liftsFinal)) = true) (h27 : ((P.make == some c.make)) = true) (h28 : ((c.kinds == (if c.domain.isEmpty then [] else fn.params.toList.map fun t => match P.underlying t with | some (.int k) => some k | _ => none))) = true) (h29 : ((c.pinned == c.pinnedBy)) = true) (h30 : ((c.veiled == (fn.params.toList ++ s.plain.varTypes P ++ fn.resultTypes.toList).any (P.veiledRec ·))) = true) (h31 : (c.veiledFits P fn.params.toList (fn.params.toList ++ s.plain.varTypes P ++ fn.resultTypes.toList)) = true) : joinedFacts P f fn s c = true := by
  unfold joinedFacts
  exact (and_tt (and_tt (and_tt (and_tt (and_tt (and_tt (and_tt (and_tt (and_tt (and_tt (and_tt (and_tt (and_tt (and_tt (and_tt (and_tt (and_tt (and_tt (and_tt (and_tt (and_tt (and_tt (and_tt (and_tt (and_tt (and_tt (and_tt (and_tt (and_tt (and_tt (and_tt h0 h1) h2) h3) h4) h5) h6) h7) h8) h9) h10) h11) h12) h13) h14) h15) h16) h17) h18) h19) h20) h21) h22) h23) h24) h25) h26) h27) h28) h29) h30) h31)
section
variable {H : Type} {enc : TypeId × Value → H} {W : World} {b0 : Nat} {v : Value} {d : DataW H} {p : List MemPlace} {base : Nat} {spare : Nat → Bool} {held : Bool}
end
end Go.Proofs.YthkedcneehdinaaGreatDoor

/- Words of any text: how many, how long; x86.Parse of a row that stays. -/
set_option linter.unusedVariables false
set_option maxRecDepth 100000
namespace Go.Proofs.YthkedcneehdinaaGreatDoor
namespace SX
open Go Go.Proofs
theorem Cp.vac {X : List Value → World → (Value → World → Prop) → Prop} {args : List SV} {H : List SB} {K : SV → List SB → Prop} (h : ∀ m V, ¬ OkA m V args) : Cp X args H K := ⟨fun C E m w hr ha => absurd ha (h _ _)⟩
theorem imm_none {m : Mem} {V : List Nat} {ts : List Tk} {cap : Nat} (h : OkA m V [.imm Tk tk0 4 tkenc ts none cap]) : ts = [] := by
  simp only [OkA, Ok] at h
  by_cases he : ts = []
  · exact he
  · obtain ⟨_, _, _, _, h2, _⟩ := h.1.2.2.1 he
    cases h2
theorem tok_lens (s : List UInt8) : ∀ t ∈ (tokF s).1, t.s.length ≤ 8192 := by
  have key : ∀ (f p : Nat) (out : List Tk), s.length ≤ 8192 → (∀ t ∈ out, t.s.length ≤ 8192) → ∀ t ∈ (tokC s f p out).1, t.s.length ≤ 8192 := by
    intro f
    induction f with
    | zero => intro p out _ h; exact h
    | succ f ih =>
      intro p out hs h t ht
      unfold tokC at ht
      split at ht
      · exact h t ht
      · split at ht
        · exact ih _ _ hs h t ht
        · rename_i y hy
          refine ih _ _ hs (fun x hx => ?_) t ht
          rcases List.mem_append.1 hx with hx | hx
          · exact h x hx
          · rw [List.mem_singleton.1 hx]
            have := step_len hy
            rw [List.length_drop] at this
            omega
        · cases ht
  unfold tokF
  split
  · intro t ht; cases ht
  · exact key _ _ _ (by omega) fun t ht => by cases ht
theorem tok_count (s : List UInt8) : (tokF s).1.length ≤ 8192 := by
  have pos : ∀ (p : Nat) (y : Tk), p < s.length → stepF (s.drop p) p = .tok y → 1 ≤ y.s.length := by
    intro p y hp hy
    have hne : s.drop p ≠ [] := fun hh => by have := congrArg List.length hh; simp at this; omega
    unfold stepF at hy
    split at hy
    · cases hy
    split at hy
    · split at hy <;> cases hy
    split at hy
    · rename_i hd
      split at hy
      · cases hy
      · cases hy
        have : 0 < rowF numB (s.drop p) := rowF_pos hne (by unfold numB; rw [hd]; simp)
        show 1 ≤ (List.take _ _).length
        rw [List.length_take, List.length_drop]; omega
    split at hy
    · rename_i hl
      cases hy
      have : 0 < rowF namB (s.drop p) := rowF_pos hne (by
        unfold namB
        simp only [Bool.or_eq_true, decide_eq_true_eq] at hl ⊢
        rcases hl with hl | hl
        · exact .inl (.inl (.inl hl))
        · exact .inl (.inr hl))
      show 1 ≤ (List.take _ _).length
      rw [List.length_take, List.length_drop]; omega
    split at hy
    · cases hy
      show 1 ≤ (List.take _ _).length
      rw [List.length_take, List.length_drop]; omega
    split at hy
    · cases hy
      show 1 ≤ (List.take _ _).length
      rw [List.length_take, List.length_drop]; omega
    · cases hy
  have key : ∀ (f p : Nat) (out : List Tk), s.length ≤ 8192 → p ≤ s.length → out.length ≤ p → (tokC s f p out).1.length ≤ 8192 := by
    intro f
    induction f with
    | zero => intro p out hs hp h; exact Nat.le_trans h (by omega)
    | succ f ih =>
      intro p out hs hp h
      unfold tokC
      split
      · show out.length ≤ 8192; omega
      · split
        · rename_i n hn
          by_cases hq : p + n ≤ s.length
          · exact ih _ _ hs hq (by omega)
          · have e : ∀ g, tokC s g (p + n) out = (out, 0, 0) := fun g => tokC_end (by omega)
            rw [e]; show out.length ≤ 8192; omega
        · rename_i y hy
          have h1 := pos p y (by omega) hy
          have h2 := step_len hy
          rw [List.length_drop] at h2
          exact ih _ _ hs (by omega) (by rw [List.length_append, List.length_singleton]; omega)
        · exact Nat.zero_le _
  unfold tokF
  split
  · exact Nat.zero_le _
  · exact key _ _ _ (by omega) (Nat.zero_le _) (Nat.le_refl _)
theorem tk_at_len {s : List UInt8} {ts : List Tk} (h : (tokF s).1 = ts) (p : Nat) : (tkAt ts p).s.length ≤ 100000 := by
  unfold tkAt
  rw [List.getD_eq_getElem?_getD]
  cases hx : ts[p]? with
  | none => exact Nat.zero_le _
  | some t => exact Nat.le_trans (tok_lens s t (by rw [h]; exact List.mem_of_getElem? hx)) (by decide)
theorem eqI_rfl (i : In) : eqI i i = true := by unfold eqI; simp
def t77 : Tk := ⟨0, [], -77, 0⟩
theorem tk_take {ts : List Tk} {x : Tk} : ts = ((ts ++ [x]).drop 0).take ts.length := by simp
theorem bndIn {M : Nat} {i : In} : BndB M (.mem 23 (ienc i) 1 0) := ⟨rfl, rfl, rfl, rfl, rfl, rfl, rfl, rfl, rfl, rfl, rfl, rfl, rfl, rfl, rfl, rfl, rfl, trivial⟩
end SX
end Go.Proofs.YthkedcneehdinaaGreatDoor

/- RISC-V: an instruction read. Written by pwi.py. -/
set_option linter.unusedVariables false
set_option maxRecDepth 100000
namespace Go.Proofs.YthkedcneehdinaaGreatDoor
namespace SX
open Go Go.Proofs
variable {c : Rc} {s : RS}
def idx4 (s0 s1 s2 s3 v : List UInt8) : Int := if v = s0 then 0 else if v = s1 then 1 else if v = s2 then 2 else if v = s3 then 3 else -1
set_option maxHeartbeats 1000000 in
theorem index4_s (s0 s1 s2 s3 v : List UInt8) : Ctr Tryz.prog 102 [.sl 0 1 0 4 (some 4) 0, .s v] [strB [s0, s1, s2, s3]] (fun r h => r = .i .i64 (idx4 s0 s1 s2 s3 v) ∧ h = [strB [s0, s1, s2, s3]]) := by
  refine Ctr.enterG tabOkF (fn := Tryz.f102) rfl rfl rfl rfl rfl rfl ⟨⟨rfl, rfl, rfl, rfl, trivial⟩, trivial⟩ ?_
  refine WpC.loop tabOkF (β := Nat) (fun k => k ≤ 4 ∧ (0 < k → v ≠ s0) ∧ (1 < k → v ≠ s1) ∧ (2 < k → v ≠ s2) ∧ (3 < k → v ≠ s3)) (fun k => [(8, .i .i64 k)]) (fun _ => [strB [s0, s1, s2, s3]]) (fun k => 4 - k) 0 524080 ⟨by decide, fun h => absurd h (by decide), fun h => absurd h (by decide), fun h => absurd h (by decide), fun h => absurd h (by decide)⟩ ?_ ?_
  · exact ⟨rfl, ⟨⟨rfl, rfl, rfl⟩, trivial⟩, ⟨[], rfl⟩, ⟨⟨rfl, rfl, rfl, rfl, trivial⟩, trivial⟩, rfl⟩
  · rintro k ⟨hk, q0, q1, q2, q3⟩
    rcases (by omega : k = 0 ∨ k = 1 ∨ k = 2 ∨ k = 3 ∨ k = 4) with rfl | rfl | rfl | rfl | rfl
    · refine ⟨fun _ => ?_, fun h => absurd h (by decide)⟩
      refine ⟨fun _ => by decide, ?_⟩
      refine ⟨fun h => ?_, fun h => ?_⟩
      · have e : v = s0 := of_decide_eq_true h
        refine ⟨i_cg ?_, _, rfl⟩
        unfold idx4
        rw [if_pos e]
        rfl
      · have e0 : ¬ v = s0 := of_decide_eq_false h
        exact ⟨1, ⟨by decide, fun _ => e0, fun h => absurd h (by decide), fun h => absurd h (by decide), fun h => absurd h (by decide)⟩, by decide, rfl, ⟨⟨rfl, rfl, rfl⟩, trivial⟩, ⟨[], rfl⟩, ⟨⟨rfl, rfl, rfl, rfl, trivial⟩, trivial⟩, rfl⟩
    · have e0 := q0 (by decide)
      refine ⟨fun _ => ?_, fun h => absurd h (by decide)⟩
      refine ⟨fun _ => by decide, ?_⟩
      refine ⟨fun h => ?_, fun h => ?_⟩
      · have e : v = s1 := of_decide_eq_true h
        refine ⟨i_cg ?_, _, rfl⟩
        unfold idx4
        rw [if_neg e0]
        rw [if_pos e]
        rfl
      · have e1 : ¬ v = s1 := of_decide_eq_false h
        exact ⟨2, ⟨by decide, fun _ => e0, fun _ => e1, fun h => absurd h (by decide), fun h => absurd h (by decide)⟩, by decide, rfl, ⟨⟨rfl, rfl, rfl⟩, trivial⟩, ⟨[], rfl⟩, ⟨⟨rfl, rfl, rfl, rfl, trivial⟩, trivial⟩, rfl⟩
    · have e0 := q0 (by decide)
      have e1 := q1 (by decide)
      refine ⟨fun _ => ?_, fun h => absurd h (by decide)⟩
      refine ⟨fun _ => by decide, ?_⟩
      refine ⟨fun h => ?_, fun h => ?_⟩
      · have e : v = s2 := of_decide_eq_true h
        refine ⟨i_cg ?_, _, rfl⟩
        unfold idx4
        rw [if_neg e0]
        rw [if_neg e1]
        rw [if_pos e]
        rfl
      · have e2 : ¬ v = s2 := of_decide_eq_false h
        exact ⟨3, ⟨by decide, fun _ => e0, fun _ => e1, fun _ => e2, fun h => absurd h (by decide)⟩, by decide, rfl, ⟨⟨rfl, rfl, rfl⟩, trivial⟩, ⟨[], rfl⟩, ⟨⟨rfl, rfl, rfl, rfl, trivial⟩, trivial⟩, rfl⟩
    · have e0 := q0 (by decide)
      have e1 := q1 (by decide)
      have e2 := q2 (by decide)
      refine ⟨fun _ => ?_, fun h => absurd h (by decide)⟩
      refine ⟨fun _ => by decide, ?_⟩
      refine ⟨fun h => ?_, fun h => ?_⟩
      · have e : v = s3 := of_decide_eq_true h
        refine ⟨i_cg ?_, _, rfl⟩
        unfold idx4
        rw [if_neg e0]
        rw [if_neg e1]
        rw [if_neg e2]
        rw [if_pos e]
        rfl
      · have e3 : ¬ v = s3 := of_decide_eq_false h
        exact ⟨4, ⟨by decide, fun _ => e0, fun _ => e1, fun _ => e2, fun _ => e3⟩, by decide, rfl, ⟨⟨rfl, rfl, rfl⟩, trivial⟩, ⟨[], rfl⟩, ⟨⟨rfl, rfl, rfl, rfl, trivial⟩, trivial⟩, rfl⟩
    · have e0 := q0 (by decide)
      have e1 := q1 (by decide)
      have e2 := q2 (by decide)
      have e3 := q3 (by decide)
      refine ⟨fun h => absurd h (by decide), fun _ => ⟨i_cg ?_, _, rfl⟩⟩
      unfold idx4
      rw [if_neg e0, if_neg e1, if_neg e2, if_neg e3]
theorem cut_len (s e : List UInt8) : (cutS s e).length ≤ s.length := by
  unfold cutS
  split
  · simp
  · exact Nat.le_refl _
end SX
end Go.Proofs.YthkedcneehdinaaGreatDoor

/- Arm: names of memory operations, barriers. Written by pwk.py. -/
set_option linter.unusedVariables false
set_option maxRecDepth 100000
namespace Go.Proofs.YthkedcneehdinaaGreatDoor
namespace SX
open Go Go.Proofs
variable {c : Rc} {s : RS}
def idx3 (s0 s1 s2 v : List UInt8) : Int := if v = s0 then 0 else if v = s1 then 1 else if v = s2 then 2 else -1
set_option maxHeartbeats 1000000 in
theorem index3_s (s0 s1 s2 v : List UInt8) : Ctr Tryz.prog 102 [.sl 0 1 0 3 (some 3) 0, .s v] [strB [s0, s1, s2]] (fun r h => r = .i .i64 (idx3 s0 s1 s2 v) ∧ h = [strB [s0, s1, s2]]) := by
  refine Ctr.enterG tabOkF (fn := Tryz.f102) rfl rfl rfl rfl rfl rfl ⟨⟨rfl, rfl, rfl, trivial⟩, trivial⟩ ?_
  refine WpC.loop tabOkF (β := Nat) (fun k => k ≤ 3 ∧ (0 < k → v ≠ s0) ∧ (1 < k → v ≠ s1) ∧ (2 < k → v ≠ s2)) (fun k => [(8, .i .i64 k)]) (fun _ => [strB [s0, s1, s2]]) (fun k => 3 - k) 0 524080 ⟨by decide, fun h => absurd h (by decide), fun h => absurd h (by decide), fun h => absurd h (by decide)⟩ ?_ ?_
  · exact ⟨rfl, ⟨⟨rfl, rfl, rfl⟩, trivial⟩, ⟨[], rfl⟩, ⟨⟨rfl, rfl, rfl, trivial⟩, trivial⟩, rfl⟩
  · rintro k ⟨hk, q0, q1, q2⟩
    rcases (by omega : k = 0 ∨ k = 1 ∨ k = 2 ∨ k = 3) with rfl | rfl | rfl | rfl
    · refine ⟨fun _ => ?_, fun h => absurd h (by decide)⟩
      refine ⟨fun _ => by decide, ?_⟩
      refine ⟨fun h => ?_, fun h => ?_⟩
      · have e : v = s0 := of_decide_eq_true h
        refine ⟨i_cg ?_, _, rfl⟩
        unfold idx3
        rw [if_pos e]
        rfl
      · have e0 : ¬ v = s0 := of_decide_eq_false h
        exact ⟨1, ⟨by decide, fun _ => e0, fun h => absurd h (by decide), fun h => absurd h (by decide)⟩, by decide, rfl, ⟨⟨rfl, rfl, rfl⟩, trivial⟩, ⟨[], rfl⟩, ⟨⟨rfl, rfl, rfl, trivial⟩, trivial⟩, rfl⟩
    · have e0 := q0 (by decide)
      refine ⟨fun _ => ?_, fun h => absurd h (by decide)⟩
      refine ⟨fun _ => by decide, ?_⟩
      refine ⟨fun h => ?_, fun h => ?_⟩
      · have e : v = s1 := of_decide_eq_true h
        refine ⟨i_cg ?_, _, rfl⟩
        unfold idx3
        rw [if_neg e0]
        rw [if_pos e]
        rfl
      · have e1 : ¬ v = s1 := of_decide_eq_false h
        exact ⟨2, ⟨by decide, fun _ => e0, fun _ => e1, fun h => absurd h (by decide)⟩, by decide, rfl, ⟨⟨rfl, rfl, rfl⟩, trivial⟩, ⟨[], rfl⟩, ⟨⟨rfl, rfl, rfl, trivial⟩, trivial⟩, rfl⟩
    · have e0 := q0 (by decide)
      have e1 := q1 (by decide)
      refine ⟨fun _ => ?_, fun h => absurd h (by decide)⟩
      refine ⟨fun _ => by decide, ?_⟩
      refine ⟨fun h => ?_, fun h => ?_⟩
      · have e : v = s2 := of_decide_eq_true h
        refine ⟨i_cg ?_, _, rfl⟩
        unfold idx3
        rw [if_neg e0]
        rw [if_neg e1]
        rw [if_pos e]
        rfl
      · have e2 : ¬ v = s2 := of_decide_eq_false h
        exact ⟨3, ⟨by decide, fun _ => e0, fun _ => e1, fun _ => e2⟩, by decide, rfl, ⟨⟨rfl, rfl, rfl⟩, trivial⟩, ⟨[], rfl⟩, ⟨⟨rfl, rfl, rfl, trivial⟩, trivial⟩, rfl⟩
    · have e0 := q0 (by decide)
      have e1 := q1 (by decide)
      have e2 := q2 (by decide)
      refine ⟨fun h => absurd h (by decide), fun _ => ⟨i_cg ?_, _, rfl⟩⟩
      unfold idx3
      rw [if_neg e0, if_neg e1, if_neg e2]
theorem contains4_s (s0 s1 s2 s3 v : List UInt8) : Ctr Tryz.prog 217 [.sl 0 1 0 4 (some 4) 0, .s v] [strB [s0, s1, s2, s3]] (fun r h => r = .b (decide (0 ≤ idx4 s0 s1 s2 s3 v)) ∧ h = [strB [s0, s1, s2, s3]]) := by
  refine Ctr.enterG tabOkF (fn := Tryz.f217) rfl rfl rfl rfl rfl rfl ⟨⟨rfl, rfl, rfl, rfl, trivial⟩, trivial⟩ ?_
  refine OpC.callH rfl rfl rfl rfl [0] rfl (index4_s s0 s1 s2 s3 v) rfl rfl rfl rfl ⟨rfl, trivial⟩ rfl ?_
  exact ⟨rfl, _, rfl⟩
theorem sSuf_w (s p : List UInt8) (hs : s.length ≤ 1000000) (hp : p.length ≤ 1000000) : CtrV Tryz.prog 218 [.s s, .s p] (.b (sufB s p)) := by
  refine Ctr.enterV tabOkF (fn := Tryz.f218) rfl rfl rfl rfl rfl rfl ?_
  refine OpC.callV rfl rfl rfl rfl rfl rfl rfl (fun _ => hasSuf_w s p hs hp) ?_
  exact rfl
def aFnB : SB := strB [[], [65, 68, 68], [83, 85, 66], [69, 79, 82], [65, 78, 68], [79, 82, 82]]
theorem afunctions_ok : Ctr Tryz.prog 173 [] [] (fun r h => r = .sl 0 1 0 6 (some 6) 0 ∧ h = [aFnB]) :=
  memo_of (tr := treeF) (ft := ftree) (ms := []) (n := 40) (m := Memo.mk 173 [] [] (.sl 0 1 0 6 (some 6) 0) [aFnB]) tabOkF ftOk mixed (by intro m hm; cases hm) (by decide +kernel)
theorem rest_in (v : List UInt8) : 0 ≤ idx4 [] [65] [76] [65, 76] v ↔ (v = [] ∨ v = [65] ∨ v = [76] ∨ v = [65, 76]) := by
  unfold idx4
  constructor
  · intro h
    split at h
    · rename_i e; exact .inl e
    split at h
    · rename_i e; exact .inr (.inl e)
    split at h
    · rename_i e; exact .inr (.inr (.inl e))
    split at h
    · rename_i e; exact .inr (.inr (.inr e))
    · exact absurd h (by decide)
  · rintro (rfl | rfl | rfl | rfl) <;> decide
theorem siz_len (e0 e1 e2 e3 nm : List UInt8) : (sizP e0 e1 e2 e3 nm).1.length ≤ nm.length := by
  unfold sizP
  repeat' split
  all_goals first | exact cut_len _ _ | exact Nat.le_refl _
set_option maxHeartbeats 4000000 in
theorem memory_w (nm : List UInt8) (hn : nm.length ≤ 100000) : CtrV Tryz.prog 176 [.s nm] (.tup [.agg (ienc (memA nm).1), .b (memA nm).2]) := by
  have hsz := size_w nm [66] [72] [87] [] (by omega) (by decide) (by decide) (by decide) (by decide)
  have hwl := siz_len [66] [72] [87] [] nm
  unfold memA sizA
  dsimp only
  obtain ⟨w, z, hz⟩ : ∃ w z, sizP [66] [72] [87] [] nm = (w, z) := ⟨_, _, rfl⟩
  rw [hz] at hsz hwl ⊢
  dsimp only at hsz hwl ⊢
  by_cases e1 : w = [76, 68, 82]
  · subst e1
    rw [if_pos (.inl rfl)]
    refine Ctr.enterV tabOkF (fn := Tryz.f176) rfl rfl rfl rfl rfl rfl ?_
    refine OpC.callH rfl rfl rfl rfl [1] rfl hsz rfl rfl rfl rfl ⟨rfl, trivial⟩ rfl ?_
    refine ⟨fun _ => ?_, fun h => no_tf h⟩
    refine ⟨fun _ => ?_, fun h => no_tf h⟩
    refine OpC.callV rfl rfl rfl rfl rfl rfl rfl (fun _ => none_w 4) ?_
    exact rfl
  by_cases e2 : w = [76, 68, 65, 82]
  · subst e2
    rw [if_pos (.inr (.inl rfl))]
    refine Ctr.enterV tabOkF (fn := Tryz.f176) rfl rfl rfl rfl rfl rfl ?_
    refine OpC.callH rfl rfl rfl rfl [1] rfl hsz rfl rfl rfl rfl ⟨rfl, trivial⟩ rfl ?_
    refine ⟨fun h => no_ft h, fun _ => ?_⟩
    refine ⟨fun _ => ?_, fun h => no_tf h⟩
    refine ⟨fun _ => ?_, fun h => no_tf h⟩
    refine OpC.callV rfl rfl rfl rfl rfl rfl rfl (fun _ => none_w 4) ?_
    exact rfl
  by_cases e3 : w = [76, 68, 65, 80, 82]
  · subst e3
    rw [if_pos (.inr (.inr rfl))]
    refine Ctr.enterV tabOkF (fn := Tryz.f176) rfl rfl rfl rfl rfl rfl ?_
    refine OpC.callH rfl rfl rfl rfl [1] rfl hsz rfl rfl rfl rfl ⟨rfl, trivial⟩ rfl ?_
    refine ⟨fun h => no_ft h, fun _ => ?_⟩
    refine ⟨fun h => no_ft h, fun _ => ?_⟩
    refine ⟨fun _ => ?_, fun h => no_tf h⟩
    refine OpC.callV rfl rfl rfl rfl rfl rfl rfl (fun _ => none_w 4) ?_
    exact rfl
  rw [if_neg (fun hh => hh.elim e1 (fun q => q.elim e2 e3))]
  by_cases e4 : w = [83, 84, 82]
  · subst e4
    rw [if_pos (.inl rfl)]
    refine Ctr.enterV tabOkF (fn := Tryz.f176) rfl rfl rfl rfl rfl rfl ?_
    refine OpC.callH rfl rfl rfl rfl [1] rfl hsz rfl rfl rfl rfl ⟨rfl, trivial⟩ rfl ?_
    refine ⟨fun h => no_ft h, fun _ => ?_⟩
    refine ⟨fun h => no_ft h, fun _ => ?_⟩
    refine ⟨fun h => no_ft h, fun _ => ?_⟩
    refine ⟨fun _ => ?_, fun h => no_tf h⟩
    refine ⟨fun _ => ?_, fun h => no_tf h⟩
    refine OpC.callV rfl rfl rfl rfl rfl rfl rfl (fun _ => none_w 5) ?_
    exact rfl
  by_cases e5 : w = [83, 84, 76, 82]
  · subst e5
    rw [if_pos (.inr rfl)]
    refine Ctr.enterV tabOkF (fn := Tryz.f176) rfl rfl rfl rfl rfl rfl ?_
    refine OpC.callH rfl rfl rfl rfl [1] rfl hsz rfl rfl rfl rfl ⟨rfl, trivial⟩ rfl ?_
    refine ⟨fun h => no_ft h, fun _ => ?_⟩
    refine ⟨fun h => no_ft h, fun _ => ?_⟩
    refine ⟨fun h => no_ft h, fun _ => ?_⟩
    refine ⟨fun h => no_ft h, fun _ => ?_⟩
    refine ⟨fun _ => ?_, fun h => no_tf h⟩
    refine OpC.callV rfl rfl rfl rfl rfl rfl rfl (fun _ => none_w 5) ?_
    exact rfl
  rw [if_neg (fun hh => hh.elim e4 e5)]
  have hs := cutPrefix_ok w [83, 87, 80]
  have ha := cutPrefix_ok w [76, 68, 65, 68, 68]
  cases k1 : pre w [83, 87, 80] with
  | true =>
    rw [if_pos rfl]
    rw [show cutP w [83, 87, 80] = w.drop 3 by unfold cutP; rw [if_pos k1, List.take_length]; rfl, k1] at hs
    have hr : (w.drop 3).length ≤ 1000000 := by rw [List.length_drop]; omega
    have hc := contains4_s [] [65] [76] [65, 76] (w.drop 3)
    have hp := hasPrefix_ok (w.drop 3) [65]
    have hq := sSuf_w (w.drop 3) [76] hr (by decide)
    generalize w.drop 3 = v at *
    unfold restA
    by_cases hv : v = [] ∨ v = [65] ∨ v = [76] ∨ v = [65, 76]
    · rw [if_pos hv]
      have hi := (rest_in v).2 hv
      refine Ctr.enterV tabOkF (fn := Tryz.f176) rfl rfl rfl rfl rfl rfl ?_
      refine OpC.callH rfl rfl rfl rfl [1] rfl hsz rfl rfl rfl rfl ⟨rfl, trivial⟩ rfl ?_
      refine ⟨fun h => ?_, fun _ => ?_⟩
      · have h : decide (w = [76, 68, 82]) = true := h
        rw [decide_eq_false e1] at h; cases h
      refine ⟨fun h => ?_, fun _ => ?_⟩
      · have h : decide (w = [76, 68, 65, 82]) = true := h
        rw [decide_eq_false e2] at h; cases h
      refine ⟨fun h => ?_, fun _ => ?_⟩
      · have h : decide (w = [76, 68, 65, 80, 82]) = true := h
        rw [decide_eq_false e3] at h; cases h
      refine ⟨fun h => ?_, fun _ => ?_⟩
      · have h : decide (w = [83, 84, 82]) = true := h
        rw [decide_eq_false e4] at h; cases h
      refine ⟨fun h => ?_, fun _ => ?_⟩
      · have h : decide (w = [83, 84, 76, 82]) = true := h
        rw [decide_eq_false e5] at h; cases h
      refine OpC.callV rfl rfl rfl rfl rfl rfl rfl (fun _ => none_w 6) ?_
      refine OpC.callV rfl rfl rfl rfl rfl rfl rfl (fun _ => hs) ?_
      refine ⟨fun h => no_ft h, fun _ => ?_⟩
      refine OpC.callH rfl rfl rfl rfl [2] rfl hc rfl rfl rfl rfl ⟨rfl, trivial⟩ rfl ?_
      refine ⟨fun h => ?_, fun _ => ?_⟩
      · have h : (!decide (0 ≤ idx4 [] [65] [76] [65, 76] v)) = true := h
        rw [decide_eq_true hi] at h; cases h
      refine OpC.callV rfl rfl rfl rfl rfl rfl rfl (fun _ => hp) ?_
      refine OpC.callV rfl rfl rfl rfl rfl rfl rfl (fun _ => hq) ?_
      exact rfl
    · rw [if_neg hv]
      have hi : ¬ 0 ≤ idx4 [] [65] [76] [65, 76] v := fun hh => hv ((rest_in v).1 hh)
      refine Ctr.enterV tabOkF (fn := Tryz.f176) rfl rfl rfl rfl rfl rfl ?_
      refine OpC.callH rfl rfl rfl rfl [1] rfl hsz rfl rfl rfl rfl ⟨rfl, trivial⟩ rfl ?_
      refine ⟨fun h => ?_, fun _ => ?_⟩
      · have h : decide (w = [76, 68, 82]) = true := h
        rw [decide_eq_false e1] at h; cases h
      refine ⟨fun h => ?_, fun _ => ?_⟩
      · have h : decide (w = [76, 68, 65, 82]) = true := h
        rw [decide_eq_false e2] at h; cases h
      refine ⟨fun h => ?_, fun _ => ?_⟩
      · have h : decide (w = [76, 68, 65, 80, 82]) = true := h
        rw [decide_eq_false e3] at h; cases h
      refine ⟨fun h => ?_, fun _ => ?_⟩
      · have h : decide (w = [83, 84, 82]) = true := h
        rw [decide_eq_false e4] at h; cases h
      refine ⟨fun h => ?_, fun _ => ?_⟩
      · have h : decide (w = [83, 84, 76, 82]) = true := h
        rw [decide_eq_false e5] at h; cases h
      refine OpC.callV rfl rfl rfl rfl rfl rfl rfl (fun _ => none_w 6) ?_
      refine OpC.callV rfl rfl rfl rfl rfl rfl rfl (fun _ => hs) ?_
      refine ⟨fun h => no_ft h, fun _ => ?_⟩
      refine OpC.callH rfl rfl rfl rfl [2] rfl hc rfl rfl rfl rfl ⟨rfl, trivial⟩ rfl ?_
      refine ⟨fun _ => ?_, fun h => ?_⟩
      rotate_left
      · have h : (!decide (0 ≤ idx4 [] [65] [76] [65, 76] v)) = false := h
        rw [decide_eq_false hi] at h; cases h
      exact rfl
  | false =>
    rw [if_neg (by decide)]
    rw [k1] at hs
    cases k2 : pre w [76, 68, 65, 68, 68] with
    | true =>
      rw [if_pos rfl]
      rw [show cutP w [76, 68, 65, 68, 68] = w.drop 5 by unfold cutP; rw [if_pos k2, List.take_length]; rfl, k2] at ha
      generalize cutP w [83, 87, 80] = vs at *
      have hr : (w.drop 5).length ≤ 1000000 := by rw [List.length_drop]; omega
      have hc := contains4_s [] [65] [76] [65, 76] (w.drop 5)
      have hp := hasPrefix_ok (w.drop 5) [65]
      have hq := sSuf_w (w.drop 5) [76] hr (by decide)
      generalize w.drop 5 = v at *
      unfold restA
      by_cases hv : v = [] ∨ v = [65] ∨ v = [76] ∨ v = [65, 76]
      · rw [if_pos hv]
        have hi := (rest_in v).2 hv
        refine Ctr.enterV tabOkF (fn := Tryz.f176) rfl rfl rfl rfl rfl rfl ?_
        refine OpC.callH rfl rfl rfl rfl [1] rfl hsz rfl rfl rfl rfl ⟨rfl, trivial⟩ rfl ?_
        refine ⟨fun h => ?_, fun _ => ?_⟩
        · have h : decide (w = [76, 68, 82]) = true := h
          rw [decide_eq_false e1] at h; cases h
        refine ⟨fun h => ?_, fun _ => ?_⟩
        · have h : decide (w = [76, 68, 65, 82]) = true := h
          rw [decide_eq_false e2] at h; cases h
        refine ⟨fun h => ?_, fun _ => ?_⟩
        · have h : decide (w = [76, 68, 65, 80, 82]) = true := h
          rw [decide_eq_false e3] at h; cases h
        refine ⟨fun h => ?_, fun _ => ?_⟩
        · have h : decide (w = [83, 84, 82]) = true := h
          rw [decide_eq_false e4] at h; cases h
        refine ⟨fun h => ?_, fun _ => ?_⟩
        · have h : decide (w = [83, 84, 76, 82]) = true := h
          rw [decide_eq_false e5] at h; cases h
        refine OpC.callV rfl rfl rfl rfl rfl rfl rfl (fun _ => none_w 6) ?_
        refine OpC.callV rfl rfl rfl rfl rfl rfl rfl (fun _ => hs) ?_
        refine ⟨fun _ => ?_, fun h => no_tf h⟩
        refine OpC.callV rfl rfl rfl rfl rfl rfl rfl (fun _ => ha) ?_
        refine ⟨fun h => no_ft h, fun _ => ?_⟩
        refine OpC.callH rfl rfl rfl rfl [2] rfl hc rfl rfl rfl rfl ⟨rfl, trivial⟩ rfl ?_
        refine ⟨fun h => ?_, fun _ => ?_⟩
        · have h : (!decide (0 ≤ idx4 [] [65] [76] [65, 76] v)) = true := h
          rw [decide_eq_true hi] at h; cases h
        refine OpC.callV rfl rfl rfl rfl rfl rfl rfl (fun _ => hp) ?_
        refine OpC.callV rfl rfl rfl rfl rfl rfl rfl (fun _ => hq) ?_
        exact rfl
      · rw [if_neg hv]
        have hi : ¬ 0 ≤ idx4 [] [65] [76] [65, 76] v := fun hh => hv ((rest_in v).1 hh)
        refine Ctr.enterV tabOkF (fn := Tryz.f176) rfl rfl rfl rfl rfl rfl ?_
        refine OpC.callH rfl rfl rfl rfl [1] rfl hsz rfl rfl rfl rfl ⟨rfl, trivial⟩ rfl ?_
        refine ⟨fun h => ?_, fun _ => ?_⟩
        · have h : decide (w = [76, 68, 82]) = true := h
          rw [decide_eq_false e1] at h; cases h
        refine ⟨fun h => ?_, fun _ => ?_⟩
        · have h : decide (w = [76, 68, 65, 82]) = true := h
          rw [decide_eq_false e2] at h; cases h
        refine ⟨fun h => ?_, fun _ => ?_⟩
        · have h : decide (w = [76, 68, 65, 80, 82]) = true := h
          rw [decide_eq_false e3] at h; cases h
        refine ⟨fun h => ?_, fun _ => ?_⟩
        · have h : decide (w = [83, 84, 82]) = true := h
          rw [decide_eq_false e4] at h; cases h
        refine ⟨fun h => ?_, fun _ => ?_⟩
        · have h : decide (w = [83, 84, 76, 82]) = true := h
          rw [decide_eq_false e5] at h; cases h
        refine OpC.callV rfl rfl rfl rfl rfl rfl rfl (fun _ => none_w 6) ?_
        refine OpC.callV rfl rfl rfl rfl rfl rfl rfl (fun _ => hs) ?_
        refine ⟨fun _ => ?_, fun h => no_tf h⟩
        refine OpC.callV rfl rfl rfl rfl rfl rfl rfl (fun _ => ha) ?_
        refine ⟨fun h => no_ft h, fun _ => ?_⟩
        refine OpC.callH rfl rfl rfl rfl [2] rfl hc rfl rfl rfl rfl ⟨rfl, trivial⟩ rfl ?_
        refine ⟨fun _ => ?_, fun h => ?_⟩
        rotate_left
        · have h : (!decide (0 ≤ idx4 [] [65] [76] [65, 76] v)) = false := h
          rw [decide_eq_false hi] at h; cases h
        exact rfl
    | false =>
      rw [if_neg (by decide)]
      rw [k2] at ha
      refine Ctr.enterV tabOkF (fn := Tryz.f176) rfl rfl rfl rfl rfl rfl ?_
      refine OpC.callH rfl rfl rfl rfl [1] rfl hsz rfl rfl rfl rfl ⟨rfl, trivial⟩ rfl ?_
      refine ⟨fun h => ?_, fun _ => ?_⟩
      · have h : decide (w = [76, 68, 82]) = true := h
        rw [decide_eq_false e1] at h; cases h
      refine ⟨fun h => ?_, fun _ => ?_⟩
      · have h : decide (w = [76, 68, 65, 82]) = true := h
        rw [decide_eq_false e2] at h; cases h
      refine ⟨fun h => ?_, fun _ => ?_⟩
      · have h : decide (w = [76, 68, 65, 80, 82]) = true := h
        rw [decide_eq_false e3] at h; cases h
      refine ⟨fun h => ?_, fun _ => ?_⟩
      · have h : decide (w = [83, 84, 82]) = true := h
        rw [decide_eq_false e4] at h; cases h
      refine ⟨fun h => ?_, fun _ => ?_⟩
      · have h : decide (w = [83, 84, 76, 82]) = true := h
        rw [decide_eq_false e5] at h; cases h
      refine OpC.callV rfl rfl rfl rfl rfl rfl rfl (fun _ => none_w 6) ?_
      refine OpC.callV rfl rfl rfl rfl rfl rfl rfl (fun _ => hs) ?_
      refine ⟨fun _ => ?_, fun h => no_tf h⟩
      refine OpC.callV rfl rfl rfl rfl rfl rfl rfl (fun _ => ha) ?_
      refine ⟨fun _ => ?_, fun h => no_tf h⟩
      exact rfl
end SX
end Go.Proofs.YthkedcneehdinaaGreatDoor

/- Arm: an instruction read. Written by pwl.py. -/
set_option linter.unusedVariables false
set_option maxRecDepth 100000
namespace Go.Proofs.YthkedcneehdinaaGreatDoor
namespace SX
open Go Go.Proofs
variable {c : Rc} {s : RS}
def barC (k : Nat) : SB := .mem 67 [.sl k 1 0 3 (some 3) 0] 1 0
theorem bar1_w (v : List UInt8) : Ctr Tryz.prog 175 [.s v, .ptr 0 1 0 []] [barC 1, strB [[83, 89], [76, 68], [83, 84]]] (fun r h => r = .i .i64 (brI v) ∧ h = [barC 1, strB [[83, 89], [76, 68], [83, 84]]]) := by
  refine Ctr.enterG tabOkF (fn := Tryz.f175) rfl rfl rfl rfl rfl rfl ⟨⟨rfl, trivial⟩, ⟨rfl, rfl, rfl, trivial⟩, trivial⟩ ?_
  refine OpC.callH rfl rfl rfl rfl [1] rfl (index3_s [83, 89] [76, 68] [83, 84] v) rfl rfl rfl rfl ⟨rfl, trivial⟩ rfl ?_
  exact ⟨rfl, _, rfl⟩
def hC (c : Rc) (s : RS) : List SB := [rowS c.L.s0 c.L.s1 c.L.s2 c.L.s3 c.L.s4 c.L.s5 c.L.s6 c.L.s7, langB c.L.h c.rd c.pr, curB c.ts c.ad c.cap s.p, rdrB 2 1 c.lb s.e s.q, barC 5, strB [[83, 89], [76, 68], [83, 84]]]
theorem bndC {c : Rc} {s : RS} : BndH 6 (hC c s) := ⟨⟨rfl, rfl, rfl, rfl, rfl, rfl, rfl, rfl, trivial⟩, ⟨rfl, rfl, rfl, rfl, trivial⟩, bndCur, ⟨rfl, rfl, rfl, rfl, rfl, trivial⟩, ⟨rfl, trivial⟩, ⟨rfl, rfl, rfl, trivial⟩, trivial⟩
theorem of_bar (hk : Rk c s) : Ctr Tryz.prog 159 [.ptr 3 1 0 [], .fn 175 [.ptr 4 1 0 []]] (hC c s) (fun r h => r = .i .i64 (ofP brI c.ts s).1 ∧ h = hC c (ofP brI c.ts s).2) := by
  have hw := rword_w hk
  by_cases h0 : brI (wordP c.ts s).1 < 0
  · rw [of_lt h0]
    refine Ctr.enterH tabOkF (fn := Tryz.f159) rfl rfl rfl rfl rfl rfl bndC (Nat.le_refl _) ?_
    refine OpC.callH rfl rfl rfl rfl [0, 1, 2, 3] rfl hw rfl rfl rfl rfl ⟨rfl, rfl, rfl, rfl, trivial⟩ rfl ?_
    refine OpC.callH rfl rfl rfl rfl [4, 5] rfl (bar1_w _) rfl rfl rfl rfl ⟨rfl, rfl, trivial⟩ rfl ?_
    refine ⟨fun _ => ?_, fun h => absurd h0 (of_decide_eq_false h)⟩
    refine OpC.callH rfl rfl rfl rfl [0, 1, 2, 3] rfl (rfail_ok (s := (wordP c.ts s).2) 21 (whF c.ts s.p)) rfl rfl rfl rfl ⟨rfl, rfl, rfl, rfl, trivial⟩ rfl ?_
    exact ⟨rfl, _, rfl⟩
  · rw [of_ge h0]
    refine Ctr.enterH tabOkF (fn := Tryz.f159) rfl rfl rfl rfl rfl rfl bndC (Nat.le_refl _) ?_
    refine OpC.callH rfl rfl rfl rfl [0, 1, 2, 3] rfl hw rfl rfl rfl rfl ⟨rfl, rfl, rfl, rfl, trivial⟩ rfl ?_
    refine OpC.callH rfl rfl rfl rfl [4, 5] rfl (bar1_w _) rfl rfl rfl rfl ⟨rfl, rfl, trivial⟩ rfl ?_
    refine ⟨fun h => absurd (of_decide_eq_true h) h0, fun _ => ?_⟩
    exact ⟨rfl, _, rfl⟩
theorem barriers_ok : Ctr Tryz.prog 174 [] [] (fun r h => r = .tup [.sl 0 1 0 3 (some 3) 0, .sl 1 1 0 3 (some 3) 0] ∧ h = [strB [[83, 89], [76, 68], [83, 84]], .mem 190 [.i .i64 3, .i .i64 3, .i .i64 1, .i .i64 3, .i .i64 2, .i .i64 2] 1 0]) := ArmBar_ok
theorem brI_3 (ts : List Tk) (s : RS) : (ofP brI ts s).1 = 0 ∨ (ofP brI ts s).1 = 1 ∨ (ofP brI ts s).1 = 2 := by
  unfold ofP
  split
  · exact .inl rfl
  · rename_i h
    unfold brI at h ⊢
    dsimp only
    split
    · exact .inl rfl
    split
    · exact .inr (.inl rfl)
    split
    · exact .inr (.inr rfl)
    · rename_i a b d
      rw [if_neg a, if_neg b, if_neg d] at h
      exact absurd (by decide) h
set_option maxHeartbeats 8000000 in
theorem arm_read : ReadOk readAP lgA 103 := by
  rintro ⟨L, rd, pr, ts, ad, cap, lb⟩ s nm hL hlb hk hn
  dsimp only at hL hlb
  subst hL hlb
  have hfn := index6_s [] [65, 68, 68] [83, 85, 66] [69, 79, 82] [65, 78, 68] [79, 82, 82] nm
  have hmy := memory_w nm hn
  have hr := hk.reg
  have hm := hr.mark [44]
  have hr2 := hm.reg
  have hm2 := hr2.mark [44]
  unfold readAP fnA
  dsimp only
  generalize idx6 [] [65, 68, 68] [83, 85, 66] [69, 79, 82] [65, 78, 68] [79, 82, 82] nm = fn at *
  by_cases h1 : nm = [77, 79, 86]
  · rw [if_pos h1]
    dsimp only
    have he := hm.eit
    generalize hw : eitP lgA ts (markP ts [44] (regP lgA ts s).2) = w at *
    by_cases h7 : 0 ≤ w.1.1
    · rw [if_pos h7]
      refine Ctr.enterH tabOkF (fn := Tryz.f103) rfl rfl rfl rfl rfl rfl bndR (Nat.le_refl _) ?_
      refine OpC.callL rfl rfl rfl rfl [] 1 rfl rfl rfl afunctions_ok rfl rfl rfl rfl trivial rfl (fun r H' hk => ?_) ?_
      · obtain ⟨rfl, rfl⟩ := hk; exact ⟨Nat.zero_le _, Nat.le_refl _⟩
      rintro r H' ⟨rfl, rfl⟩
      refine OpC.callH rfl rfl rfl rfl [5] rfl hfn rfl rfl rfl rfl ⟨rfl, trivial⟩ rfl ?_
      refine ⟨fun _ => ?_, fun h => ?_⟩
      rotate_left
      · have h : decide (nm = [77, 79, 86]) = false := h
        rw [decide_eq_true h1] at h; cases h
      refine OpC.callV rfl rfl rfl rfl rfl rfl rfl (fun _ => none_w 1) ?_
      refine OpC.callH rfl rfl rfl rfl [0, 1, 2, 3] rfl (rreg_w hk) rfl rfl rfl rfl ⟨rfl, rfl, rfl, rfl, trivial⟩ rfl ?_
      refine OpC.callH rfl rfl rfl rfl [0, 1, 2, 3] rfl (rmark_w hr [44]) rfl rfl rfl rfl ⟨rfl, rfl, rfl, rfl, trivial⟩ rfl ?_
      have hx := eita_w (i := { none_ 1 with dst := (regP lgA ts s).1 }) hm rfl
      rw [hw] at hx
      refine OpC.callH rfl rfl rfl rfl [0, 1, 2, 3, 4] rfl (hx) rfl rfl rfl rfl ⟨rfl, rfl, rfl, rfl, rfl, trivial⟩ rfl ?_
      refine ⟨fun _ => ?_, fun h => ?_⟩
      rotate_left
      · have h : (decide (0 ≤ w.1.1)) = false := h
        exact absurd h7 (of_decide_eq_false h)
      exact ⟨rfl, _, rfl⟩
    · rw [if_neg h7]
      refine Ctr.enterH tabOkF (fn := Tryz.f103) rfl rfl rfl rfl rfl rfl bndR (Nat.le_refl _) ?_
      refine OpC.callL rfl rfl rfl rfl [] 1 rfl rfl rfl afunctions_ok rfl rfl rfl rfl trivial rfl (fun r H' hk => ?_) ?_
      · obtain ⟨rfl, rfl⟩ := hk; exact ⟨Nat.zero_le _, Nat.le_refl _⟩
      rintro r H' ⟨rfl, rfl⟩
      refine OpC.callH rfl rfl rfl rfl [5] rfl hfn rfl rfl rfl rfl ⟨rfl, trivial⟩ rfl ?_
      refine ⟨fun _ => ?_, fun h => ?_⟩
      rotate_left
      · have h : decide (nm = [77, 79, 86]) = false := h
        rw [decide_eq_true h1] at h; cases h
      refine OpC.callV rfl rfl rfl rfl rfl rfl rfl (fun _ => none_w 1) ?_
      refine OpC.callH rfl rfl rfl rfl [0, 1, 2, 3] rfl (rreg_w hk) rfl rfl rfl rfl ⟨rfl, rfl, rfl, rfl, trivial⟩ rfl ?_
      refine OpC.callH rfl rfl rfl rfl [0, 1, 2, 3] rfl (rmark_w hr [44]) rfl rfl rfl rfl ⟨rfl, rfl, rfl, rfl, trivial⟩ rfl ?_
      have hx := eita_w (i := { none_ 1 with dst := (regP lgA ts s).1 }) hm rfl
      rw [hw] at hx
      refine OpC.callH rfl rfl rfl rfl [0, 1, 2, 3, 4] rfl (hx) rfl rfl rfl rfl ⟨rfl, rfl, rfl, rfl, rfl, trivial⟩ rfl ?_
      refine ⟨fun h => ?_, fun _ => ?_⟩
      · have h : (decide (0 ≤ w.1.1)) = true := h
        exact absurd (of_decide_eq_true h) h7
      exact ⟨rfl, _, rfl⟩
  rw [if_neg h1]
  by_cases h2 : 0 < fn
  · rw [if_pos h2]
    refine Ctr.enterH tabOkF (fn := Tryz.f103) rfl rfl rfl rfl rfl rfl bndR (Nat.le_refl _) ?_
    refine OpC.callL rfl rfl rfl rfl [] 1 rfl rfl rfl afunctions_ok rfl rfl rfl rfl trivial rfl (fun r H' hk => ?_) ?_
    · obtain ⟨rfl, rfl⟩ := hk; exact ⟨Nat.zero_le _, Nat.le_refl _⟩
    rintro r H' ⟨rfl, rfl⟩
    refine OpC.callH rfl rfl rfl rfl [5] rfl hfn rfl rfl rfl rfl ⟨rfl, trivial⟩ rfl ?_
    refine ⟨fun h => ?_, fun _ => ?_⟩
    · have h : decide (nm = [77, 79, 86]) = true := h
      rw [decide_eq_false h1] at h; cases h
    refine ⟨fun _ => ?_, fun h => ?_⟩
    rotate_left
    · have h : (decide (0 < fn)) = false := h
      exact absurd h2 (of_decide_eq_false h)
    refine OpC.callV rfl rfl rfl rfl rfl rfl rfl (fun _ => none_w 3) ?_
    refine OpC.callH rfl rfl rfl rfl [0, 1, 2, 3] rfl (rreg_w hk) rfl rfl rfl rfl ⟨rfl, rfl, rfl, rfl, trivial⟩ rfl ?_
    refine OpC.callH rfl rfl rfl rfl [0, 1, 2, 3] rfl (rmark_w hr [44]) rfl rfl rfl rfl ⟨rfl, rfl, rfl, rfl, trivial⟩ rfl ?_
    refine OpC.callH rfl rfl rfl rfl [0, 1, 2, 3] rfl (rreg_w hm) rfl rfl rfl rfl ⟨rfl, rfl, rfl, rfl, trivial⟩ rfl ?_
    refine OpC.callH rfl rfl rfl rfl [0, 1, 2, 3] rfl (rmark_w hr2 [44]) rfl rfl rfl rfl ⟨rfl, rfl, rfl, rfl, trivial⟩ rfl ?_
    have hx := eitb_w (i := { none_ 3 with dst := (regP lgA ts s).1, fn := fn, a := (regP lgA ts (markP ts [44] (regP lgA ts s).2)).1 }) hm2 rfl
    refine OpC.callH rfl rfl rfl rfl [0, 1, 2, 3, 4] rfl (hx) rfl rfl rfl rfl ⟨rfl, rfl, rfl, rfl, rfl, trivial⟩ rfl ?_
    exact ⟨rfl, _, rfl⟩
  rw [if_neg h2]
  by_cases h3 : nm = [68, 77, 66]
  · rw [if_pos h3]
    have ho := of_bar (c := ⟨lgA, rd, pr, ts, ad, cap, []⟩) hk
    have hb := brI_3 ts s
    dsimp only at ho
    generalize ofP brI ts s = w at *
    obtain ⟨k, s2⟩ := w
    dsimp only at ho hb ⊢
    rcases hb with rfl | rfl | rfl
    · refine Ctr.enterH tabOkF (fn := Tryz.f103) rfl rfl rfl rfl rfl rfl bndR (Nat.le_refl _) ?_
      refine OpC.callL rfl rfl rfl rfl [] 1 rfl rfl rfl afunctions_ok rfl rfl rfl rfl trivial rfl (fun r H' hk => ?_) ?_
      · obtain ⟨rfl, rfl⟩ := hk; exact ⟨Nat.zero_le _, Nat.le_refl _⟩
      rintro r H' ⟨rfl, rfl⟩
      refine OpC.callH rfl rfl rfl rfl [5] rfl hfn rfl rfl rfl rfl ⟨rfl, trivial⟩ rfl ?_
      refine ⟨fun h => ?_, fun _ => ?_⟩
      · have h : decide (nm = [77, 79, 86]) = true := h
        rw [decide_eq_false h1] at h; cases h
      refine ⟨fun h => ?_, fun _ => ?_⟩
      · have h : (decide (0 < fn)) = true := h
        exact absurd (of_decide_eq_true h) h2
      refine ⟨fun _ => ?_, fun h => ?_⟩
      rotate_left
      · have h : decide (nm = [68, 77, 66]) = false := h
        rw [decide_eq_true h3] at h; cases h
      refine OpC.callV rfl rfl rfl rfl rfl rfl rfl (fun _ => none_w 7) ?_
      refine OpC.callL rfl rfl rfl rfl [] 2 rfl rfl rfl barriers_ok rfl rfl rfl rfl trivial rfl (fun r H' hk => ?_) ?_
      · obtain ⟨rfl, rfl⟩ := hk; exact ⟨Nat.zero_le _, Nat.le_refl _⟩
      rintro r H' ⟨rfl, rfl⟩
      refine OpC.callH rfl rfl rfl rfl [0, 1, 2, 3, 8, 6] rfl ho rfl rfl rfl rfl ⟨rfl, rfl, rfl, rfl, rfl, rfl, trivial⟩ rfl ?_
      refine WpC.dr tabOkF mixed 0 ?_
      repeat (refine ⟨fun _ => by decide, ?_⟩)
      refine ⟨by kernel_rfl, ?_⟩
      exact ⟨rfl, _, rfl⟩
    · refine Ctr.enterH tabOkF (fn := Tryz.f103) rfl rfl rfl rfl rfl rfl bndR (Nat.le_refl _) ?_
      refine OpC.callL rfl rfl rfl rfl [] 1 rfl rfl rfl afunctions_ok rfl rfl rfl rfl trivial rfl (fun r H' hk => ?_) ?_
      · obtain ⟨rfl, rfl⟩ := hk; exact ⟨Nat.zero_le _, Nat.le_refl _⟩
      rintro r H' ⟨rfl, rfl⟩
      refine OpC.callH rfl rfl rfl rfl [5] rfl hfn rfl rfl rfl rfl ⟨rfl, trivial⟩ rfl ?_
      refine ⟨fun h => ?_, fun _ => ?_⟩
      · have h : decide (nm = [77, 79, 86]) = true := h
        rw [decide_eq_false h1] at h; cases h
      refine ⟨fun h => ?_, fun _ => ?_⟩
      · have h : (decide (0 < fn)) = true := h
        exact absurd (of_decide_eq_true h) h2
      refine ⟨fun _ => ?_, fun h => ?_⟩
      rotate_left
      · have h : decide (nm = [68, 77, 66]) = false := h
        rw [decide_eq_true h3] at h; cases h
      refine OpC.callV rfl rfl rfl rfl rfl rfl rfl (fun _ => none_w 7) ?_
      refine OpC.callL rfl rfl rfl rfl [] 2 rfl rfl rfl barriers_ok rfl rfl rfl rfl trivial rfl (fun r H' hk => ?_) ?_
      · obtain ⟨rfl, rfl⟩ := hk; exact ⟨Nat.zero_le _, Nat.le_refl _⟩
      rintro r H' ⟨rfl, rfl⟩
      refine OpC.callH rfl rfl rfl rfl [0, 1, 2, 3, 8, 6] rfl ho rfl rfl rfl rfl ⟨rfl, rfl, rfl, rfl, rfl, rfl, trivial⟩ rfl ?_
      refine WpC.dr tabOkF mixed 0 ?_
      repeat (refine ⟨fun _ => by decide, ?_⟩)
      refine ⟨by kernel_rfl, ?_⟩
      exact ⟨rfl, _, rfl⟩
    · refine Ctr.enterH tabOkF (fn := Tryz.f103) rfl rfl rfl rfl rfl rfl bndR (Nat.le_refl _) ?_
      refine OpC.callL rfl rfl rfl rfl [] 1 rfl rfl rfl afunctions_ok rfl rfl rfl rfl trivial rfl (fun r H' hk => ?_) ?_
      · obtain ⟨rfl, rfl⟩ := hk; exact ⟨Nat.zero_le _, Nat.le_refl _⟩
      rintro r H' ⟨rfl, rfl⟩
      refine OpC.callH rfl rfl rfl rfl [5] rfl hfn rfl rfl rfl rfl ⟨rfl, trivial⟩ rfl ?_
      refine ⟨fun h => ?_, fun _ => ?_⟩
      · have h : decide (nm = [77, 79, 86]) = true := h
        rw [decide_eq_false h1] at h; cases h
      refine ⟨fun h => ?_, fun _ => ?_⟩
      · have h : (decide (0 < fn)) = true := h
        exact absurd (of_decide_eq_true h) h2
      refine ⟨fun _ => ?_, fun h => ?_⟩
      rotate_left
      · have h : decide (nm = [68, 77, 66]) = false := h
        rw [decide_eq_true h3] at h; cases h
      refine OpC.callV rfl rfl rfl rfl rfl rfl rfl (fun _ => none_w 7) ?_
      refine OpC.callL rfl rfl rfl rfl [] 2 rfl rfl rfl barriers_ok rfl rfl rfl rfl trivial rfl (fun r H' hk => ?_) ?_
      · obtain ⟨rfl, rfl⟩ := hk; exact ⟨Nat.zero_le _, Nat.le_refl _⟩
      rintro r H' ⟨rfl, rfl⟩
      refine OpC.callH rfl rfl rfl rfl [0, 1, 2, 3, 8, 6] rfl ho rfl rfl rfl rfl ⟨rfl, rfl, rfl, rfl, rfl, rfl, trivial⟩ rfl ?_
      refine WpC.dr tabOkF mixed 0 ?_
      repeat (refine ⟨fun _ => by decide, ?_⟩)
      refine ⟨by kernel_rfl, ?_⟩
      exact ⟨rfl, _, rfl⟩
  rw [if_neg h3]
  by_cases h4 : nm = [73, 83, 66]
  · rw [if_pos h4]
    refine Ctr.enterH tabOkF (fn := Tryz.f103) rfl rfl rfl rfl rfl rfl bndR (Nat.le_refl _) ?_
    refine OpC.callL rfl rfl rfl rfl [] 1 rfl rfl rfl afunctions_ok rfl rfl rfl rfl trivial rfl (fun r H' hk => ?_) ?_
    · obtain ⟨rfl, rfl⟩ := hk; exact ⟨Nat.zero_le _, Nat.le_refl _⟩
    rintro r H' ⟨rfl, rfl⟩
    refine OpC.callH rfl rfl rfl rfl [5] rfl hfn rfl rfl rfl rfl ⟨rfl, trivial⟩ rfl ?_
    refine ⟨fun h => ?_, fun _ => ?_⟩
    · have h : decide (nm = [77, 79, 86]) = true := h
      rw [decide_eq_false h1] at h; cases h
    refine ⟨fun h => ?_, fun _ => ?_⟩
    · have h : (decide (0 < fn)) = true := h
      exact absurd (of_decide_eq_true h) h2
    refine ⟨fun h => ?_, fun _ => ?_⟩
    · have h : decide (nm = [68, 77, 66]) = true := h
      rw [decide_eq_false h3] at h; cases h
    refine ⟨fun _ => ?_, fun h => ?_⟩
    rotate_left
    · have h : decide (nm = [73, 83, 66]) = false := h
      rw [decide_eq_true h4] at h; cases h
    refine OpC.callV rfl rfl rfl rfl rfl rfl rfl (fun _ => none_w 8) ?_
    exact ⟨rfl, _, rfl⟩
  rw [if_neg h4]
  by_cases h5 : nm = [67, 66, 90] ∨ nm = [67, 66, 78, 90]
  · rw [if_pos h5]
    refine Ctr.enterH tabOkF (fn := Tryz.f103) rfl rfl rfl rfl rfl rfl bndR (Nat.le_refl _) ?_
    refine OpC.callL rfl rfl rfl rfl [] 1 rfl rfl rfl afunctions_ok rfl rfl rfl rfl trivial rfl (fun r H' hk => ?_) ?_
    · obtain ⟨rfl, rfl⟩ := hk; exact ⟨Nat.zero_le _, Nat.le_refl _⟩
    rintro r H' ⟨rfl, rfl⟩
    refine OpC.callH rfl rfl rfl rfl [5] rfl hfn rfl rfl rfl rfl ⟨rfl, trivial⟩ rfl ?_
    refine ⟨fun h => ?_, fun _ => ?_⟩
    · have h : decide (nm = [77, 79, 86]) = true := h
      rw [decide_eq_false h1] at h; cases h
    refine ⟨fun h => ?_, fun _ => ?_⟩
    · have h : (decide (0 < fn)) = true := h
      exact absurd (of_decide_eq_true h) h2
    refine ⟨fun h => ?_, fun _ => ?_⟩
    · have h : decide (nm = [68, 77, 66]) = true := h
      rw [decide_eq_false h3] at h; cases h
    refine ⟨fun h => ?_, fun _ => ?_⟩
    · have h : decide (nm = [73, 83, 66]) = true := h
      rw [decide_eq_false h4] at h; cases h
    refine ⟨fun _ => ?_, fun h => ?_⟩
    rotate_left
    · have h : (decide (nm = [67, 66, 90]) || decide (nm = [67, 66, 78, 90])) = false := h
      simp only [Bool.or_eq_false_iff, decide_eq_false_iff_not] at h; exact absurd h5 (fun hh => hh.elim h.1 h.2)
    refine OpC.callV rfl rfl rfl rfl rfl rfl rfl (fun _ => none_w 9) ?_
    refine OpC.callH rfl rfl rfl rfl [0, 1, 2, 3] rfl (rreg_w hk) rfl rfl rfl rfl ⟨rfl, rfl, rfl, rfl, trivial⟩ rfl ?_
    refine OpC.callH rfl rfl rfl rfl [0, 1, 2, 3] rfl (rmark_w hr [44]) rfl rfl rfl rfl ⟨rfl, rfl, rfl, rfl, trivial⟩ rfl ?_
    refine OpC.callH rfl rfl rfl rfl [0, 1, 2, 3] rfl (rword_w hm) rfl rfl rfl rfl ⟨rfl, rfl, rfl, rfl, trivial⟩ rfl ?_
    exact ⟨rfl, _, rfl⟩
  rw [if_neg h5]
  obtain ⟨i, k, hik⟩ : ∃ i k, memA nm = (i, k) := ⟨_, _, rfl⟩
  rw [hik] at hmy ⊢
  dsimp only at hmy ⊢
  cases k with
  | false =>
    rw [if_neg (by decide)]
    refine Ctr.enterH tabOkF (fn := Tryz.f103) rfl rfl rfl rfl rfl rfl bndR (Nat.le_refl _) ?_
    refine OpC.callL rfl rfl rfl rfl [] 1 rfl rfl rfl afunctions_ok rfl rfl rfl rfl trivial rfl (fun r H' hk => ?_) ?_
    · obtain ⟨rfl, rfl⟩ := hk; exact ⟨Nat.zero_le _, Nat.le_refl _⟩
    rintro r H' ⟨rfl, rfl⟩
    refine OpC.callH rfl rfl rfl rfl [5] rfl hfn rfl rfl rfl rfl ⟨rfl, trivial⟩ rfl ?_
    refine ⟨fun h => ?_, fun _ => ?_⟩
    · have h : decide (nm = [77, 79, 86]) = true := h
      rw [decide_eq_false h1] at h; cases h
    refine ⟨fun h => ?_, fun _ => ?_⟩
    · have h : (decide (0 < fn)) = true := h
      exact absurd (of_decide_eq_true h) h2
    refine ⟨fun h => ?_, fun _ => ?_⟩
    · have h : decide (nm = [68, 77, 66]) = true := h
      rw [decide_eq_false h3] at h; cases h
    refine ⟨fun h => ?_, fun _ => ?_⟩
    · have h : decide (nm = [73, 83, 66]) = true := h
      rw [decide_eq_false h4] at h; cases h
    refine ⟨fun h => ?_, fun _ => ?_⟩
    · have h : (decide (nm = [67, 66, 90]) || decide (nm = [67, 66, 78, 90])) = true := h
      simp only [Bool.or_eq_true, decide_eq_true_eq] at h; exact absurd h h5
    refine OpC.callV rfl rfl rfl rfl rfl rfl rfl (fun _ => hmy) ?_
    refine ⟨fun _ => ?_, fun h => no_tf h⟩
    exact ⟨rfl, _, rfl⟩
  | true =>
    rw [if_pos rfl]
    by_cases h6 : i.op = 4
    · rw [if_pos h6]
      refine Ctr.enterH tabOkF (fn := Tryz.f103) rfl rfl rfl rfl rfl rfl bndR (Nat.le_refl _) ?_
      refine OpC.callL rfl rfl rfl rfl [] 1 rfl rfl rfl afunctions_ok rfl rfl rfl rfl trivial rfl (fun r H' hk => ?_) ?_
      · obtain ⟨rfl, rfl⟩ := hk; exact ⟨Nat.zero_le _, Nat.le_refl _⟩
      rintro r H' ⟨rfl, rfl⟩
      refine OpC.callH rfl rfl rfl rfl [5] rfl hfn rfl rfl rfl rfl ⟨rfl, trivial⟩ rfl ?_
      refine ⟨fun h => ?_, fun _ => ?_⟩
      · have h : decide (nm = [77, 79, 86]) = true := h
        rw [decide_eq_false h1] at h; cases h
      refine ⟨fun h => ?_, fun _ => ?_⟩
      · have h : (decide (0 < fn)) = true := h
        exact absurd (of_decide_eq_true h) h2
      refine ⟨fun h => ?_, fun _ => ?_⟩
      · have h : decide (nm = [68, 77, 66]) = true := h
        rw [decide_eq_false h3] at h; cases h
      refine ⟨fun h => ?_, fun _ => ?_⟩
      · have h : decide (nm = [73, 83, 66]) = true := h
        rw [decide_eq_false h4] at h; cases h
      refine ⟨fun h => ?_, fun _ => ?_⟩
      · have h : (decide (nm = [67, 66, 90]) || decide (nm = [67, 66, 78, 90])) = true := h
        simp only [Bool.or_eq_true, decide_eq_true_eq] at h; exact absurd h h5
      refine OpC.callV rfl rfl rfl rfl rfl rfl rfl (fun _ => hmy) ?_
      refine ⟨fun h => no_ft h, fun _ => ?_⟩
      refine ⟨fun _ => ?_, fun h => ?_⟩
      rotate_left
      · have h : (decide (i.op = 4)) = false := h
        exact absurd h6 (of_decide_eq_false h)
      refine OpC.callH rfl rfl rfl rfl [0, 1, 2, 3] rfl (rreg_w hk) rfl rfl rfl rfl ⟨rfl, rfl, rfl, rfl, trivial⟩ rfl ?_
      refine OpC.callH rfl rfl rfl rfl [0, 1, 2, 3] rfl (rmark_w hr [44]) rfl rfl rfl rfl ⟨rfl, rfl, rfl, rfl, trivial⟩ rfl ?_
      refine OpC.callH rfl rfl rfl rfl [0, 1, 2, 3, 4] rfl (rmem_w hm { i with dst := (regP lgA ts s).1 } i.sz) rfl rfl rfl rfl ⟨rfl, rfl, rfl, rfl, rfl, trivial⟩ rfl ?_
      exact ⟨rfl, _, rfl⟩
    rw [if_neg h6]
    by_cases h7 : i.op = 5
    · rw [if_pos h7]
      refine Ctr.enterH tabOkF (fn := Tryz.f103) rfl rfl rfl rfl rfl rfl bndR (Nat.le_refl _) ?_
      refine OpC.callL rfl rfl rfl rfl [] 1 rfl rfl rfl afunctions_ok rfl rfl rfl rfl trivial rfl (fun r H' hk => ?_) ?_
      · obtain ⟨rfl, rfl⟩ := hk; exact ⟨Nat.zero_le _, Nat.le_refl _⟩
      rintro r H' ⟨rfl, rfl⟩
      refine OpC.callH rfl rfl rfl rfl [5] rfl hfn rfl rfl rfl rfl ⟨rfl, trivial⟩ rfl ?_
      refine ⟨fun h => ?_, fun _ => ?_⟩
      · have h : decide (nm = [77, 79, 86]) = true := h
        rw [decide_eq_false h1] at h; cases h
      refine ⟨fun h => ?_, fun _ => ?_⟩
      · have h : (decide (0 < fn)) = true := h
        exact absurd (of_decide_eq_true h) h2
      refine ⟨fun h => ?_, fun _ => ?_⟩
      · have h : decide (nm = [68, 77, 66]) = true := h
        rw [decide_eq_false h3] at h; cases h
      refine ⟨fun h => ?_, fun _ => ?_⟩
      · have h : decide (nm = [73, 83, 66]) = true := h
        rw [decide_eq_false h4] at h; cases h
      refine ⟨fun h => ?_, fun _ => ?_⟩
      · have h : (decide (nm = [67, 66, 90]) || decide (nm = [67, 66, 78, 90])) = true := h
        simp only [Bool.or_eq_true, decide_eq_true_eq] at h; exact absurd h h5
      refine OpC.callV rfl rfl rfl rfl rfl rfl rfl (fun _ => hmy) ?_
      refine ⟨fun h => no_ft h, fun _ => ?_⟩
      refine ⟨fun h => ?_, fun _ => ?_⟩
      · have h : (decide (i.op = 4)) = true := h
        exact absurd (of_decide_eq_true h) h6
      refine ⟨fun _ => ?_, fun h => ?_⟩
      rotate_left
      · have h : (decide (i.op = 5)) = false := h
        exact absurd h7 (of_decide_eq_false h)
      refine OpC.callH rfl rfl rfl rfl [0, 1, 2, 3] rfl (rreg_w hk) rfl rfl rfl rfl ⟨rfl, rfl, rfl, rfl, trivial⟩ rfl ?_
      refine OpC.callH rfl rfl rfl rfl [0, 1, 2, 3] rfl (rmark_w hr [44]) rfl rfl rfl rfl ⟨rfl, rfl, rfl, rfl, trivial⟩ rfl ?_
      refine OpC.callH rfl rfl rfl rfl [0, 1, 2, 3, 4] rfl (rmem_w hm { i with a := (regP lgA ts s).1 } i.sz) rfl rfl rfl rfl ⟨rfl, rfl, rfl, rfl, rfl, trivial⟩ rfl ?_
      exact ⟨rfl, _, rfl⟩
    rw [if_neg h7]
    refine Ctr.enterH tabOkF (fn := Tryz.f103) rfl rfl rfl rfl rfl rfl bndR (Nat.le_refl _) ?_
    refine OpC.callL rfl rfl rfl rfl [] 1 rfl rfl rfl afunctions_ok rfl rfl rfl rfl trivial rfl (fun r H' hk => ?_) ?_
    · obtain ⟨rfl, rfl⟩ := hk; exact ⟨Nat.zero_le _, Nat.le_refl _⟩
    rintro r H' ⟨rfl, rfl⟩
    refine OpC.callH rfl rfl rfl rfl [5] rfl hfn rfl rfl rfl rfl ⟨rfl, trivial⟩ rfl ?_
    refine ⟨fun h => ?_, fun _ => ?_⟩
    · have h : decide (nm = [77, 79, 86]) = true := h
      rw [decide_eq_false h1] at h; cases h
    refine ⟨fun h => ?_, fun _ => ?_⟩
    · have h : (decide (0 < fn)) = true := h
      exact absurd (of_decide_eq_true h) h2
    refine ⟨fun h => ?_, fun _ => ?_⟩
    · have h : decide (nm = [68, 77, 66]) = true := h
      rw [decide_eq_false h3] at h; cases h
    refine ⟨fun h => ?_, fun _ => ?_⟩
    · have h : decide (nm = [73, 83, 66]) = true := h
      rw [decide_eq_false h4] at h; cases h
    refine ⟨fun h => ?_, fun _ => ?_⟩
    · have h : (decide (nm = [67, 66, 90]) || decide (nm = [67, 66, 78, 90])) = true := h
      simp only [Bool.or_eq_true, decide_eq_true_eq] at h; exact absurd h h5
    refine OpC.callV rfl rfl rfl rfl rfl rfl rfl (fun _ => hmy) ?_
    refine ⟨fun h => no_ft h, fun _ => ?_⟩
    refine ⟨fun h => ?_, fun _ => ?_⟩
    · have h : (decide (i.op = 4)) = true := h
      exact absurd (of_decide_eq_true h) h6
    refine ⟨fun h => ?_, fun _ => ?_⟩
    · have h : (decide (i.op = 5)) = true := h
      exact absurd (of_decide_eq_true h) h7
    refine OpC.callH rfl rfl rfl rfl [0, 1, 2, 3] rfl (rreg_w hk) rfl rfl rfl rfl ⟨rfl, rfl, rfl, rfl, trivial⟩ rfl ?_
    refine OpC.callH rfl rfl rfl rfl [0, 1, 2, 3] rfl (rmark_w hr [44]) rfl rfl rfl rfl ⟨rfl, rfl, rfl, rfl, trivial⟩ rfl ?_
    refine OpC.callH rfl rfl rfl rfl [0, 1, 2, 3] rfl (rreg_w hm) rfl rfl rfl rfl ⟨rfl, rfl, rfl, rfl, trivial⟩ rfl ?_
    refine OpC.callH rfl rfl rfl rfl [0, 1, 2, 3] rfl (rmark_w hr2 [44]) rfl rfl rfl rfl ⟨rfl, rfl, rfl, rfl, trivial⟩ rfl ?_
    refine OpC.callH rfl rfl rfl rfl [0, 1, 2, 3, 4] rfl (rmem_w hm2 { i with a := (regP lgA ts s).1, dst := (regP lgA ts (markP ts [44] (regP lgA ts s).2)).1 } i.sz) rfl rfl rfl rfl ⟨rfl, rfl, rfl, rfl, rfl, trivial⟩ rfl ?_
    exact ⟨rfl, _, rfl⟩
theorem arm_rk : ReadRk readAP lgA := by
  rintro ⟨L, rd, pr, ts, ad, cap, lb⟩ s nm hL hk
  dsimp only at hL
  subst hL
  have hr := hk.reg
  have hm := hr.mark [44]
  have hm2 := hm.reg.mark [44]
  unfold readAP
  dsimp only
  repeat' split
  all_goals first
    | exact hk
    | exact hm.eit
    | exact hm2.eit
    | exact hm.word
    | exact hm.mem _ _
    | exact hm2.mem _ _
    | exact hk.of _
theorem armParse_w (ts : List Tk) (ad : Option Addr) (cap : Nat) (hl : ts.length ≤ 100000) (hn : ad = none → ts = []) (hnm : (tkAt ts 0).s.length ≤ 100000) : CtrV Tryz.prog 24 [.imm Tk tk0 4 tkenc ts ad cap] (prV5 (parseP readAP ts)) := by
  refine Ctr.enterV tabOkF (fn := Tryz.f24) rfl rfl rfl rfl rfl rfl ?_
  refine OpC.callL rfl rfl rfl rfl [] 2 rfl rfl rfl arm_lang rfl rfl rfl rfl trivial rfl (fun r H' hk => ?_) ?_
  · obtain ⟨rfl, rfl⟩ := hk; exact ⟨Nat.zero_le _, Nat.le_refl _⟩
  rintro r H' ⟨rfl, rfl⟩
  refine OpC.callH rfl rfl rfl rfl [1, 2] rfl (lparse_w arm_read arm_rk ts ad cap hl hn hnm) rfl rfl rfl rfl ⟨rfl, rfl, trivial⟩ rfl ?_
  exact rfl
end SX
end Go.Proofs.YthkedcneehdinaaGreatDoor

/- The reference's texts of instructions: pieces. Printed by rfa.py. -/
set_option linter.unusedVariables false
set_option maxRecDepth 100000
namespace Go.Proofs.YthkedcneehdinaaGreatDoor
namespace SX
open Go Go.Proofs
end SX
end Go.Proofs.YthkedcneehdinaaGreatDoor

/- The reference's readers of words: the cursor. -/
set_option linter.unusedVariables false
set_option maxRecDepth 100000
namespace Go.Proofs.YthkedcneehdinaaGreatDoor
namespace SX
open Go Go.Proofs
section
variable (ts : List Tk) (ad : Option Addr) (cap : Nat)
def curQ (p : Nat) : SB := .mem 71 [.imm Tk tk0 4 tkenc ts ad cap, .i .i64 p] 1 0
end
variable {ts : List Tk} {ad : Option Addr} {cap : Nat}
theorem bndQ {M p : Nat} : BndB M (curQ ts ad cap p) := ⟨rfl, rfl, trivial⟩
theorem wpeek_ok {p : Nat} (hp : p ≤ ts.length) : Ctr Tryz.prog 56 [.ptr 0 1 0 []] [curQ ts ad cap p] (fun r h => r = .tup [.agg (tkenc (tkAt ts p)), .b (decide (p < ts.length))] ∧ h = [curQ ts ad cap p]) := by
  refine Ctr.enterH tabOkF (fn := Tryz.f56) rfl rfl rfl rfl rfl rfl ⟨bndQ, trivial⟩ (Nat.le_refl _) ?_
  refine WpC.dr tabOkF mixed 0 ?_
  refine ⟨by kernel_rfl, ?_⟩
  refine ⟨fun h1 => ?_, fun h1 => ?_⟩
  · have h1 : (ts.length : Int) ≤ (p : Int) := of_decide_eq_true h1
    have e1 : tkAt ts p = tk0 := by unfold tkAt; rw [List.getD_eq_getElem?_getD, List.getElem?_eq_none (by omega)]; rfl
    rw [e1, decide_eq_false (by omega)]
    exact ⟨rfl, _, rfl⟩
  · have h1 : ¬ (ts.length : Int) ≤ (p : Int) := of_decide_eq_false h1
    rw [decide_eq_true (by omega)]
    refine WpC.dr tabOkF mixed 0 ?_
    refine ⟨fun _ => ⟨by omega, by omega⟩, ?_⟩
    refine ⟨by kernel_rfl, ?_⟩
    exact ⟨rfl, _, rfl⟩
theorem wnext_ok {p : Nat} (hp : p < ts.length) (hl : ts.length ≤ 100000) : Ctr Tryz.prog 59 [.ptr 0 1 0 []] [curQ ts ad cap p] (fun r h => r = .tup [.agg (tkenc (tkAt ts p)), .b true] ∧ h = [curQ ts ad cap (p + 1)]) := by
  have hk := wpeek_ok (ad := ad) (cap := cap) (p := p) (ts := ts) (by omega)
  rw [decide_eq_true hp] at hk
  have e1 := wfn (ts := ts) (p := p) (by omega) hl
  have eB : curQ ts ad cap (p + 1) = .mem 71 [.imm Tk tk0 4 tkenc ts ad cap, .i .i64 (IntKind.i64.wrap ((p : Int) + 1))] 1 0 := by rw [e1]; rfl
  rw [eB]
  refine Ctr.enterH tabOkF (fn := Tryz.f59) rfl rfl rfl rfl rfl rfl ⟨⟨rfl, rfl, trivial⟩, trivial⟩ (Nat.le_refl _) ?_
  refine OpC.callH rfl rfl rfl rfl [0] rfl hk rfl rfl rfl rfl ⟨rfl, trivial⟩ rfl ?_
  refine ⟨fun _ => ?_, fun h => no_tf h⟩
  exact ⟨rfl, _, rfl⟩
theorem where_ok {p : Nat} (hp : p ≤ ts.length) (hl : ts.length ≤ 100000) : Ctr Tryz.prog 57 [.ptr 0 1 0 []] [curQ ts ad cap p] (fun r h => r = .i .i64 (whF ts p) ∧ h = [curQ ts ad cap p]) := by
  refine Ctr.enterH tabOkF (fn := Tryz.f57) rfl rfl rfl rfl rfl rfl ⟨bndQ, trivial⟩ (Nat.le_refl _) ?_
  refine WpC.dr tabOkF mixed 0 ?_
  refine ⟨by kernel_rfl, ?_⟩
  unfold whF
  refine ⟨fun h1 => ?_, fun h1 => ?_⟩
  · have h1 : (p : Int) < (ts.length : Int) := of_decide_eq_true h1
    rw [if_pos (by omega)]
    refine WpC.dr tabOkF mixed 0 ?_
    refine ⟨fun _ => ⟨by omega, by omega⟩, ?_⟩
    refine ⟨by kernel_rfl, ?_⟩
    exact ⟨rfl, _, rfl⟩
  · have h1 : ¬ (p : Int) < (ts.length : Int) := of_decide_eq_false h1
    rw [if_neg (by omega)]
    refine ⟨fun h2 => ?_, fun h2 => ?_⟩
    · have h2 : (ts.length : Int) = 0 := of_decide_eq_true h2
      rw [if_pos (by omega)]
      exact ⟨rfl, _, rfl⟩
    · have h2 : ¬ (ts.length : Int) = 0 := of_decide_eq_false h2
      rw [if_neg (by omega)]
      have e1 : IntKind.i64.wrap ((ts.length : Int) - 1) = ((ts.length - 1 : Nat) : Int) := by rw [w64 (by omega) (by omega)]; omega
      refine WpC.dr tabOkF mixed 1 ?_
      refine ⟨fun _ => ?_, ?_⟩
      · show (0 : Int) ≤ IntKind.i64.wrap ((ts.length : Int) - 1) ∧ IntKind.i64.wrap ((ts.length : Int) - 1) < (ts.length : Int)
        rw [e1]; omega
      refine ⟨by kernel_rfl, ?_⟩
      refine ⟨i_cg ?_, _, rfl⟩
      show IntKind.i64.wrap ((ts.getD (IntKind.i64.wrap ((ts.length : Int) - 1)).toNat tk0).a + ((ts.getD (IntKind.i64.wrap ((ts.length : Int) - 1)).toNat tk0).s.length : Int)) = _
      rw [e1, Int.toNat_natCast]; rfl
theorem take_inQ {m : List UInt8} {p : Nat} (hlt : p < ts.length) (e0 : IntKind.i64.wrap ((p : Int) + ((0 : Nat) : Int)) = (p : Int)) : (decide ((ts.getD (IntKind.i64.wrap ((p : Int) + ((0 : Nat) : Int))).toNat tk0).k = 2) || (!decide ((ts.getD (IntKind.i64.wrap ((p : Int) + ((0 : Nat) : Int))).toNat tk0).s = m))) = !takeB ts m p := by
  rw [e0, Int.toNat_natCast]
  show (decide ((tkAt ts p).k = 2) || (!decide ((tkAt ts p).s = m))) = _
  unfold takeB
  rw [decide_eq_true hlt]
  cases decide ((tkAt ts p).s = m) <;> cases decide ((tkAt ts p).k = 2) <;> rfl
def oneB (m : List UInt8) : SB := .mem 9 [.s m] 1 1
theorem wtake_ok {m : List UInt8} {p : Nat} {b : Bool} {q : Nat} (hb : takeB ts m p = b) (hq : q = if b then p + 1 else p) (hp : p ≤ ts.length) (hl : ts.length ≤ 100000) : Ctr Tryz.prog 191 [.ptr 0 1 0 [], .sl 1 1 0 1 none 0] [curQ ts ad cap p, oneB m] (fun r h => r = .b b ∧ h = [curQ ts ad cap q, oneB m]) := by
  have e0 : IntKind.i64.wrap ((p : Int) + ((0 : Nat) : Int)) = (p : Int) := w64 (by omega) (by omega)
  have e1 : IntKind.i64.wrap ((p : Int) + 1) = ((p + 1 : Nat) : Int) := wfn hp hl
  have e2 : IntKind.i64.wrap ((ts.length : Int) - (p : Int)) = (ts.length : Int) - (p : Int) := w64 (by omega) (by omega)
  have eB : ∀ x : Int, x = ((p + 1 : Nat) : Int) → .mem 71 [.imm Tk tk0 4 tkenc ts ad cap, .i .i64 x] 1 0 = curQ ts ad cap (p + 1) := fun x h => by rw [h]; rfl
  refine Ctr.enterH tabOkF (fn := Tryz.f191) rfl rfl rfl rfl rfl rfl ⟨bndQ, ⟨rfl, trivial⟩, trivial⟩ (Nat.le_refl _) ?_
  refine WpC.dr tabOkF mixed 0 ?_
  refine ⟨by kernel_rfl, ?_⟩
  refine ⟨fun h1 => ?_, fun h1 => ?_⟩
  · have h1 : IntKind.i64.wrap ((ts.length : Int) - (p : Int)) < 1 := of_decide_eq_true h1
    have hbf : b = false := by
      rw [← hb]; unfold takeB; rw [decide_eq_false (by omega)]; rfl
    subst hbf
    rw [hq]
    exact ⟨rfl, _, rfl⟩
  · have h1 : ¬ IntKind.i64.wrap ((ts.length : Int) - (p : Int)) < 1 := of_decide_eq_false h1
    have hlt : p < ts.length := by omega
    have ht := take_inQ (m := m) hlt e0
    rw [hb] at ht
    refine WpC.loop tabOkF (β := Nat) (fun k => k = 0 ∨ (k = 1 ∧ b = true)) (fun k => [(5, .i .i64 k)]) (fun _ => [curQ ts ad cap p, oneB m]) (fun k => 1 - k) 0 (2 ^ 60 - 1 - 3) (.inl rfl) ?_ ?_
    · exact ⟨rfl, ⟨⟨rfl, rfl, rfl⟩, trivial⟩, ⟨[], rfl⟩, ⟨bndQ, ⟨rfl, trivial⟩, trivial⟩, rfl⟩
    · rintro k (rfl | ⟨rfl, hbt⟩)
      · refine ⟨fun _ => ?_, fun h => no_tf h⟩
        refine WpC.dr tabOkF mixed 1 ?_
        refine ⟨fun _ => ?_, ?_⟩
        · show (0 : Int) ≤ IntKind.i64.wrap ((p : Int) + ((0 : Nat) : Int)) ∧ IntKind.i64.wrap ((p : Int) + ((0 : Nat) : Int)) < (ts.length : Int)
          rw [e0]; omega
        refine ⟨by kernel_rfl, ?_⟩
        refine WpC.dr tabOkF mixed 0 ?_
        refine ⟨fun _ => by decide, ?_⟩
        refine ⟨fun _ => rfl, ?_⟩
        refine ⟨by kernel_rfl, ?_⟩
        refine ⟨fun h2 => ?_, fun h2 => ?_⟩
        · have h2 := ht.symm.trans h2
          have hbf : b = false := by cases b with | false => rfl | true => cases h2
          subst hbf
          rw [hq]
          exact ⟨rfl, _, rfl⟩
        · have h2 := ht.symm.trans h2
          have hbt : b = true := by cases b with | true => rfl | false => cases h2
          exact ⟨1, .inr ⟨rfl, hbt⟩, by decide, rfl, ⟨⟨rfl, rfl, rfl⟩, trivial⟩, ⟨_, rfl⟩, ⟨bndQ, ⟨rfl, trivial⟩, trivial⟩, rfl⟩
      · refine ⟨fun h => no_ft h, fun _ => ?_⟩
        subst hbt
        rw [hq, if_pos rfl]
        refine ⟨rfl, [], ?_⟩
        rw [← eB _ e1]
        rfl
theorem wmark_ok {m : List UInt8} {p : Nat} {b : Bool} {q : Nat} (hb : takeB ts m p = b) (hq : q = if b then p + 1 else p) (hp : p ≤ ts.length) (hl : ts.length ≤ 100000) : Ctr Tryz.prog 128 [.ptr 0 1 0 [], .s m] [curQ ts ad cap p] (fun r h => r = .b b ∧ h = [curQ ts ad cap q]) := by
  refine Ctr.enterH tabOkF (fn := Tryz.f128) rfl rfl rfl rfl rfl rfl ⟨bndQ, trivial⟩ (Nat.le_refl _) ?_
  refine OpC.yld 1 rfl (yld_app_new tabOkF rfl rfl rfl rfl rfl rfl (BaseA.nil rfl) (SrcA.sl rfl rfl rfl rfl (by decide) rfl) (p := 2) rfl (segs' := [.s m]) Joins.nil (by decide) (by decide) (by decide)) (fun d hd => by cases hd; rfl) ?_
  refine OpC.callH rfl rfl rfl rfl [0, 2] rfl (wtake_ok hb hq hp hl) rfl rfl rfl rfl ⟨rfl, rfl, trivial⟩ rfl ?_
  exact ⟨rfl, _, rfl⟩
end SX
end Go.Proofs.YthkedcneehdinaaGreatDoor
