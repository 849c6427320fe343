/- CondParses: the words of any text as a condition, or what is wrong and where, are as the document says; the list of words stays. -/
import Derived.Test.YthkedcneehdinaaGreatDoorRows
import Derived.ProofKit
import Derived.LaidMore
import Derived.OpenShut
import Derived.Stop.Joined
import Derived.Carry
import Derived.SizedLaws
import Derived.ChangeMaps5
import Derived.JoinedOf
import Derived.Test.YthkedcneehdinaaGreatDoorCards
import Derived.Test.YthkedcneehdinaaGreatDoorTie
import Derived.SevenTiedAt
import Derived.Test.YthkedcneehdinaaGreatDoorVG
set_option linter.unusedVariables false
set_option linter.unusedSimpArgs false
set_option linter.unusedSectionVars false
/- cond.Parse: the program's walk. -/
set_option linter.unusedVariables false
set_option maxRecDepth 100000
namespace Go.Proofs.YthkedcneehdinaaGreatDoor
namespace SX
open Go Go.Proofs
/-- A row that is handed back, ahead of two numbers, stays: wherever it lies. -/
theorem Cp.row3k {α : Type} {d : α} {n : Nat} {enc : α → List SV} {X : List Value → World → (Value → World → Prop) → Prop} (hX : XMono X) {args : List SV} {H : List SB} {ty : TypeId} {g : Nat} (hn : n = g + 1) (hw : ∀ x, wdL (enc x) = n) (hok : ∀ x m, OkL m [] (enc x)) {K : SV → List SB → Prop}
    (h : Cp X args H (fun r h => (∃ (xs : List α) (ver k : Nat) (y z : SV), r = .tup [.sl k ver 0 xs.length none 0, y, z] ∧ h[k]? = some (.mem ty [.arr xs.length α d n enc xs] ver n) ∧ ver ≠ 0 ∧ ∀ ad cap, K (.tup [.imm α d n enc xs ad cap, y, z]) (h.set k (.gone ver))) ∨ K r h)) : Cp X args H K := by
  subst hn
  refine ⟨fun C E m w hr ha => hX _ _ _ _ (h.out C E m w hr ha) fun v w' ⟨r, H', E', m', h1, h2, h3, h4, h5⟩ => ?_⟩
  rcases h2 with ⟨xs, ver, k, y, z, rfl, hk0, hv, hk⟩ | h2
  · have h3 := h3
    simp only [Ok, OkA] at h3
    obtain ⟨⟨⟨_, o1⟩, ⟨ly, o2⟩, ⟨lz, o3⟩, _⟩, _⟩ := h3
    have ht : ∀ vs, den E' (.tup vs) = .tuple (denL E' vs).toArray := fun vs => by simp [den, wrapV, cells]
    have hrep : Rep E' C m' ⟨[.sl k ver 0 xs.length none 0], H'⟩ ⟨#[den E' (.sl k ver 0 xs.length none 0)], []⟩ w' :=
      ⟨rfl, fun q x u hx hu => by
        rcases q with _ | q
        · simp at hx hu; subst hx; subst hu
          exact ⟨by simpa only [Ok] using o1, rfl⟩
        · simp at hx, rfl, h5⟩
    obtain ⟨m2, b, c, e1, e2, e3⟩ := still_base (k := k) hrep hk0 rfl hv hw hok
    obtain ⟨ad, cap, e4⟩ := still_slot (j := 0) (i := 0) (len := xs.length) e2 e3 rfl hw hok (by simp) (by omega)
    have e5 := e4.sl 0 _ _ rfl rfl
    simp only [List.drop_zero, List.take_length] at e5
    have e6 : Ok m2 (vers (H'.set k (.gone ver))) (.imm α d (g + 1) enc xs (some ad) cap) ∧ den E' (.sl k ver 0 xs.length none 0) = den E' (.imm α d (g + 1) enc xs (some ad) cap) := e5
    refine ⟨_, _, E', m2, ?_, hk (some ad) cap, ?_, h4.trans e1, e4.rel⟩
    · rw [h1, ht, ht]
      show Value.tuple (den E' (.sl k ver 0 xs.length none 0) :: denL E' [y, z]).toArray = Value.tuple (den E' (.imm α d (g + 1) enc xs (some ad) cap) :: denL E' [y, z]).toArray
      rw [e6.2]
    · refine ⟨?_, rfl⟩
      simp only [Ok, OkA]
      have k1 := e6.1
      simp only [Ok] at k1
      exact ⟨⟨rfl, k1⟩, ⟨ly, Ok.mono e1.mm y _ _ e1.vv o2⟩, ⟨lz, Ok.mono e1.mm z _ _ e1.vv o3⟩, trivial⟩
  · exact ⟨r, H', E', m', h1, h2, h3, h4, h5⟩
/-! Nodes are made. -/
theorem row_mono {part : CX → CX} (hp : ∀ x, x.2.length ≤ (part x).2.length) (ts : List Tk) (m : List UInt8) (k : Int) : ∀ (n : Nat) (x : CX), x.2.length ≤ (rowL part ts m k n x).2.length
  | 0, x => Nat.le_refl _
  | n + 1, x => by
    unfold rowL
    split
    · split
      · exact Nat.le_refl _
      · have h1 := hp (goF x.1, x.2)
        have h2 := row_mono hp ts m k n ((part (goF x.1, x.2)).1, (part (goF x.1, x.2)).2 ++ [nodC k])
        simp only [List.length_append, List.length_singleton] at h2
        dsimp only at h1
        omega
    · exact Nat.le_refl _
theorem and_mono {part : CX → CX} (hp : ∀ x, x.2.length ≤ (part x).2.length) (ts : List Tk) (n : Nat) (x : CX) : (part x).2.length ≤ (andG part ts n x).2.length := row_mono hp ts _ _ n _
theorem or_mono {part : CX → CX} (hp : ∀ x, x.2.length ≤ (part x).2.length) (ts : List Tk) (n : Nat) (x : CX) : (part x).2.length ≤ (orG part ts n x).2.length :=
  Nat.le_trans (and_mono hp ts n x) (row_mono (fun x => Nat.le_trans (hp x) (and_mono hp ts n x)) ts _ _ n _)
theorem atm_mono (f : List UInt8 → Int) (ts : List Tk) : ∀ (n : Nat) (x : CX), x.2.length ≤ (atmG f ts n x).2.length
  | 0, x => Nat.le_refl _
  | n + 1, x => by
    unfold atmG
    split
    · exact Nat.le_refl _
    split
    · have := atm_mono f ts n (goF x.1, x.2)
      simp only [List.length_append, List.length_singleton]
      dsimp only at this; omega
    split
    · exact Nat.le_trans (atm_mono f ts n (goF x.1, x.2)) (or_mono (fun x => atm_mono f ts n x) ts n (goF x.1, x.2))
    split
    · unfold rgC; simp
    · unfold lcC; simp
theorem atm_pos (f : List UInt8 → Int) (ts : List Tk) : ∀ (n : Nat) (x : CX), x.1.e = 0 → ts.length - x.1.p < n → x.2.length < (atmG f ts n x).2.length
  | 0, x, _, h => absurd h (Nat.not_lt_zero _)
  | n + 1, x, he, hn => by
    unfold atmG
    rw [if_neg (by simpa using he)]
    split
    · have := atm_mono f ts n (goF x.1, x.2)
      simp only [List.length_append, List.length_singleton]
      dsimp only at this; omega
    split
    · rename_i hm
      have hl := isP_lt hm
      have := atm_pos f ts n (goF x.1, x.2) he (by show ts.length - (x.1.p + 1) < n; omega)
      exact Nat.lt_of_lt_of_le this (or_mono (fun x => atm_mono f ts n x) ts n (goF x.1, x.2))
    split
    · unfold rgC; simp
    · unfold lcC; simp
/-- What cond.Parse comes to. -/
def cpX (f : List UInt8 → Int) (ts : List Tk) : CX := orG (atmG f ts (ts.length + 1)) ts (ts.length + 1) (rs0, [])
def cpS (f : List UInt8 → Int) (ts : List Tk) : RS :=
  if 32 < (cpX f ts).2.length then failF (moreF ts (cpX f ts).1) 2 (whF ts 0) else moreF ts (cpX f ts).1
def cparseF (f : List UInt8 → Int) (ts : List Tk) : List Cn × Int × Int := if (cpS f ts).e = 0 then ((cpX f ts).2, 0, 0) else ([], (cpS f ts).e, (cpS f ts).q)
theorem cpX_pos (f : List UInt8 → Int) (ts : List Tk) : 0 < (cpX f ts).2.length := Nat.lt_of_lt_of_le (atm_pos f ts (ts.length + 1) (rs0, []) rfl (by show ts.length - 0 < ts.length + 1; omega)) (or_mono (fun x => atm_mono f ts _ x) ts _ (rs0, []))
theorem zNew_w (ts : List Tk) (ad : Option Addr) (cap : Nat) (hl : ts.length ≤ 100000) (hn : ad = none → ts = []) : Ctr Tryz.prog 67 [.ptr 0 1 0 [], .imm Tk tk0 4 tkenc ts ad cap] [langZ]
    (fun r h' => r = .ptr 2 1 0 [] ∧ ∃ ad' cap', h' = [langZ, curB ts ad' cap' 0, rdrB 1 0 [] 0 0]) := by
  have key : Ctr Tryz.prog 67 [.ptr 0 1 0 [], .imm Tk tk0 4 tkenc ts ad cap] [langZ]
    (fun r h' => r = .ptr 2 1 0 [] ∧ ∃ ad' cap' X, h' = [langZ, curB ts ad' cap' 0, rdrB 1 0 [] 0 0] ++ X) := by
    refine Ctr.enter tabOkF (fn := Tryz.f67) rfl rfl rfl rfl rfl ?_
    refine OpC.callL rfl rfl rfl rfl [] 1 rfl rfl rfl (new_w ts ad cap hl hn) rfl rfl rfl rfl trivial rfl (fun r H' hk => ?_) ?_
    · obtain ⟨_, a, b, e⟩ := hk; rw [e]; exact ⟨Nat.zero_le _, Nat.le_refl _⟩
    rintro r H' ⟨rfl, ad', cap', rfl⟩
    exact ⟨rfl, ad', cap', [], rfl⟩
  exact key.trim callX_m fun r H1 ⟨h1, ad', cap', X, h2⟩ => ⟨_, X, h2, by show 1 ≤ 3; decide, ⟨⟨rfl, rfl, rfl, rfl, trivial⟩, bndCur, ⟨rfl, rfl, rfl, rfl, rfl, trivial⟩, trivial⟩, by rw [h1]; rfl, h1, ad', cap', rfl⟩
theorem cnok (x : Cn) (m : Mem) : OkL m [] (cenc x) := by simp [cenc, OkL, isUnit, Ok]
/-- What is handed back. -/
def CpK (R : List Cn × Int × Int) (r : SV) (h : List SB) : Prop :=
  (∃ cs ad cap, R = (cs, 0, 0) ∧ r = .tup [.imm Cn cn0 5 cenc cs ad cap, .i .i64 0, .i .i64 0] ∧ h = []) ∨ (∃ e q, e ≠ 0 ∧ R = ([], e, q) ∧ r = .tup [.nils, .i .i64 e, .i .i64 q] ∧ h = [])
end SX
end Go.Proofs.YthkedcneehdinaaGreatDoor

/- Words read as a condition, plain: the reference's reader; both answer alike. -/
set_option linter.unusedVariables false
set_option maxRecDepth 100000
namespace Go.Proofs.YthkedcneehdinaaGreatDoor
namespace SX
open Go Go.Proofs
def putQ (x : CX) (c : Cn) : CX := if x.1.e = 0 then (x.1, x.2 ++ [c]) else x
def rowQ (part : CX → CX) (ts : List Tk) (m : List UInt8) (k : Int) : Nat → CX → CX
  | 0, x => x
  | n + 1, x => if x.1.e = 0 ∧ takeB ts m x.1.p = true then rowQ part ts m k n (putQ (part (goF x.1, x.2)) (nodC k)) else x
def andQ (part : CX → CX) (ts : List Tk) (n : Nat) (x : CX) : CX := rowQ part ts [47, 92] 4 n (part x)
def orQ (part : CX → CX) (ts : List Tk) (n : Nat) (x : CX) : CX := rowQ (andQ part ts n) ts [92, 47] 5 n (andQ part ts n x)
def rgQ (L : Lg) (ts : List Tk) (x : CX) : CX :=
  let r := regR L ts (markR ts [58] (goF x.1))
  let v := numR ts (markR ts [61] r.2)
  putQ (v.2, x.2) ⟨1, (tkAt ts x.1.p).n, r.1, 0, v.1⟩
def lcQ (ts : List Tk) (x : CX) : CX :=
  let v := numR ts (markR ts [61] (goF x.1))
  putQ (v.2, x.2) ⟨2, 0, 0, locI (tkAt ts x.1.p).s, v.1⟩
/-- N:REG=NUM or x=NUM. -/
def atoQ (L : Lg) (ts : List Tk) (x : CX) : CX :=
  if x.1.p < ts.length ∧ (tkAt ts x.1.p).k = 2 then
    (if (tkAt ts x.1.p).n < 0 ∨ 2 < (tkAt ts x.1.p).n then (failF x.1 22 (tkAt ts x.1.p).a, x.2) else rgQ L ts x)
  else if (x.1.p < ts.length ∧ (tkAt ts x.1.p).k = 1) ∧ 0 ≤ locI (tkAt ts x.1.p).s then lcQ ts x
  else if x.1.p < ts.length ∧ (tkAt ts x.1.p).k = 1 then (failF x.1 21 (tkAt ts x.1.p).a, x.2)
  else if x.1.p < ts.length then (failF x.1 22 (tkAt ts x.1.p).a, x.2)
  else (failF x.1 24 (whF ts x.1.p), x.2)
def notQ (L : Lg) (ts : List Tk) : Nat → CX → CX
  | 0, x => x
  | n + 1, x =>
    if x.1.e ≠ 0 then x
    else if takeB ts [126] x.1.p = true then putQ (notQ L ts n (goF x.1, x.2)) (nodC 3)
    else if takeB ts [40] x.1.p = true then (markR ts [41] (orQ (notQ L ts n) ts n (goF x.1, x.2)).1, (orQ (notQ L ts n) ts n (goF x.1, x.2)).2)
    else atoQ L ts x
/-- Both stand alike, with the same nodes. -/
def SmC (x y : CX) : Prop := nrm x.1 = nrm y.1 ∧ (x.1.e = 0 → x.2 = y.2)
theorem mark_is {ts : List Tk} (hw : WfA ts) {m : List UInt8} (hm : letB (cd m 0) = false ∧ cd m 0 ≠ 95) (hne : m ≠ []) (s : RS) : takeB ts m s.p = isP ts m s := by
  unfold takeB isP
  rcases hw.k s.p with h | h | h | h
  · have h0 := hw.z s.p h
    have h1 : ¬ (tkAt ts s.p).s = m := by rw [h0]; exact fun e => hne e.symm
    rw [decide_eq_false h1, h]
    simp
  · have h1 : ¬ (tkAt ts s.p).s = m := by
      intro e
      rcases (hw.w s.p).nam h with h2 | h2
      · rw [e, hm.1] at h2; cases h2
      · rw [e] at h2; exact hm.2 h2
    rw [decide_eq_false h1, h]
    simp
  · rw [h]; simp
  · rw [h, decide_eq_true (at_lt (by rw [h]; decide))]; simp
theorem put_sim {x y : CX} (h : SmC x y) (c : Cn) : SmC (x.1, x.2 ++ [c]) (putQ y c) := by
  unfold putQ
  by_cases hx : x.1.e = 0
  · have hy := (nrm_live h.1).1 hx
    rw [if_pos hy]
    exact ⟨h.1, fun _ => by rw [h.2 hx]⟩
  · have hy : ¬ y.1.e = 0 := fun e => hx ((nrm_live h.1).2 e)
    rw [if_neg hy]
    exact ⟨h.1, fun e => absurd e hx⟩
theorem row_sim {part partR : CX → CX} {ts : List Tk} (hw : WfA ts) {m : List UInt8} (hm : letB (cd m 0) = false ∧ cd m 0 ≠ 95) (hne : m ≠ []) (hp : ∀ x y, SmC x y → SmC (part x) (partR y)) (k : Int) : ∀ (n : Nat) (x y : CX), SmC x y → SmC (rowL part ts m k n x) (rowQ partR ts m k n y)
  | 0, x, y, h => h
  | n + 1, x, y, h => by
    unfold rowL rowQ
    by_cases hx : x.1.e = 0
    · obtain ⟨hy, hpp⟩ := nrm_p h.1 hx
      rw [mark_is hw hm hne, show isP ts m y.1 = isP ts m x.1 by unfold isP; rw [hpp]]
      by_cases hi : isP ts m x.1 = true
      · rw [if_pos hi, if_neg (by simpa using hx), if_pos ⟨hy, hi⟩]
        exact row_sim hw hm hne hp k n _ _ (put_sim (hp (goF x.1, x.2) (goF y.1, y.2) ⟨nrm_go h.1, fun _ => h.2 hx⟩) (nodC k))
      · rw [if_neg hi, if_neg fun hh => hi hh.2]
        exact h
    · have hy : ¬ y.1.e = 0 := fun e => hx ((nrm_live h.1).2 e)
      rw [if_pos (show x.1.e ≠ 0 from hx), if_neg (show ¬ (y.1.e = 0 ∧ takeB ts m y.1.p = true) from fun hh => hy hh.1), ite_self]
      exact h
theorem and_sim {part partR : CX → CX} {ts : List Tk} (hw : WfA ts) (hp : ∀ x y, SmC x y → SmC (part x) (partR y)) (n : Nat) (x y : CX) (h : SmC x y) : SmC (andG part ts n x) (andQ partR ts n y) := row_sim hw (by decide) (by decide) hp 4 n _ _ (hp _ _ h)
theorem or_sim {part partR : CX → CX} {ts : List Tk} (hw : WfA ts) (hp : ∀ x y, SmC x y → SmC (part x) (partR y)) (n : Nat) (x y : CX) (h : SmC x y) : SmC (orG part ts n x) (orQ partR ts n y) := row_sim hw (by decide) (by decide) (fun x y h => and_sim hw hp n x y h) 5 n _ _ (and_sim hw hp n x y h)
theorem dead_mark {ts : List Tk} {s : RS} (h : s.e ≠ 0) (m : List UInt8) : markP ts m s = s := by unfold markP; rw [if_neg h]
theorem dead_num {ts : List Tk} {s : RS} (h : s.e ≠ 0) : numP ts s = (0, s) := by unfold numP; rw [if_neg h]
/-- A name that is asked for and is not one: what is wrong. -/
theorem lc_bad {ts : List Tk} {x : CX} {e q : Int} (hd : (ofP locI ts x.1).2.e ≠ 0) (hr : nrm (ofP locI ts x.1).2 = nrm (failF x.1 e q)) {y : CX} (h : SmC x y) {z : List Cn} : SmC (lcC ts x) (failF y.1 e q, z) := by
  unfold lcC
  dsimp only
  rw [dead_mark hd, dead_num hd]
  exact ⟨hr.trans (nrm_fail h.1 (fun _ => rfl) (fun _ => rfl)), fun e0 => absurd e0 hd⟩
theorem of_miss {ts : List Tk} {s : RS} (hs : s.e = 0) (hk : (tkAt ts s.p).k ≠ 1) : (ofP locI ts s).2 = missP ts s := by
  unfold ofP wordP
  rw [if_pos hs, if_neg hk, if_pos (show locI [] < 0 by decide)]
  unfold failF
  rw [if_neg (miss_e ts s)]
theorem whF_lt {ts : List Tk} {p : Nat} (h : p < ts.length) : whF ts p = (tkAt ts p).a := by unfold whF; rw [if_pos h]
theorem atm_sim {L : Lg} (hL : L.ix [] < 0) {ts : List Tk} (hw : WfA ts) : ∀ (n : Nat) (x y : CX), SmC x y → SmC (atmG L.ix ts n x) (notQ L ts n y)
  | 0, x, y, h => h
  | n + 1, x, y, h => by
    unfold atmG notQ
    by_cases hx : x.1.e = 0
    · obtain ⟨hy, hpp⟩ := nrm_p h.1 hx
      rw [if_neg (show ¬ x.1.e ≠ 0 by simpa using hx), if_neg (show ¬ y.1.e ≠ 0 by simpa using hy), mark_is hw (by decide) (by decide), mark_is hw (by decide) (by decide), show isP ts [126] y.1 = isP ts [126] x.1 by unfold isP; rw [hpp], show isP ts [40] y.1 = isP ts [40] x.1 by unfold isP; rw [hpp]]
      have hg : SmC (goF x.1, x.2) (goF y.1, y.2) := ⟨nrm_go h.1, fun _ => h.2 hx⟩
      split
      · exact put_sim (atm_sim hL hw n _ _ hg) _
      split
      · have h1 := or_sim hw (fun x y h => atm_sim hL hw n x y h) n _ _ hg
        have h2 := mark_sim (ts := ts) (m := [41]) h1.1
        exact ⟨h2.1, fun e => h1.2 (h2.2 e)⟩
      unfold atoQ
      rw [← hpp]
      by_cases hth : isTh ts x.1
      · rw [if_pos hth]
        obtain ⟨q1, q2, q3⟩ := hth
        have hlt : x.1.p < ts.length := at_lt (by rw [q1]; decide)
        rw [if_pos ⟨hlt, q1⟩, if_neg (by omega)]
        unfold rgC rgQ
        dsimp only
        rw [← hpp]
        have h1 := mark_sim (ts := ts) (m := [58]) hg.1
        have h2 := reg_sim hL (ts := ts) h1.1
        have h3 := mark_sim (ts := ts) (m := [61]) h2.1
        have h4 := num_sim hw.w h3.1
        have h5 : SmC ((numP ts (markP ts [61] (regP L ts (markP ts [58] (goF x.1))).2)).2, x.2) ((numR ts (markR ts [61] (regR L ts (markR ts [58] (goF y.1))).2)).2, y.2) := ⟨h4.1, fun _ => h.2 hx⟩
        unfold putQ
        have e0 : ∀ {P : Prop}, ((numP ts (markP ts [61] (regP L ts (markP ts [58] (goF x.1))).2)).2.e = 0 → P) → ((numR ts (markR ts [61] (regR L ts (markR ts [58] (goF y.1))).2)).2.e = 0 → P) := fun f e => f ((nrm_live h4.1).2 e)
        by_cases he : (numR ts (markR ts [61] (regR L ts (markR ts [58] (goF y.1))).2)).2.e = 0
        · rw [if_pos he]
          refine ⟨h4.1, fun e => ?_⟩
          have a1 := h4.2 e
          have a2 := h2.2 (h3.2 a1.1)
          show x.2 ++ [_] = y.2 ++ [_]
          have b1 : (ofP L.ix ts (markP ts [58] (goF x.1))).1 = (regR L ts (markR ts [58] (goF y.1))).1 := a2.2
          have b2 : (numP ts (markP ts [61] (ofP L.ix ts (markP ts [58] (goF x.1))).2)).1 = (numR ts (markR ts [61] (regR L ts (markR ts [58] (goF y.1))).2)).1 := a1.2
          rw [h.2 hx, b1, b2]
        · rw [if_neg he]
          exact ⟨h4.1, fun e => absurd ((nrm_live h4.1).1 e) he⟩
      · rw [if_neg hth]
        rcases hw.k x.1.p with hk | hk | hk | hk
        · rw [if_neg (by rw [hk]; rintro ⟨_, h⟩; exact absurd h (by decide)), if_neg (by rw [hk]; rintro ⟨⟨_, h⟩, _⟩; exact absurd h (by decide)), if_neg (by rw [hk]; rintro ⟨_, h⟩; exact absurd h (by decide))]
          have hm := of_miss (ts := ts) hx (by rw [hk]; decide)
          by_cases hlt : x.1.p < ts.length
          · rw [if_pos hlt]
            refine lc_bad (by rw [hm]; exact miss_e ts _) ?_ h
            rw [hm]
            unfold missP
            rw [if_pos hlt, whF_lt hlt]
          · rw [if_neg hlt]
            refine lc_bad (by rw [hm]; exact miss_e ts _) ?_ h
            rw [hm]
            unfold missP
            rw [if_neg hlt]
        · have hlt : x.1.p < ts.length := at_lt (by rw [hk]; decide)
          rw [if_neg (by rw [hk]; rintro ⟨_, h⟩; exact absurd h (by decide))]
          by_cases hl : 0 ≤ locI (tkAt ts x.1.p).s
          · rw [if_pos ⟨⟨hlt, hk⟩, hl⟩]
            have e1 : ofP locI ts x.1 = (locI (tkAt ts x.1.p).s, goF x.1) := by
              unfold ofP wordP
              rw [if_pos hx, if_pos hk, if_neg (by dsimp only; omega)]
            unfold lcC lcQ
            dsimp only
            rw [e1, ← hpp]
            have h3 := mark_sim (ts := ts) (m := [61]) hg.1
            have h4 := num_sim hw.w h3.1
            unfold putQ
            by_cases he : (numR ts (markR ts [61] (goF y.1))).2.e = 0
            · rw [if_pos he]
              refine ⟨h4.1, fun e => ?_⟩
              show x.2 ++ [_] = y.2 ++ [_]
              rw [h.2 hx, (h4.2 e).2]
            · rw [if_neg he]
              exact ⟨h4.1, fun e => absurd ((nrm_live h4.1).1 e) he⟩
          · rw [if_neg (by rintro ⟨_, h⟩; exact hl h), if_pos ⟨hlt, hk⟩]
            have e1 : (ofP locI ts x.1).2 = failF (goF x.1) 21 (tkAt ts x.1.p).a := by
              unfold ofP wordP
              rw [if_pos hx, if_pos hk, if_pos (by dsimp only; omega), whF_lt hlt]
            refine lc_bad (by rw [e1]; exact failF_e (by decide)) ?_ h
            rw [e1]
            unfold failF
            rw [if_pos hx, if_pos (show (goF x.1).e = 0 from hx)]
            unfold nrm
            rw [if_neg (show ¬ (21 : Int) = 0 by decide), if_neg (show ¬ (21 : Int) = 0 by decide)]
        · have hlt : x.1.p < ts.length := at_lt (by rw [hk]; decide)
          have hq : (tkAt ts x.1.p).n < 0 ∨ 2 < (tkAt ts x.1.p).n := by
            by_cases h1 : (tkAt ts x.1.p).n < 0
            · exact .inl h1
            · by_cases h2 : 2 < (tkAt ts x.1.p).n
              · exact .inr h2
              · exact absurd ⟨hk, by omega, by omega⟩ hth
          rw [if_pos ⟨hlt, hk⟩, if_pos hq]
          have hm := of_miss (ts := ts) hx (by rw [hk]; decide)
          refine lc_bad (by rw [hm]; exact miss_e ts _) ?_ h
          rw [hm]
          unfold missP
          rw [if_pos hlt, whF_lt hlt]
        · have hlt : x.1.p < ts.length := at_lt (by rw [hk]; decide)
          rw [if_neg (by rw [hk]; rintro ⟨_, h⟩; exact absurd h (by decide)), if_neg (by rw [hk]; rintro ⟨⟨_, h⟩, _⟩; exact absurd h (by decide)), if_neg (by rw [hk]; rintro ⟨_, h⟩; exact absurd h (by decide)), if_pos hlt]
          have hm := of_miss (ts := ts) hx (by rw [hk]; decide)
          refine lc_bad (by rw [hm]; exact miss_e ts _) ?_ h
          rw [hm]
          unfold missP
          rw [if_pos hlt, whF_lt hlt]
    · have hy : ¬ y.1.e = 0 := fun e => hx ((nrm_live h.1).2 e)
      rw [if_pos (show x.1.e ≠ 0 from hx), if_pos (show y.1.e ≠ 0 from hy)]
      exact h
/-- What the reference's Parse comes to. -/
def rpX (L : Lg) (ts : List Tk) : CX := orQ (notQ L ts (ts.length + 1)) ts (ts.length + 1) (rs0, [])
def rparseF (L : Lg) (ts : List Tk) : List Cn × Int × Int :=
  if (moreF ts (rpX L ts).1).e = 0 then (if 32 < (rpX L ts).2.length then ([], 2, whF ts 0) else ((rpX L ts).2, 0, 0)) else ([], (moreF ts (rpX L ts).1).e, (moreF ts (rpX L ts).1).q)
theorem cond_alike {L : Lg} (hL : L.ix [] < 0) {ts : List Tk} (hw : WfA ts) : cparseF L.ix ts = rparseF L ts := by
  have h : SmC (cpX L.ix ts) (rpX L ts) := or_sim hw (fun x y h => atm_sim hL hw (ts.length + 1) x y h) (ts.length + 1) _ _ ⟨rfl, fun _ => rfl⟩
  unfold cparseF rparseF cpS
  generalize cpX L.ix ts = x at h ⊢
  generalize rpX L ts = y at h ⊢
  have hm := nrm_more (ts := ts) h.1
  by_cases h0 : (moreF ts x.1).e = 0
  · have h1 := (nrm_live hm.1).1 h0
    have ho := h.2 (hm.2 h0)
    rw [if_pos h1, ← ho]
    by_cases hn : 32 < x.2.length
    · rw [if_pos hn, if_pos hn]
      have e1 : failF (moreF ts x.1) 2 (whF ts 0) = ⟨(moreF ts x.1).p, 2, whF ts 0⟩ := by unfold failF; rw [if_pos h0]
      rw [e1, if_neg (show ¬ (2 : Int) = 0 by decide)]
    · rw [if_neg hn, if_neg hn, if_pos h0]
  · have h1 : ¬ (moreF ts y.1).e = 0 := fun e => h0 ((nrm_live hm.1).2 e)
    have e1 : (if 32 < x.2.length then failF (moreF ts x.1) 2 (whF ts 0) else moreF ts x.1) = moreF ts x.1 := by
      split
      · unfold failF; rw [if_neg h0]
      · rfl
    rw [e1, if_neg h0, if_neg h1]
    have := hm.1
    unfold nrm at this
    rw [if_neg h0, if_neg h1] at this
    simp only [RS.mk.injEq, true_and] at this
    rw [this.1, this.2]
end SX
end Go.Proofs.YthkedcneehdinaaGreatDoor

/- The reference's readers of words: the cursor. -/
set_option linter.unusedVariables false
set_option maxRecDepth 100000
namespace Go.Proofs.YthkedcneehdinaaGreatDoor
namespace SX
open Go Go.Proofs
section
variable (ts : List Tk) (ad : Option Addr) (cap : Nat)
def curQ (p : Nat) : SB := .mem 71 [.imm Tk tk0 4 tkenc ts ad cap, .i .i64 p] 1 0
end
variable {ts : List Tk} {ad : Option Addr} {cap : Nat}
theorem bndQ {M p : Nat} : BndB M (curQ ts ad cap p) := ⟨rfl, rfl, trivial⟩
theorem wpeek_ok {p : Nat} (hp : p ≤ ts.length) : Ctr Tryz.prog 56 [.ptr 0 1 0 []] [curQ ts ad cap p] (fun r h => r = .tup [.agg (tkenc (tkAt ts p)), .b (decide (p < ts.length))] ∧ h = [curQ ts ad cap p]) := by
  refine Ctr.enterH tabOkF (fn := Tryz.f56) rfl rfl rfl rfl rfl rfl ⟨bndQ, trivial⟩ (Nat.le_refl _) ?_
  refine WpC.dr tabOkF mixed 0 ?_
  refine ⟨by kernel_rfl, ?_⟩
  refine ⟨fun h1 => ?_, fun h1 => ?_⟩
  · have h1 : (ts.length : Int) ≤ (p : Int) := of_decide_eq_true h1
    have e1 : tkAt ts p = tk0 := by unfold tkAt; rw [List.getD_eq_getElem?_getD, List.getElem?_eq_none (by omega)]; rfl
    rw [e1, decide_eq_false (by omega)]
    exact ⟨rfl, _, rfl⟩
  · have h1 : ¬ (ts.length : Int) ≤ (p : Int) := of_decide_eq_false h1
    rw [decide_eq_true (by omega)]
    refine WpC.dr tabOkF mixed 0 ?_
    refine ⟨fun _ => ⟨by omega, by omega⟩, ?_⟩
    refine ⟨by kernel_rfl, ?_⟩
    exact ⟨rfl, _, rfl⟩
theorem wnext_ok {p : Nat} (hp : p < ts.length) (hl : ts.length ≤ 100000) : Ctr Tryz.prog 59 [.ptr 0 1 0 []] [curQ ts ad cap p] (fun r h => r = .tup [.agg (tkenc (tkAt ts p)), .b true] ∧ h = [curQ ts ad cap (p + 1)]) := by
  have hk := wpeek_ok (ad := ad) (cap := cap) (p := p) (ts := ts) (by omega)
  rw [decide_eq_true hp] at hk
  have e1 := wfn (ts := ts) (p := p) (by omega) hl
  have eB : curQ ts ad cap (p + 1) = .mem 71 [.imm Tk tk0 4 tkenc ts ad cap, .i .i64 (IntKind.i64.wrap ((p : Int) + 1))] 1 0 := by rw [e1]; rfl
  rw [eB]
  refine Ctr.enterH tabOkF (fn := Tryz.f59) rfl rfl rfl rfl rfl rfl ⟨⟨rfl, rfl, trivial⟩, trivial⟩ (Nat.le_refl _) ?_
  refine OpC.callH rfl rfl rfl rfl [0] rfl hk rfl rfl rfl rfl ⟨rfl, trivial⟩ rfl ?_
  refine ⟨fun _ => ?_, fun h => no_tf h⟩
  exact ⟨rfl, _, rfl⟩
theorem where_ok {p : Nat} (hp : p ≤ ts.length) (hl : ts.length ≤ 100000) : Ctr Tryz.prog 57 [.ptr 0 1 0 []] [curQ ts ad cap p] (fun r h => r = .i .i64 (whF ts p) ∧ h = [curQ ts ad cap p]) := by
  refine Ctr.enterH tabOkF (fn := Tryz.f57) rfl rfl rfl rfl rfl rfl ⟨bndQ, trivial⟩ (Nat.le_refl _) ?_
  refine WpC.dr tabOkF mixed 0 ?_
  refine ⟨by kernel_rfl, ?_⟩
  unfold whF
  refine ⟨fun h1 => ?_, fun h1 => ?_⟩
  · have h1 : (p : Int) < (ts.length : Int) := of_decide_eq_true h1
    rw [if_pos (by omega)]
    refine WpC.dr tabOkF mixed 0 ?_
    refine ⟨fun _ => ⟨by omega, by omega⟩, ?_⟩
    refine ⟨by kernel_rfl, ?_⟩
    exact ⟨rfl, _, rfl⟩
  · have h1 : ¬ (p : Int) < (ts.length : Int) := of_decide_eq_false h1
    rw [if_neg (by omega)]
    refine ⟨fun h2 => ?_, fun h2 => ?_⟩
    · have h2 : (ts.length : Int) = 0 := of_decide_eq_true h2
      rw [if_pos (by omega)]
      exact ⟨rfl, _, rfl⟩
    · have h2 : ¬ (ts.length : Int) = 0 := of_decide_eq_false h2
      rw [if_neg (by omega)]
      have e1 : IntKind.i64.wrap ((ts.length : Int) - 1) = ((ts.length - 1 : Nat) : Int) := by rw [w64 (by omega) (by omega)]; omega
      refine WpC.dr tabOkF mixed 1 ?_
      refine ⟨fun _ => ?_, ?_⟩
      · show (0 : Int) ≤ IntKind.i64.wrap ((ts.length : Int) - 1) ∧ IntKind.i64.wrap ((ts.length : Int) - 1) < (ts.length : Int)
        rw [e1]; omega
      refine ⟨by kernel_rfl, ?_⟩
      refine ⟨i_cg ?_, _, rfl⟩
      show IntKind.i64.wrap ((ts.getD (IntKind.i64.wrap ((ts.length : Int) - 1)).toNat tk0).a + ((ts.getD (IntKind.i64.wrap ((ts.length : Int) - 1)).toNat tk0).s.length : Int)) = _
      rw [e1, Int.toNat_natCast]; rfl
theorem take_inQ {m : List UInt8} {p : Nat} (hlt : p < ts.length) (e0 : IntKind.i64.wrap ((p : Int) + ((0 : Nat) : Int)) = (p : Int)) : (decide ((ts.getD (IntKind.i64.wrap ((p : Int) + ((0 : Nat) : Int))).toNat tk0).k = 2) || (!decide ((ts.getD (IntKind.i64.wrap ((p : Int) + ((0 : Nat) : Int))).toNat tk0).s = m))) = !takeB ts m p := by
  rw [e0, Int.toNat_natCast]
  show (decide ((tkAt ts p).k = 2) || (!decide ((tkAt ts p).s = m))) = _
  unfold takeB
  rw [decide_eq_true hlt]
  cases decide ((tkAt ts p).s = m) <;> cases decide ((tkAt ts p).k = 2) <;> rfl
def oneB (m : List UInt8) : SB := .mem 9 [.s m] 1 1
theorem wtake_ok {m : List UInt8} {p : Nat} {b : Bool} {q : Nat} (hb : takeB ts m p = b) (hq : q = if b then p + 1 else p) (hp : p ≤ ts.length) (hl : ts.length ≤ 100000) : Ctr Tryz.prog 191 [.ptr 0 1 0 [], .sl 1 1 0 1 none 0] [curQ ts ad cap p, oneB m] (fun r h => r = .b b ∧ h = [curQ ts ad cap q, oneB m]) := by
  have e0 : IntKind.i64.wrap ((p : Int) + ((0 : Nat) : Int)) = (p : Int) := w64 (by omega) (by omega)
  have e1 : IntKind.i64.wrap ((p : Int) + 1) = ((p + 1 : Nat) : Int) := wfn hp hl
  have e2 : IntKind.i64.wrap ((ts.length : Int) - (p : Int)) = (ts.length : Int) - (p : Int) := w64 (by omega) (by omega)
  have eB : ∀ x : Int, x = ((p + 1 : Nat) : Int) → .mem 71 [.imm Tk tk0 4 tkenc ts ad cap, .i .i64 x] 1 0 = curQ ts ad cap (p + 1) := fun x h => by rw [h]; rfl
  refine Ctr.enterH tabOkF (fn := Tryz.f191) rfl rfl rfl rfl rfl rfl ⟨bndQ, ⟨rfl, trivial⟩, trivial⟩ (Nat.le_refl _) ?_
  refine WpC.dr tabOkF mixed 0 ?_
  refine ⟨by kernel_rfl, ?_⟩
  refine ⟨fun h1 => ?_, fun h1 => ?_⟩
  · have h1 : IntKind.i64.wrap ((ts.length : Int) - (p : Int)) < 1 := of_decide_eq_true h1
    have hbf : b = false := by
      rw [← hb]; unfold takeB; rw [decide_eq_false (by omega)]; rfl
    subst hbf
    rw [hq]
    exact ⟨rfl, _, rfl⟩
  · have h1 : ¬ IntKind.i64.wrap ((ts.length : Int) - (p : Int)) < 1 := of_decide_eq_false h1
    have hlt : p < ts.length := by omega
    have ht := take_inQ (m := m) hlt e0
    rw [hb] at ht
    refine WpC.loop tabOkF (β := Nat) (fun k => k = 0 ∨ (k = 1 ∧ b = true)) (fun k => [(5, .i .i64 k)]) (fun _ => [curQ ts ad cap p, oneB m]) (fun k => 1 - k) 0 (2 ^ 60 - 1 - 3) (.inl rfl) ?_ ?_
    · exact ⟨rfl, ⟨⟨rfl, rfl, rfl⟩, trivial⟩, ⟨[], rfl⟩, ⟨bndQ, ⟨rfl, trivial⟩, trivial⟩, rfl⟩
    · rintro k (rfl | ⟨rfl, hbt⟩)
      · refine ⟨fun _ => ?_, fun h => no_tf h⟩
        refine WpC.dr tabOkF mixed 1 ?_
        refine ⟨fun _ => ?_, ?_⟩
        · show (0 : Int) ≤ IntKind.i64.wrap ((p : Int) + ((0 : Nat) : Int)) ∧ IntKind.i64.wrap ((p : Int) + ((0 : Nat) : Int)) < (ts.length : Int)
          rw [e0]; omega
        refine ⟨by kernel_rfl, ?_⟩
        refine WpC.dr tabOkF mixed 0 ?_
        refine ⟨fun _ => by decide, ?_⟩
        refine ⟨fun _ => rfl, ?_⟩
        refine ⟨by kernel_rfl, ?_⟩
        refine ⟨fun h2 => ?_, fun h2 => ?_⟩
        · have h2 := ht.symm.trans h2
          have hbf : b = false := by cases b with | false => rfl | true => cases h2
          subst hbf
          rw [hq]
          exact ⟨rfl, _, rfl⟩
        · have h2 := ht.symm.trans h2
          have hbt : b = true := by cases b with | true => rfl | false => cases h2
          exact ⟨1, .inr ⟨rfl, hbt⟩, by decide, rfl, ⟨⟨rfl, rfl, rfl⟩, trivial⟩, ⟨_, rfl⟩, ⟨bndQ, ⟨rfl, trivial⟩, trivial⟩, rfl⟩
      · refine ⟨fun h => no_ft h, fun _ => ?_⟩
        subst hbt
        rw [hq, if_pos rfl]
        refine ⟨rfl, [], ?_⟩
        rw [← eB _ e1]
        rfl
theorem wmark_ok {m : List UInt8} {p : Nat} {b : Bool} {q : Nat} (hb : takeB ts m p = b) (hq : q = if b then p + 1 else p) (hp : p ≤ ts.length) (hl : ts.length ≤ 100000) : Ctr Tryz.prog 128 [.ptr 0 1 0 [], .s m] [curQ ts ad cap p] (fun r h => r = .b b ∧ h = [curQ ts ad cap q]) := by
  refine Ctr.enterH tabOkF (fn := Tryz.f128) rfl rfl rfl rfl rfl rfl ⟨bndQ, trivial⟩ (Nat.le_refl _) ?_
  refine OpC.yld 1 rfl (yld_app_new tabOkF rfl rfl rfl rfl rfl rfl (BaseA.nil rfl) (SrcA.sl rfl rfl rfl rfl (by decide) rfl) (p := 2) rfl (segs' := [.s m]) Joins.nil (by decide) (by decide) (by decide)) (fun d hd => by cases hd; rfl) ?_
  refine OpC.callH rfl rfl rfl rfl [0, 2] rfl (wtake_ok hb hq hp hl) rfl rfl rfl rfl ⟨rfl, rfl, trivial⟩ rfl ?_
  exact ⟨rfl, _, rfl⟩
end SX
end Go.Proofs.YthkedcneehdinaaGreatDoor

/- The reference's readers of words: the reader's small functions. -/
set_option linter.unusedVariables false
set_option maxRecDepth 100000
namespace Go.Proofs.YthkedcneehdinaaGreatDoor
namespace SX
open Go Go.Proofs
/-- What the reference's reader stands on. -/
structure Qc where
  a : Int
  L : Lg
  ts : List Tk
  ad : Option Addr
  cap : Nat
def rdQ (a e q : Int) : SB := .mem 73 [.i .i64 a, .ptr 0 1 0 [], .i .i64 e, .i .i64 q] 1 0
def hQ (c : Qc) (s : RS) : List SB := [curQ c.ts c.ad c.cap s.p, rdQ c.a s.e s.q]
theorem bndQ2 {c : Qc} {s : RS} : BndH 2 (hQ c s) := ⟨bndQ, ⟨rfl, rfl, rfl, rfl, trivial⟩, trivial⟩
/-- A state that may be. -/
structure Qk (c : Qc) (s : RS) : Prop where
  p : s.p ≤ c.ts.length
  l : c.ts.length ≤ 100000
/-- A language of the reference's. -/
structure QL (c : Qc) : Prop where
  reg : ∀ v, CtrV Tryz.prog 21 [.i .i64 c.a, .s v] (.i .i64 (c.L.ix v))
  h : (c.a = 1 ∧ c.L.h = [36]) ∨ (c.a = 2 ∧ c.L.h = []) ∨ (c.a = 3 ∧ c.L.h = [35])
variable {c : Qc} {s : RS}
theorem Qk.fail (h : Qk c s) (e q : Int) : Qk c (failF s e q) := by
  unfold failF; split
  · exact ⟨h.p, h.l⟩
  · exact h
theorem Qk.odd (h : Qk c s) (u : Bool) : Qk c (oddR c.ts u s) := by
  unfold oddR
  split
  · split <;> exact h.fail _ _
  · exact h.fail _ _
theorem Qk.go (h : Qk c s) (hl : s.p < c.ts.length) : Qk c (goF s) := ⟨hl, h.l⟩
theorem takeQ_lt {ts : List Tk} {m : List UInt8} {p : Nat} (h : takeB ts m p = true) : p < ts.length := by
  unfold takeB at h
  simp only [Bool.and_eq_true, decide_eq_true_eq] at h
  exact h.1
theorem Qk.mark (h : Qk c s) (m : List UInt8) : Qk c (markR c.ts m s) := by
  unfold markR
  split
  · split
    · rename_i ht; exact h.go (takeQ_lt ht)
    · exact h.odd _
  · exact h
theorem Qk.reg (h : Qk c s) : Qk c (regR c.L c.ts s).2 := by
  unfold regR
  split
  · split
    · rename_i hk; exact h.go (at_lt (by rw [hk.1]; decide))
    · exact h.odd _
  · exact h
theorem qfail_ok (e q : Int) : Ctr Tryz.prog 64 [.ptr 1 1 0 [], .i .i64 e, .i .i64 q] (hQ c s) (fun r h => r = .tup [] ∧ h = hQ c (failF s e q)) := by
  obtain ⟨p, e0, q0⟩ := s
  by_cases he : e0 = 0
  · subst he
    refine Ctr.enterH tabOkF (fn := Tryz.f64) rfl rfl rfl rfl rfl rfl bndQ2 (Nat.le_refl _) ?_
    refine ⟨fun _ => ?_, fun h => no_tf h⟩
    exact ⟨rfl, _, rfl⟩
  · have e1 : failF ⟨p, e0, q0⟩ e q = ⟨p, e0, q0⟩ := fail_dead he e q
    rw [e1]
    refine Ctr.enterH tabOkF (fn := Tryz.f64) rfl rfl rfl rfl rfl rfl bndQ2 (Nat.le_refl _) ?_
    refine ⟨fun h => absurd (of_decide_eq_true h) he, fun _ => ?_⟩
    exact ⟨rfl, _, rfl⟩
theorem qodd_ok (hk : Qk c s) (u : Bool) : Ctr Tryz.prog 58 [.ptr 1 1 0 [], .b u] (hQ c s) (fun r h => r = .tup [] ∧ h = hQ c (oddR c.ts u s)) := by
  refine Ctr.enterH tabOkF (fn := Tryz.f58) rfl rfl rfl rfl rfl rfl bndQ2 (Nat.le_refl _) ?_
  refine OpC.callH rfl rfl rfl rfl [0] rfl (wpeek_ok (ad := c.ad) (cap := c.cap) hk.p) rfl rfl rfl rfl ⟨rfl, trivial⟩ rfl ?_
  unfold oddR
  refine ⟨fun h1 => ?_, fun h1 => ?_⟩
  · have h1 : (!decide (s.p < c.ts.length)) = true := h1
    have h1 : ¬ s.p < c.ts.length := by simpa using h1
    rw [if_neg h1]
    refine OpC.callH rfl rfl rfl rfl [0] rfl (where_ok (ad := c.ad) (cap := c.cap) hk.p hk.l) rfl rfl rfl rfl ⟨rfl, trivial⟩ rfl ?_
    refine OpC.callH rfl rfl rfl rfl [0, 1] rfl (qfail_ok 24 (whF c.ts s.p)) rfl rfl rfl rfl ⟨rfl, rfl, trivial⟩ rfl ?_
    exact ⟨rfl, _, rfl⟩
  · have h1 : (!decide (s.p < c.ts.length)) = false := h1
    have h1 : s.p < c.ts.length := by simpa using h1
    rw [if_pos h1]
    refine ⟨fun h2 => ?_, fun h2 => ?_⟩
    · have h2 : (u && decide ((tkAt c.ts s.p).k = 1)) = true := h2
      rw [if_pos h2]
      refine OpC.callH rfl rfl rfl rfl [0, 1] rfl (qfail_ok 21 (tkAt c.ts s.p).a) rfl rfl rfl rfl ⟨rfl, rfl, trivial⟩ rfl ?_
      exact ⟨rfl, _, rfl⟩
    · have h2 : (u && decide ((tkAt c.ts s.p).k = 1)) = false := h2
      rw [if_neg (by rw [h2]; decide)]
      refine OpC.callH rfl rfl rfl rfl [0, 1] rfl (qfail_ok 22 (tkAt c.ts s.p).a) rfl rfl rfl rfl ⟨rfl, rfl, trivial⟩ rfl ?_
      exact ⟨rfl, _, rfl⟩
theorem qmark_w (hk : Qk c s) (m : List UInt8) : Ctr Tryz.prog 108 [.ptr 1 1 0 [], .s m] (hQ c s) (fun r h => r = .tup [] ∧ h = hQ c (markR c.ts m s)) := by
  obtain ⟨p, e0, q0⟩ := s
  by_cases he : e0 = 0
  · subst he
    unfold markR
    rw [if_pos rfl]
    refine Ctr.enterH tabOkF (fn := Tryz.f108) rfl rfl rfl rfl rfl rfl bndQ2 (Nat.le_refl _) ?_
    refine OpC.open 13 rfl rfl rfl ?_
    refine OpC.open 14 rfl rfl rfl ?_
    refine OpC.guardT tabOkF rfl rfl ?_
    cases hb : takeB c.ts m p with
    | true =>
      refine OpC.callH rfl rfl rfl rfl [0] rfl (wmark_ok (ad := c.ad) (cap := c.cap) (m := m) hb rfl hk.p hk.l) rfl rfl rfl rfl ⟨rfl, trivial⟩ rfl ?_
      refine ⟨fun h => no_ft h, fun _ => ?_⟩
      exact ⟨rfl, _, rfl⟩
    | false =>
      refine OpC.callH rfl rfl rfl rfl [0] rfl (wmark_ok (ad := c.ad) (cap := c.cap) (m := m) hb rfl hk.p hk.l) rfl rfl rfl rfl ⟨rfl, trivial⟩ rfl ?_
      refine ⟨fun _ => ?_, fun h => no_tf h⟩
      refine OpC.callH rfl rfl rfl rfl [0, 1] rfl (qodd_ok (s := ⟨p, 0, q0⟩) hk false) rfl rfl rfl rfl ⟨rfl, rfl, trivial⟩ rfl ?_
      exact ⟨rfl, _, rfl⟩
  · have e1 : markR c.ts m ⟨p, e0, q0⟩ = ⟨p, e0, q0⟩ := by unfold markR; rw [if_neg he]
    rw [e1]
    refine Ctr.enterH tabOkF (fn := Tryz.f108) rfl rfl rfl rfl rfl rfl bndQ2 (Nat.le_refl _) ?_
    have hg : (decide (e0 = 0) == true) = false := by rw [decide_eq_false he]; rfl
    refine OpC.skipG rfl hg (.b false) ?_
    refine ⟨fun h => ?_, fun _ => ⟨rfl, _, rfl⟩⟩
    have h : (decide (e0 = 0) && !false) = true := h
    rw [decide_eq_false he] at h; cases h
set_option maxHeartbeats 1000000 in
theorem qreg_w (hL : QL c) (hk : Qk c s) : Ctr Tryz.prog 107 [.ptr 1 1 0 []] (hQ c s) (fun r h => r = .i .i64 (regR c.L c.ts s).1 ∧ h = hQ c (regR c.L c.ts s).2) := by
  obtain ⟨p, e0, q0⟩ := s
  have hpk := wpeek_ok (ad := c.ad) (cap := c.cap) hk.p
  have hreg := hL.reg (tkAt c.ts p).s
  by_cases he : e0 = 0
  · subst he
    unfold regR
    rw [if_pos rfl]
    by_cases h1 : (tkAt c.ts p).k = 1 ∧ 0 ≤ c.L.ix (tkAt c.ts p).s
    · have hlt := at_lt (ts := c.ts) (p := p) (by rw [h1.1]; decide)
      have h1' : (tkAt c.ts (⟨p, 0, q0⟩ : RS).p).k = 1 ∧ 0 ≤ c.L.ix (tkAt c.ts (⟨p, 0, q0⟩ : RS).p).s := h1
      rw [if_pos h1']
      rw [decide_eq_true (show (⟨p, 0, q0⟩ : RS).p < c.ts.length from hlt)] at hpk
      refine Ctr.enterH tabOkF (fn := Tryz.f107) rfl rfl rfl rfl rfl rfl bndQ2 (Nat.le_refl _) ?_
      refine OpC.callH rfl rfl rfl rfl [0] rfl hpk rfl rfl rfl rfl ⟨rfl, trivial⟩ rfl ?_
      refine ⟨fun h => no_ft h, fun _ => ?_⟩
      refine WpC.dr tabOkF mixed 0 ?_
      refine OpD.callV rfl rfl rfl rfl rfl rfl rfl (fun _ => hreg) ?_
      refine ⟨by kernel_rfl, ?_⟩
      refine ⟨fun h => ?_, fun _ => ?_⟩
      · have h : ((false || (!decide ((tkAt c.ts p).k = 1))) || decide (c.L.ix (tkAt c.ts p).s < 0)) = true := h
        rw [decide_eq_true h1.1, decide_eq_false (by omega)] at h; cases h
      refine OpC.callH rfl rfl rfl rfl [0] rfl (wnext_ok (ad := c.ad) (cap := c.cap) hlt hk.l) rfl rfl rfl rfl ⟨rfl, trivial⟩ rfl ?_
      refine WpC.dr tabOkF mixed 0 ?_
      refine OpD.callV rfl rfl rfl rfl rfl rfl rfl (fun _ => hreg) ?_
      refine ⟨by kernel_rfl, ?_⟩
      exact ⟨rfl, _, rfl⟩
    · have h1' : ¬ ((tkAt c.ts (⟨p, 0, q0⟩ : RS).p).k = 1 ∧ 0 ≤ c.L.ix (tkAt c.ts (⟨p, 0, q0⟩ : RS).p).s) := h1
      rw [if_neg h1']
      refine Ctr.enterH tabOkF (fn := Tryz.f107) rfl rfl rfl rfl rfl rfl bndQ2 (Nat.le_refl _) ?_
      refine OpC.callH rfl rfl rfl rfl [0] rfl hpk rfl rfl rfl rfl ⟨rfl, trivial⟩ rfl ?_
      refine ⟨fun h => no_ft h, fun _ => ?_⟩
      refine WpC.dr tabOkF mixed 0 ?_
      refine OpD.callV rfl rfl rfl rfl rfl rfl rfl (fun _ => hreg) ?_
      refine ⟨by kernel_rfl, ?_⟩
      refine ⟨fun _ => ?_, fun h => ?_⟩
      · refine OpC.callH rfl rfl rfl rfl [0, 1] rfl (qodd_ok (s := ⟨p, 0, q0⟩) hk true) rfl rfl rfl rfl ⟨rfl, rfl, trivial⟩ rfl ?_
        exact ⟨rfl, _, rfl⟩
      · have h : (((!decide (p < c.ts.length)) || (!decide ((tkAt c.ts p).k = 1))) || decide (c.L.ix (tkAt c.ts p).s < 0)) = false := h
        simp only [Bool.or_eq_false_iff, Bool.not_eq_false', decide_eq_true_eq, decide_eq_false_iff_not] at h
        exact absurd ⟨h.1.2, by omega⟩ h1
  · have e1 : regR c.L c.ts ⟨p, e0, q0⟩ = (-1, ⟨p, e0, q0⟩) := by unfold regR; rw [if_neg he]
    rw [e1]
    refine Ctr.enterH tabOkF (fn := Tryz.f107) rfl rfl rfl rfl rfl rfl bndQ2 (Nat.le_refl _) ?_
    refine OpC.callH rfl rfl rfl rfl [0] rfl hpk rfl rfl rfl rfl ⟨rfl, trivial⟩ rfl ?_
    refine ⟨fun _ => ⟨rfl, _, rfl⟩, fun h => ?_⟩
    have h : (!decide (e0 = 0)) = false := h
    rw [decide_eq_false he] at h; cases h
set_option maxHeartbeats 1000000 in
theorem qnum_w (hk : Qk c s) : Ctr Tryz.prog 178 [.ptr 1 1 0 []] (hQ c s) (fun r h => r = .i .i64 (numR c.ts s).1 ∧ h = hQ c (numR c.ts s).2) := by
  obtain ⟨p, e0, q0⟩ := s
  by_cases he : e0 = 0
  · subst he
    have fin : ∀ (b : Bool) (p' : Nat), takeB c.ts [45] p = b → p' = (if b then p + 1 else p) → numR c.ts ⟨p, 0, q0⟩ = nmR c.ts b ⟨p', 0, q0⟩ → Qk c ⟨p', 0, q0⟩ → Ctr Tryz.prog 178 [.ptr 1 1 0 []] (hQ c ⟨p, 0, q0⟩) (fun r h => r = .i .i64 (numR c.ts ⟨p, 0, q0⟩).1 ∧ h = hQ c (numR c.ts ⟨p, 0, q0⟩).2) := by
      intro b p' hb hp' hn hk2
      rw [hn]
      unfold nmR
      have hpk := wpeek_ok (ad := c.ad) (cap := c.cap) hk2.p
      by_cases h2 : (tkAt c.ts p').k = 2
      · have hlt := at_lt (ts := c.ts) (p := p') (by rw [h2]; decide)
        have h2' : (tkAt c.ts (⟨p', 0, q0⟩ : RS).p).k = 2 := h2
        rw [if_pos h2']
        rw [decide_eq_true (show (⟨p', 0, q0⟩ : RS).p < c.ts.length from hlt)] at hpk
        refine Ctr.enterH tabOkF (fn := Tryz.f178) rfl rfl rfl rfl rfl rfl bndQ2 (Nat.le_refl _) ?_
        refine ⟨fun h => no_ft h, fun _ => ?_⟩
        refine OpC.callH rfl rfl rfl rfl [0] rfl (wmark_ok (ad := c.ad) (cap := c.cap) hb hp' hk.p hk.l) rfl rfl rfl rfl ⟨rfl, trivial⟩ rfl ?_
        refine OpC.callH rfl rfl rfl rfl [0] rfl hpk rfl rfl rfl rfl ⟨rfl, trivial⟩ rfl ?_
        refine ⟨fun h => ?_, fun _ => ?_⟩
        · have h : (false || (!decide ((tkAt c.ts p').k = 2))) = true := h
          rw [decide_eq_true h2] at h; cases h
        refine OpC.callH rfl rfl rfl rfl [0] rfl (wnext_ok (ad := c.ad) (cap := c.cap) hlt hk.l) rfl rfl rfl rfl ⟨rfl, trivial⟩ rfl ?_
        cases b with
        | true =>
          refine ⟨fun _ => ?_, fun h => no_tf h⟩
          exact ⟨rfl, _, rfl⟩
        | false =>
          refine ⟨fun h => no_ft h, fun _ => ?_⟩
          exact ⟨rfl, _, rfl⟩
      · have h2' : ¬ (tkAt c.ts (⟨p', 0, q0⟩ : RS).p).k = 2 := h2
        rw [if_neg h2']
        refine Ctr.enterH tabOkF (fn := Tryz.f178) rfl rfl rfl rfl rfl rfl bndQ2 (Nat.le_refl _) ?_
        refine ⟨fun h => no_ft h, fun _ => ?_⟩
        refine OpC.callH rfl rfl rfl rfl [0] rfl (wmark_ok (ad := c.ad) (cap := c.cap) hb hp' hk.p hk.l) rfl rfl rfl rfl ⟨rfl, trivial⟩ rfl ?_
        refine OpC.callH rfl rfl rfl rfl [0] rfl hpk rfl rfl rfl rfl ⟨rfl, trivial⟩ rfl ?_
        refine ⟨fun _ => ?_, fun h => ?_⟩
        · refine OpC.callH rfl rfl rfl rfl [0, 1] rfl (qodd_ok (s := ⟨p', 0, q0⟩) hk2 false) rfl rfl rfl rfl ⟨rfl, rfl, trivial⟩ rfl ?_
          exact ⟨rfl, _, rfl⟩
        · have h : ((!decide (p' < c.ts.length)) || (!decide ((tkAt c.ts p').k = 2))) = false := h
          rw [decide_eq_false h2, Bool.not_false, Bool.or_true] at h; cases h
    cases hb : takeB c.ts [45] p with
    | true => exact fin true (p + 1) hb rfl (by unfold numR; rw [if_pos rfl]; exact if_pos hb) ⟨takeQ_lt hb, hk.l⟩
    | false => exact fin false p hb rfl (by unfold numR; rw [if_pos rfl]; exact if_neg (by rw [hb]; decide)) hk
  · have e1 : numR c.ts ⟨p, e0, q0⟩ = (0, ⟨p, e0, q0⟩) := by unfold numR; rw [if_neg he]
    rw [e1]
    refine Ctr.enterH tabOkF (fn := Tryz.f178) rfl rfl rfl rfl rfl rfl bndQ2 (Nat.le_refl _) ?_
    refine ⟨fun _ => ⟨rfl, _, rfl⟩, fun h => ?_⟩
    have h : (!decide (e0 = 0)) = false := h
    rw [decide_eq_false he] at h; cases h
end SX
end Go.Proofs.YthkedcneehdinaaGreatDoor

/- The reference's readers of words: places of memory, branches, names. Written by qwc.py. -/
set_option linter.unusedVariables false
set_option maxRecDepth 100000
namespace Go.Proofs.YthkedcneehdinaaGreatDoor
namespace SX
open Go Go.Proofs
variable {c : Qc} {s : RS}
theorem qloc_w (v : List UInt8) : CtrV Tryz.prog 179 [.s v] (.i .i64 (locI v)) := by
  refine Ctr.enterV tabOkF (fn := Tryz.f179) rfl rfl rfl rfl rfl rfl ?_
  unfold locI
  refine ⟨fun h => ?_, fun h => ?_⟩
  · rw [if_pos (of_decide_eq_true h)]; exact rfl
  rw [if_neg (of_decide_eq_false h)]
  refine ⟨fun h => ?_, fun h => ?_⟩
  · rw [if_pos (of_decide_eq_true h)]; exact rfl
  rw [if_neg (of_decide_eq_false h)]
  refine ⟨fun h => ?_, fun h => ?_⟩
  · rw [if_pos (of_decide_eq_true h)]; exact rfl
  rw [if_neg (of_decide_eq_false h)]; exact rfl
end SX
end Go.Proofs.YthkedcneehdinaaGreatDoor

/- A condition's reader: the reference's walk. Printed by cra.py. -/
set_option linter.unusedVariables false
set_option maxRecDepth 100000
namespace Go.Proofs.YthkedcneehdinaaGreatDoor
namespace SX
open Go Go.Proofs
/-! How far a step goes. -/
theorem mov_odd {ts : List Tk} {a : RS} (h : a.p ≤ ts.length) (u : Bool) : Mov ts a (oddR ts u a) := by
  unfold oddR
  split
  · split <;> exact mov_fail h (by decide)
  · exact mov_fail h (by decide)
theorem mov_markR {ts : List Tk} {a : RS} (m : List UInt8) (h : a.p ≤ ts.length) : Mov ts a (markR ts m a) := by rw [← mark_eq]; exact mov_mark m h
theorem mov_regR {L : Lg} {ts : List Tk} {a : RS} (h : a.p ≤ ts.length) : Mov ts a (regR L ts a).2 := by
  unfold regR
  split
  · split
    · rename_i hk; exact mov_go (at_lt (by rw [hk.1]; decide))
    · exact mov_odd h true
  · exact .refl h
theorem mov_nmR {ts : List Tk} {a : RS} (g : Bool) (h : a.p ≤ ts.length) : Mov ts a (nmR ts g a).2 := by
  unfold nmR
  split
  · rename_i hk; exact mov_go (at_lt (by rw [hk]; decide))
  · exact mov_odd h false
theorem mov_numR {ts : List Tk} {a : RS} (h : a.p ≤ ts.length) : Mov ts a (numR ts a).2 := by
  unfold numR
  split
  · split
    · rename_i ht
      have h1 := mov_go (take_lt ht)
      exact h1.trans (mov_nmR _ h1.t)
    · exact mov_nmR _ h
  · exact .refl h
theorem put_len (x : CX) (c : Cn) : (putQ x c).2.length ≤ x.2.length + 1 ∧ (putQ x c).1 = x.1 := by
  unfold putQ
  split
  · exact ⟨by simp, rfl⟩
  · exact ⟨by omega, rfl⟩
theorem stp_put {ts : List Tk} {x y : CX} {c : Cn} (hp : x.1.p ≤ y.1.p) (ht : y.1.p ≤ ts.length) (he : x.1.e ≠ 0 → y.1.e ≠ 0) (hw : y.2.length + wC x.1 + 1 ≤ x.2.length + wC y.1) : Stp ts x (putQ y c) := by
  obtain ⟨h1, h2⟩ := put_len y c
  exact ⟨by rw [h2]; exact hp, by rw [h2]; exact ht, by rw [h2]; exact he, by rw [h2]; omega⟩
theorem stp_rowQ {part : CX → CX} {ts : List Tk} (hp : ∀ x : CX, x.1.p ≤ ts.length → Stp ts x (part x)) (m : List UInt8) (k : Int) : ∀ (n : Nat) (x : CX), x.1.p ≤ ts.length → Stp ts x (rowQ part ts m k n x)
  | 0, x, h => .refl h
  | n + 1, x, h => by
    unfold rowQ
    split
    · rename_i hm
      have hl := take_lt hm.2
      have h1 := hp (goF x.1, x.2) hl
      have h2 : Stp ts x (putQ (part (goF x.1, x.2)) (nodC k)) := by
        refine stp_put (Nat.le_trans (Nat.le_succ _) h1.p) h1.t (fun e => h1.e e) ?_
        have := h1.w
        have e : wC (goF x.1, x.2).1 = wC x.1 + 1 := w_go
        rw [e] at this
        dsimp only at this ⊢
        omega
      exact h2.trans (stp_rowQ hp m k n _ h2.t)
    · exact .refl h
theorem stp_andQ {part : CX → CX} {ts : List Tk} (hp : ∀ x : CX, x.1.p ≤ ts.length → Stp ts x (part x)) (n : Nat) (x : CX) (h : x.1.p ≤ ts.length) : Stp ts x (andQ part ts n x) := (hp x h).trans (stp_rowQ hp _ _ n _ (hp x h).t)
theorem stp_orQ {part : CX → CX} {ts : List Tk} (hp : ∀ x : CX, x.1.p ≤ ts.length → Stp ts x (part x)) (n : Nat) (x : CX) (h : x.1.p ≤ ts.length) : Stp ts x (orQ part ts n x) := (stp_andQ hp n x h).trans (stp_rowQ (fun x h => stp_andQ hp n x h) _ _ n _ (stp_andQ hp n x h).t)
theorem stp_fail {ts : List Tk} {x : CX} (h : x.1.p ≤ ts.length) {e q : Int} (he : e ≠ 0) : Stp ts x (failF x.1 e q, x.2) := by
  have h1 := mov_fail (ts := ts) h (e := e) (q := q) he
  exact ⟨h1.p, h1.t, h1.e, by have := h1.w; dsimp only; omega⟩
theorem stp_ato {L : Lg} {ts : List Tk} {x : CX} (h : x.1.p ≤ ts.length) : Stp ts x (atoQ L ts x) := by
  unfold atoQ
  split
  · rename_i hk
    split
    · exact stp_fail h (by decide)
    · have h1 := mov_go (ts := ts) hk.1
      have h2 := mov_markR [58] h1.t
      have h3 := mov_regR (L := L) h2.t
      have h4 := mov_markR [61] h3.t
      have h5 := mov_numR h4.t
      have h6 := h1.trans (h2.trans (h3.trans (h4.trans h5)))
      refine stp_put h6.p h6.t h6.e ?_
      have := (h2.trans (h3.trans (h4.trans h5))).w
      rw [w_go] at this
      dsimp only; omega
  split
  · rename_i hk
    have h1 := mov_go (ts := ts) hk.1.1
    have h4 := mov_markR [61] h1.t
    have h5 := mov_numR h4.t
    have h6 := h1.trans (h4.trans h5)
    refine stp_put h6.p h6.t h6.e ?_
    have := (h4.trans h5).w
    rw [w_go] at this
    dsimp only; omega
  split
  · exact stp_fail h (by decide)
  split
  · exact stp_fail h (by decide)
  · exact stp_fail h (by decide)
theorem stp_not (L : Lg) (ts : List Tk) : ∀ (n : Nat) (x : CX), x.1.p ≤ ts.length → Stp ts x (notQ L ts n x)
  | 0, x, h => .refl h
  | n + 1, x, h => by
    unfold notQ
    split
    · exact .refl h
    split
    · rename_i hm
      have hl := take_lt hm
      have h1 := stp_not L ts n (goF x.1, x.2) hl
      refine stp_put (Nat.le_trans (Nat.le_succ _) h1.p) h1.t (fun e => h1.e e) ?_
      have := h1.w
      have e : wC (goF x.1, x.2).1 = wC x.1 + 1 := w_go
      rw [e] at this
      dsimp only at this ⊢
      omega
    split
    · rename_i hm
      have hl := take_lt hm
      have h1 := stp_orQ (fun x h => stp_not L ts n x h) n (goF x.1, x.2) hl
      have h2 := mov_markR [41] h1.t
      refine ⟨Nat.le_trans (Nat.le_succ _) (Nat.le_trans h1.p h2.p), h2.t, fun e => h2.e (h1.e e), ?_⟩
      have h3 := h1.w
      have h4 := h2.w
      have e : wC (goF x.1, x.2).1 = wC x.1 + 1 := w_go
      rw [e] at h3
      dsimp only at h3 h4 ⊢
      omega
    · exact stp_ato h
/-! The walk. -/
def hPN (c : Qc) (s : RS) (out : List Cn) (N : Nat) : List SB := [curQ c.ts c.ad c.cap s.p, rdQ c.a s.e s.q, .mem 113 [.ptr 1 1 0 [], .sl 3 N 0 N none 0] 1 0, .mem 84 [.arr N Cn cn0 5 cenc out] N 5]
def hP (c : Qc) (x : CX) : List SB := hPN c x.1 x.2 x.2.length
theorem hPN_app {c : Qc} {s : RS} {out : List Cn} {y : Cn} : hPN c s (out ++ [y]) (out.length + 1) = hP c (s, out ++ [y]) := by
  unfold hP
  dsimp only
  rw [List.length_append, List.length_singleton]
theorem bndP {c : Qc} {x : CX} : BndH 4 (hP c x) := ⟨bndQ, ⟨rfl, rfl, rfl, rfl, trivial⟩, ⟨rfl, rfl, trivial⟩, ⟨fun _ => rfl, trivial⟩, trivial⟩
variable {c : Qc}
set_option maxHeartbeats 1000000 in
theorem put_w (x : CX) (y : Cn) (hl : x.2.length ≤ 100001) : Ctr Tryz.prog 129 [.ptr 2 1 0 [], .agg (cenc y)] (hP c x) (fun r h => r = .tup [] ∧ h = hP c (putQ x y)) := by
  obtain ⟨s, out⟩ := x
  have hl : out.length ≤ 100001 := hl
  unfold putQ
  by_cases he : s.e = 0
  · rw [if_pos (show (s, out).1.e = 0 from he)]
    refine Ctr.enterE tabOkM (fn := Tryz.f129) rfl rfl rfl rfl rfl ?_
    refine ⟨fun _ => ?_, fun h => absurd he (of_decide_eq_false h)⟩
    refine WpC.dr tabOkM mixed 1 ?_
    refine OpD.yld 1 rfl rfl rowE_w (yld_app_row tabOkM rfl rfl rfl rfl rfl rfl rfl rfl rfl (SrcA.sl rfl rfl rfl rfl (by decide) rfl) (Joins.arrN (y := y) rfl rfl cencw) (by decide) (Nat.le_trans (show out.length + 1 ≤ 100002 by omega) (by decide)) (cn_bytes hl)) ?_
    refine ⟨by kernel_rfl, ?_⟩
    exact ⟨hP c (s, out ++ [y]), _, Eq.trans (b := hPN c s (out ++ [y]) (out.length + 1) ++ [_, _]) rfl (by rw [hPN_app]), Nat.le_refl _, bndP, rfl, rfl, rfl⟩
  · rw [if_neg (show ¬ (s, out).1.e = 0 from he)]
    refine Ctr.enterE tabOkM (fn := Tryz.f129) rfl rfl rfl rfl rfl ?_
    refine ⟨fun h => absurd (of_decide_eq_true h) he, fun _ => ?_⟩
    exact ⟨hP c (s, out), _, rfl, Nat.le_refl _, bndP, rfl, rfl, rfl⟩
/-- A contract of a part. -/
def PartQ (c : Qc) (pf : Nat) (part : CX → CX) (n : Nat) : Prop :=
  ∀ (x : CX), Qk c x.1 → c.ts.length - x.1.p < n → x.2.length ≤ wC x.1 → Ctr Tryz.prog pf [.ptr 2 1 0 []] (hP c x) (fun r h => r = .tup [] ∧ h = hP c (part x))
set_option maxHeartbeats 2000000 in
theorem randw {part : CX → CX} {n : Nat} (hst : ∀ x : CX, x.1.p ≤ c.ts.length → Stp c.ts x (part x)) (hp : PartQ c 190 part n) (x : CX) (hk : Qk c x.1) (hn : c.ts.length - x.1.p < n) (hw : x.2.length ≤ wC x.1) :
    Ctr Tryz.prog 127 [.ptr 2 1 0 []] (hP c x) (fun r h => r = .tup [] ∧ h = hP c (rowQ part c.ts [47, 92] 4 n (part x))) := by
  refine Ctr.enterE tabOkM (fn := Tryz.f127) rfl rfl rfl rfl rfl ?_
  refine OpC.callH rfl rfl rfl rfl [0, 1, 2, 3] rfl (hp x hk hn hw) rfl rfl rfl rfl ⟨rfl, rfl, rfl, rfl, trivial⟩ rfl ?_
  have h0 := hst x hk.p
  refine WpC.loop tabOkM (β := CX × Nat) (fun b => (Qk c b.1.1 ∧ c.ts.length - b.1.1.p < b.2 ∧ b.1.2.length ≤ wC b.1.1) ∧ x.1.p ≤ b.1.1.p ∧ rowQ part c.ts [47, 92] 4 n (part x) = rowQ part c.ts [47, 92] 4 b.2 b.1) (fun _ => []) (fun b => hP c b.1) (fun b => b.2) (part x, n) (2 ^ 27 - 2 ^ 2) ?_ ?_ ?_
  · refine ⟨⟨⟨h0.t, hk.l⟩, ?_, ?_⟩, h0.p, rfl⟩
    · have := h0.p; show c.ts.length - (part x).1.p < n; omega
    · have := h0.w; show (part x).2.length ≤ wC (part x).1; omega
  · exact ⟨rfl, trivial, ⟨[], rfl⟩, bndP, rfl⟩
  · rintro ⟨⟨⟨p, e0, q0⟩, out⟩, j⟩ ⟨⟨hy, hj, hwy⟩, hpx, he⟩
    dsimp only at hy hj hwy hpx he
    obtain ⟨j, rfl⟩ : ∃ i, j = i + 1 := ⟨j - 1, by omega⟩
    by_cases h0e : e0 = 0
    · subst h0e
      refine OpC.open 19 rfl rfl rfl ?_
      refine OpC.guardT tabOkM rfl rfl ?_
      cases hb : takeB c.ts [47, 92] p with
      | false =>
        refine OpC.callH rfl rfl rfl rfl [0] rfl (wmark_ok (ad := c.ad) (cap := c.cap) (m := [47, 92]) hb rfl hy.p hy.l) rfl rfl rfl rfl ⟨rfl, trivial⟩ rfl ?_
        refine ⟨fun h => no_ft h, fun _ => ?_⟩
        have e1 : rowQ part c.ts [47, 92] 4 n (part x) = (⟨p, 0, q0⟩, out) := by rw [he]; show (if _ then _ else _) = _; rw [if_neg (by rintro ⟨_, h⟩; have h : takeB c.ts [47, 92] p = true := h; rw [hb] at h; cases h)]
        rw [e1]
        exact ⟨hP c (⟨p, 0, q0⟩, out), _, rfl, Nat.le_refl _, bndP, rfl, rfl, rfl⟩
      | true =>
        refine OpC.callH rfl rfl rfl rfl [0] rfl (wmark_ok (ad := c.ad) (cap := c.cap) (m := [47, 92]) hb rfl hy.p hy.l) rfl rfl rfl rfl ⟨rfl, trivial⟩ rfl ?_
        refine ⟨fun _ => ?_, fun h => no_tf h⟩
        have hlt : p < c.ts.length := take_lt hb
        have e1 : rowQ part c.ts [47, 92] 4 n (part x) = rowQ part c.ts [47, 92] 4 j (putQ (part (goF ⟨p, 0, q0⟩, out)) (nodC 4)) := by rw [he]; show (if _ then _ else _) = _; rw [if_pos ⟨rfl, hb⟩]
        have hg : Qk c (goF ⟨p, 0, q0⟩) := ⟨hlt, hy.l⟩
        have hgp : (goF (⟨p, 0, q0⟩ : RS)).p = p + 1 := rfl
        refine OpC.callH rfl rfl rfl rfl [0, 1, 2, 3] rfl (hp (goF ⟨p, 0, q0⟩, out) hg (by show c.ts.length - (goF (⟨p, 0, q0⟩ : RS)).p < n; omega) (by show out.length ≤ wC (goF ⟨p, 0, q0⟩); rw [w_go]; omega)) rfl rfl rfl rfl ⟨rfl, rfl, rfl, rfl, trivial⟩ rfl ?_
        have hs := hst (goF ⟨p, 0, q0⟩, out) hlt
        have hz := hs.w
        have hsp := hs.p
        dsimp only at hsp hz
        rw [w_go] at hz
        have hwl := wC_le hs.t
        have hl2 : (part (goF ⟨p, 0, q0⟩, out)).2.length ≤ 100001 := by have := hy.l; omega
        refine OpC.callH rfl rfl rfl rfl [0, 1, 2, 3] rfl (put_w (part (goF ⟨p, 0, q0⟩, out)) (nodC 4) hl2) rfl rfl rfl rfl ⟨rfl, rfl, rfl, rfl, trivial⟩ rfl ?_
        obtain ⟨q1, q2⟩ := put_len (part (goF ⟨p, 0, q0⟩, out)) (nodC 4)
        refine ⟨(putQ (part (goF ⟨p, 0, q0⟩, out)) (nodC 4), j), ⟨⟨⟨by rw [q2]; exact hs.t, hy.l⟩, ?_, ?_⟩, ?_, e1⟩, Nat.lt_succ_self _, ?_⟩
        · show c.ts.length - (putQ _ _).1.p < j
          rw [q2]
          have : (goF (⟨p, 0, q0⟩ : RS)).p ≤ (part (goF ⟨p, 0, q0⟩, out)).1.p := hsp
          have hj : c.ts.length - p < j + 1 := hj
          omega
        · show (putQ _ _).2.length ≤ wC (putQ _ _).1
          rw [q2]; omega
        · show x.1.p ≤ (putQ _ _).1.p
          rw [q2]
          have : (goF (⟨p, 0, q0⟩ : RS)).p ≤ (part (goF ⟨p, 0, q0⟩, out)).1.p := hsp
          have hpx : x.1.p ≤ p := hpx
          omega
        · exact ⟨rfl, trivial, ⟨_, rfl⟩, bndP, rfl⟩
    · have hg : (decide (e0 = 0) == true) = false := by rw [decide_eq_false h0e]; rfl
      refine OpC.skipG rfl hg (.b false) ?_
      have e1 : rowQ part c.ts [47, 92] 4 n (part x) = (⟨p, e0, q0⟩, out) := by rw [he]; show (if _ then _ else _) = _; rw [if_neg (by rintro ⟨h, _⟩; exact h0e h)]
      refine ⟨fun h => ?_, fun _ => ?_⟩
      · have h : (decide (e0 = 0) && false) = true := h
        rw [decide_eq_false h0e] at h; cases h
      rw [e1]
      exact ⟨hP c (⟨p, e0, q0⟩, out), _, rfl, Nat.le_refl _, bndP, rfl, rfl, rfl⟩
set_option maxHeartbeats 2000000 in
theorem rorw {part : CX → CX} {n : Nat} (hst : ∀ x : CX, x.1.p ≤ c.ts.length → Stp c.ts x (part x)) (hp : PartQ c 127 part n) (x : CX) (hk : Qk c x.1) (hn : c.ts.length - x.1.p < n) (hw : x.2.length ≤ wC x.1) :
    Ctr Tryz.prog 73 [.ptr 2 1 0 []] (hP c x) (fun r h => r = .tup [] ∧ h = hP c (rowQ part c.ts [92, 47] 5 n (part x))) := by
  refine Ctr.enterE tabOkM (fn := Tryz.f73) rfl rfl rfl rfl rfl ?_
  refine OpC.callH rfl rfl rfl rfl [0, 1, 2, 3] rfl (hp x hk hn hw) rfl rfl rfl rfl ⟨rfl, rfl, rfl, rfl, trivial⟩ rfl ?_
  have h0 := hst x hk.p
  refine WpC.loop tabOkM (β := CX × Nat) (fun b => (Qk c b.1.1 ∧ c.ts.length - b.1.1.p < b.2 ∧ b.1.2.length ≤ wC b.1.1) ∧ x.1.p ≤ b.1.1.p ∧ rowQ part c.ts [92, 47] 5 n (part x) = rowQ part c.ts [92, 47] 5 b.2 b.1) (fun _ => []) (fun b => hP c b.1) (fun b => b.2) (part x, n) (2 ^ 27 - 2 ^ 2) ?_ ?_ ?_
  · refine ⟨⟨⟨h0.t, hk.l⟩, ?_, ?_⟩, h0.p, rfl⟩
    · have := h0.p; show c.ts.length - (part x).1.p < n; omega
    · have := h0.w; show (part x).2.length ≤ wC (part x).1; omega
  · exact ⟨rfl, trivial, ⟨[], rfl⟩, bndP, rfl⟩
  · rintro ⟨⟨⟨p, e0, q0⟩, out⟩, j⟩ ⟨⟨hy, hj, hwy⟩, hpx, he⟩
    dsimp only at hy hj hwy hpx he
    obtain ⟨j, rfl⟩ : ∃ i, j = i + 1 := ⟨j - 1, by omega⟩
    by_cases h0e : e0 = 0
    · subst h0e
      refine OpC.open 19 rfl rfl rfl ?_
      refine OpC.guardT tabOkM rfl rfl ?_
      cases hb : takeB c.ts [92, 47] p with
      | false =>
        refine OpC.callH rfl rfl rfl rfl [0] rfl (wmark_ok (ad := c.ad) (cap := c.cap) (m := [92, 47]) hb rfl hy.p hy.l) rfl rfl rfl rfl ⟨rfl, trivial⟩ rfl ?_
        refine ⟨fun h => no_ft h, fun _ => ?_⟩
        have e1 : rowQ part c.ts [92, 47] 5 n (part x) = (⟨p, 0, q0⟩, out) := by rw [he]; show (if _ then _ else _) = _; rw [if_neg (by rintro ⟨_, h⟩; have h : takeB c.ts [92, 47] p = true := h; rw [hb] at h; cases h)]
        rw [e1]
        exact ⟨hP c (⟨p, 0, q0⟩, out), _, rfl, Nat.le_refl _, bndP, rfl, rfl, rfl⟩
      | true =>
        refine OpC.callH rfl rfl rfl rfl [0] rfl (wmark_ok (ad := c.ad) (cap := c.cap) (m := [92, 47]) hb rfl hy.p hy.l) rfl rfl rfl rfl ⟨rfl, trivial⟩ rfl ?_
        refine ⟨fun _ => ?_, fun h => no_tf h⟩
        have hlt : p < c.ts.length := take_lt hb
        have e1 : rowQ part c.ts [92, 47] 5 n (part x) = rowQ part c.ts [92, 47] 5 j (putQ (part (goF ⟨p, 0, q0⟩, out)) (nodC 5)) := by rw [he]; show (if _ then _ else _) = _; rw [if_pos ⟨rfl, hb⟩]
        have hg : Qk c (goF ⟨p, 0, q0⟩) := ⟨hlt, hy.l⟩
        have hgp : (goF (⟨p, 0, q0⟩ : RS)).p = p + 1 := rfl
        refine OpC.callH rfl rfl rfl rfl [0, 1, 2, 3] rfl (hp (goF ⟨p, 0, q0⟩, out) hg (by show c.ts.length - (goF (⟨p, 0, q0⟩ : RS)).p < n; omega) (by show out.length ≤ wC (goF ⟨p, 0, q0⟩); rw [w_go]; omega)) rfl rfl rfl rfl ⟨rfl, rfl, rfl, rfl, trivial⟩ rfl ?_
        have hs := hst (goF ⟨p, 0, q0⟩, out) hlt
        have hz := hs.w
        have hsp := hs.p
        dsimp only at hsp hz
        rw [w_go] at hz
        have hwl := wC_le hs.t
        have hl2 : (part (goF ⟨p, 0, q0⟩, out)).2.length ≤ 100001 := by have := hy.l; omega
        refine OpC.callH rfl rfl rfl rfl [0, 1, 2, 3] rfl (put_w (part (goF ⟨p, 0, q0⟩, out)) (nodC 5) hl2) rfl rfl rfl rfl ⟨rfl, rfl, rfl, rfl, trivial⟩ rfl ?_
        obtain ⟨q1, q2⟩ := put_len (part (goF ⟨p, 0, q0⟩, out)) (nodC 5)
        refine ⟨(putQ (part (goF ⟨p, 0, q0⟩, out)) (nodC 5), j), ⟨⟨⟨by rw [q2]; exact hs.t, hy.l⟩, ?_, ?_⟩, ?_, e1⟩, Nat.lt_succ_self _, ?_⟩
        · show c.ts.length - (putQ _ _).1.p < j
          rw [q2]
          have : (goF (⟨p, 0, q0⟩ : RS)).p ≤ (part (goF ⟨p, 0, q0⟩, out)).1.p := hsp
          have hj : c.ts.length - p < j + 1 := hj
          omega
        · show (putQ _ _).2.length ≤ wC (putQ _ _).1
          rw [q2]; omega
        · show x.1.p ≤ (putQ _ _).1.p
          rw [q2]
          have : (goF (⟨p, 0, q0⟩ : RS)).p ≤ (part (goF ⟨p, 0, q0⟩, out)).1.p := hsp
          have hpx : x.1.p ≤ p := hpx
          omega
        · exact ⟨rfl, trivial, ⟨_, rfl⟩, bndP, rfl⟩
    · have hg : (decide (e0 = 0) == true) = false := by rw [decide_eq_false h0e]; rfl
      refine OpC.skipG rfl hg (.b false) ?_
      have e1 : rowQ part c.ts [92, 47] 5 n (part x) = (⟨p, e0, q0⟩, out) := by rw [he]; show (if _ then _ else _) = _; rw [if_neg (by rintro ⟨h, _⟩; exact h0e h)]
      refine ⟨fun h => ?_, fun _ => ?_⟩
      · have h : (decide (e0 = 0) && false) = true := h
        rw [decide_eq_false h0e] at h; cases h
      rw [e1]
      exact ⟨hP c (⟨p, e0, q0⟩, out), _, rfl, Nat.le_refl _, bndP, rfl, rfl, rfl⟩
theorem andQ_w {part : CX → CX} {n : Nat} (hst : ∀ x : CX, x.1.p ≤ c.ts.length → Stp c.ts x (part x)) (hp : PartQ c 190 part n) : PartQ c 127 (andQ part c.ts n) n := fun x hk hn hw => randw hst hp x hk hn hw
theorem orQ_w {part : CX → CX} {n : Nat} (hst : ∀ x : CX, x.1.p ≤ c.ts.length → Stp c.ts x (part x)) (hp : PartQ c 190 part n) : PartQ c 73 (orQ part c.ts n) n := fun x hk hn hw => rorw (fun x h => stp_andQ hst n x h) (andQ_w hst hp) x hk hn hw
set_option maxHeartbeats 4000000 in
theorem ato_w (hL : QL c) (x : CX) (hk : Qk c x.1) (hl2 : x.2.length ≤ 100000) : Ctr Tryz.prog 222 [.ptr 2 1 0 []] (hP c x) (fun r h => r = .tup [] ∧ h = hP c (atoQ c.L c.ts x)) := by
  obtain ⟨s, out⟩ := x
  have hk : Qk c s := hk
  have hl2 : out.length ≤ 100000 := hl2
  refine Ctr.enterE tabOkM (fn := Tryz.f222) rfl rfl rfl rfl rfl ?_
  refine OpC.callH rfl rfl rfl rfl [0] rfl (wpeek_ok (ad := c.ad) (cap := c.cap) hk.p) rfl rfl rfl rfl ⟨rfl, trivial⟩ rfl ?_
  refine ⟨fun h1 => ?_, fun h1 => ?_⟩
  · have h1 : (decide (s.p < c.ts.length) && decide ((tkAt c.ts s.p).k = 2)) = true := h1
    simp only [Bool.and_eq_true, decide_eq_true_eq] at h1
    refine ⟨fun h2 => ?_, fun h2 => ?_⟩
    · have h2 : (decide ((tkAt c.ts s.p).n < 0) || decide (2 < (tkAt c.ts s.p).n)) = true := h2
      simp only [Bool.or_eq_true, decide_eq_true_eq] at h2
      have e1 : atoQ c.L c.ts (s, out) = (failF s 22 (tkAt c.ts s.p).a, out) := by unfold atoQ; rw [if_pos h1, if_pos h2]
      rw [e1]
      refine WpC.dr tabOkM mixed 0 ?_
      refine OpD.callL rfl rfl rfl rfl [0, 1] 0 rfl rfl (qfail_ok (s := s) 22 (tkAt c.ts s.p).a) rfl rfl rfl rfl ⟨rfl, rfl, trivial⟩ rfl rfl ?_
      refine ⟨by kernel_rfl, ?_⟩
      exact ⟨hP c (failF s 22 (tkAt c.ts s.p).a, out), _, rfl, Nat.le_refl _, bndP, rfl, rfl, rfl⟩
    · have h2 : (decide ((tkAt c.ts s.p).n < 0) || decide (2 < (tkAt c.ts s.p).n)) = false := h2
      have h2 : ¬ ((tkAt c.ts s.p).n < 0 ∨ 2 < (tkAt c.ts s.p).n) := by
        intro h; rcases h with h | h
        · rw [decide_eq_true h] at h2; cases h2
        · rw [decide_eq_true h, Bool.or_true] at h2; cases h2
      have e1 : atoQ c.L c.ts (s, out) = rgQ c.L c.ts (s, out) := by unfold atoQ; rw [if_pos h1, if_neg h2]
      rw [e1]
      refine OpC.callH rfl rfl rfl rfl [0] rfl (wnext_ok (ad := c.ad) (cap := c.cap) h1.1 hk.l) rfl rfl rfl rfl ⟨rfl, trivial⟩ rfl ?_
      have g1 : Qk c (goF s) := hk.go h1.1
      refine OpC.callH rfl rfl rfl rfl [0, 1] rfl (qmark_w (s := goF s) g1 [58]) rfl rfl rfl rfl ⟨rfl, rfl, trivial⟩ rfl ?_
      have g2 := g1.mark [58]
      refine OpC.callH rfl rfl rfl rfl [0, 1] rfl (qreg_w hL g2) rfl rfl rfl rfl ⟨rfl, rfl, trivial⟩ rfl ?_
      have g3 := g2.reg
      refine OpC.callH rfl rfl rfl rfl [0, 1] rfl (qmark_w g3 [61]) rfl rfl rfl rfl ⟨rfl, rfl, trivial⟩ rfl ?_
      have g4 := g3.mark [61]
      refine WpC.dr tabOkM mixed 0 ?_
      refine OpD.callL rfl rfl rfl rfl [0, 1] 0 rfl rfl (qnum_w g4) rfl rfl rfl rfl ⟨rfl, rfl, trivial⟩ rfl rfl ?_
      refine OpD.callL rfl rfl rfl rfl [0, 1, 2, 3] 0 rfl rfl (put_w ((numR c.ts (markR c.ts [61] (regR c.L c.ts (markR c.ts [58] (goF s))).2)).2, out) ⟨1, (tkAt c.ts s.p).n, (regR c.L c.ts (markR c.ts [58] (goF s))).1, 0, (numR c.ts (markR c.ts [61] (regR c.L c.ts (markR c.ts [58] (goF s))).2)).1⟩ (by show out.length ≤ 100001; omega)) rfl rfl rfl rfl ⟨rfl, rfl, rfl, rfl, trivial⟩ rfl rfl ?_
      refine ⟨by kernel_rfl, ?_⟩
      exact ⟨hP c (rgQ c.L c.ts (s, out)), _, rfl, Nat.le_refl _, bndP, rfl, rfl, rfl⟩
  have h1 : (decide (s.p < c.ts.length) && decide ((tkAt c.ts s.p).k = 2)) = false := h1
  have h1 : ¬ (s.p < c.ts.length ∧ (tkAt c.ts s.p).k = 2) := by
    intro h; rw [decide_eq_true h.1, decide_eq_true h.2] at h1; cases h1
  by_cases hk1 : s.p < c.ts.length ∧ (tkAt c.ts s.p).k = 1
  · have hg : ((decide (s.p < c.ts.length) && decide ((tkAt c.ts s.p).k = 1)) == true) = true := by rw [decide_eq_true hk1.1, decide_eq_true hk1.2]; rfl
    refine OpC.open 94 rfl hg rfl ?_
    refine OpC.guardT tabOkM rfl hg ?_
    refine OpC.callV rfl rfl rfl rfl rfl rfl rfl (fun _ => qloc_w (tkAt c.ts s.p).s) ?_
    refine ⟨fun h2 => ?_, fun h2 => ?_⟩
    · have h2 : ((decide (s.p < c.ts.length) && decide ((tkAt c.ts s.p).k = 1)) && decide (0 ≤ locI (tkAt c.ts s.p).s)) = true := h2
      simp only [Bool.and_eq_true, decide_eq_true_eq] at h2
      have e1 : atoQ c.L c.ts (s, out) = lcQ c.ts (s, out) := by unfold atoQ; rw [if_neg h1, if_pos h2]
      rw [e1]
      refine OpC.callH rfl rfl rfl rfl [0] rfl (wnext_ok (ad := c.ad) (cap := c.cap) hk1.1 hk.l) rfl rfl rfl rfl ⟨rfl, trivial⟩ rfl ?_
      have g1 : Qk c (goF s) := hk.go hk1.1
      refine OpC.callH rfl rfl rfl rfl [0, 1] rfl (qmark_w (s := goF s) g1 [61]) rfl rfl rfl rfl ⟨rfl, rfl, trivial⟩ rfl ?_
      have g4 := g1.mark [61]
      refine WpC.dr tabOkM mixed 0 ?_
      refine OpD.callG [] rfl rfl rfl rfl rfl rfl (r := .i .i64 (locI (tkAt c.ts s.p).s)) (fun _ H1 hH => Ctr.spread (qloc_w (tkAt c.ts s.p).s) (fun ρ => rfl) H1 [] rfl rfl trivial rfl) ?_
      refine OpD.callL rfl rfl rfl rfl [0, 1] 0 rfl rfl (qnum_w g4) rfl rfl rfl rfl ⟨rfl, rfl, trivial⟩ rfl rfl ?_
      refine OpD.callL rfl rfl rfl rfl [0, 1, 2, 3] 0 rfl rfl (put_w ((numR c.ts (markR c.ts [61] (goF s))).2, out) ⟨2, 0, 0, locI (tkAt c.ts s.p).s, (numR c.ts (markR c.ts [61] (goF s))).1⟩ (by show out.length ≤ 100001; omega)) rfl rfl rfl rfl ⟨rfl, rfl, rfl, rfl, trivial⟩ rfl rfl ?_
      refine ⟨by kernel_rfl, ?_⟩
      exact ⟨hP c (lcQ c.ts (s, out)), _, rfl, Nat.le_refl _, bndP, rfl, rfl, rfl⟩
    · have h2 : ((decide (s.p < c.ts.length) && decide ((tkAt c.ts s.p).k = 1)) && decide (0 ≤ locI (tkAt c.ts s.p).s)) = false := h2
      have h2 : ¬ ((s.p < c.ts.length ∧ (tkAt c.ts s.p).k = 1) ∧ 0 ≤ locI (tkAt c.ts s.p).s) := by
        intro h; rw [decide_eq_true h.1.1, decide_eq_true h.1.2, decide_eq_true h.2] at h2; cases h2
      refine ⟨fun _ => ?_, fun h3 => ?_⟩
      · have e1 : atoQ c.L c.ts (s, out) = (failF s 21 (tkAt c.ts s.p).a, out) := by unfold atoQ; rw [if_neg h1, if_neg h2, if_pos hk1]
        rw [e1]
        refine WpC.dr tabOkM mixed 0 ?_
        refine OpD.callL rfl rfl rfl rfl [0, 1] 0 rfl rfl (qfail_ok (s := s) 21 (tkAt c.ts s.p).a) rfl rfl rfl rfl ⟨rfl, rfl, trivial⟩ rfl rfl ?_
        refine ⟨by kernel_rfl, ?_⟩
        exact ⟨hP c (failF s 21 (tkAt c.ts s.p).a, out), _, rfl, Nat.le_refl _, bndP, rfl, rfl, rfl⟩
      · have h3 : (decide (s.p < c.ts.length) && decide ((tkAt c.ts s.p).k = 1)) = false := h3
        rw [decide_eq_true hk1.1, decide_eq_true hk1.2] at h3; cases h3
  · have hkf : (decide (s.p < c.ts.length) && decide ((tkAt c.ts s.p).k = 1)) = false := by
      cases hq : (decide (s.p < c.ts.length) && decide ((tkAt c.ts s.p).k = 1)) with
      | false => rfl
      | true => simp only [Bool.and_eq_true, decide_eq_true_eq] at hq; exact absurd hq hk1
    have hg : ((decide (s.p < c.ts.length) && decide ((tkAt c.ts s.p).k = 1)) == true) = false := by rw [hkf]; rfl
    refine OpC.skipG rfl hg (.i .i64 0) ?_
    refine ⟨fun h => ?_, fun _ => ?_⟩
    · have h : ((decide (s.p < c.ts.length) && decide ((tkAt c.ts s.p).k = 1)) && decide ((0 : Int) ≤ 0)) = true := h
      rw [hkf] at h; cases h
    refine ⟨fun h => ?_, fun _ => ?_⟩
    · have h : (decide (s.p < c.ts.length) && decide ((tkAt c.ts s.p).k = 1)) = true := h
      rw [hkf] at h; cases h
    have h2 : ¬ ((s.p < c.ts.length ∧ (tkAt c.ts s.p).k = 1) ∧ 0 ≤ locI (tkAt c.ts s.p).s) := fun h => hk1 h.1
    refine ⟨fun h4 => ?_, fun h4 => ?_⟩
    · have h4 : s.p < c.ts.length := of_decide_eq_true h4
      have e1 : atoQ c.L c.ts (s, out) = (failF s 22 (tkAt c.ts s.p).a, out) := by unfold atoQ; rw [if_neg h1, if_neg h2, if_neg hk1, if_pos h4]
      rw [e1]
      refine WpC.dr tabOkM mixed 0 ?_
      refine OpD.callL rfl rfl rfl rfl [0, 1] 0 rfl rfl (qfail_ok (s := s) 22 (tkAt c.ts s.p).a) rfl rfl rfl rfl ⟨rfl, rfl, trivial⟩ rfl rfl ?_
      refine ⟨by kernel_rfl, ?_⟩
      exact ⟨hP c (failF s 22 (tkAt c.ts s.p).a, out), _, rfl, Nat.le_refl _, bndP, rfl, rfl, rfl⟩
    · have h4 : ¬ s.p < c.ts.length := of_decide_eq_false h4
      have e1 : atoQ c.L c.ts (s, out) = (failF s 24 (whF c.ts s.p), out) := by unfold atoQ; rw [if_neg h1, if_neg h2, if_neg hk1, if_neg h4]
      rw [e1]
      refine WpC.dr tabOkM mixed 0 ?_
      refine OpD.callL rfl rfl rfl rfl [0] 0 rfl rfl (where_ok (ad := c.ad) (cap := c.cap) hk.p hk.l) rfl rfl rfl rfl ⟨rfl, trivial⟩ rfl rfl ?_
      refine OpD.callL rfl rfl rfl rfl [0, 1] 0 rfl rfl (qfail_ok (s := s) 24 (whF c.ts s.p)) rfl rfl rfl rfl ⟨rfl, rfl, trivial⟩ rfl rfl ?_
      refine ⟨by kernel_rfl, ?_⟩
      exact ⟨hP c (failF s 24 (whF c.ts s.p), out), _, rfl, Nat.le_refl _, bndP, rfl, rfl, rfl⟩
set_option maxHeartbeats 2000000 in
theorem not_w (hL : QL c) : ∀ n, PartQ c 190 (notQ c.L c.ts n) n
  | 0 => fun x hk hn hw => absurd hn (Nat.not_lt_zero _)
  | n + 1 => by
    have ih := not_w hL n
    intro x hk hn hw
    obtain ⟨s, out⟩ := x
    have hk : Qk c s := hk
    have hn : c.ts.length - s.p < n + 1 := hn
    have hw : out.length ≤ wC s := hw
    have hwl := wC_le hk.p
    have hgp : (goF s).p = s.p + 1 := rfl
    refine Ctr.enterE tabOkM (fn := Tryz.f190) rfl rfl rfl rfl rfl ?_
    refine ⟨fun h1 => ?_, fun h1 => ?_⟩
    · have h1 : (!decide (s.e = 0)) = true := h1
      have h1 : s.e ≠ 0 := by simpa using h1
      have e1 : notQ c.L c.ts (n + 1) (s, out) = (s, out) := by show (if _ then _ else _) = _; rw [if_pos h1]
      rw [e1]
      exact ⟨hP c (s, out), _, rfl, Nat.le_refl _, bndP, rfl, rfl, rfl⟩
    have h1 : (!decide (s.e = 0)) = false := h1
    have h1 : s.e = 0 := by simpa using h1
    have hne : ¬ (s, out).1.e ≠ 0 := by simpa using h1
    have hl0 : out.length ≤ 100000 := by
      have : wC s ≤ c.ts.length := by unfold wC; rw [if_pos h1]; exact hk.p
      have := hk.l
      omega
    cases hb : takeB c.ts [126] s.p with
    | true =>
      refine OpC.callH rfl rfl rfl rfl [0] rfl (wmark_ok (ad := c.ad) (cap := c.cap) (m := [126]) hb rfl hk.p hk.l) rfl rfl rfl rfl ⟨rfl, trivial⟩ rfl ?_
      refine ⟨fun _ => ?_, fun h => no_tf h⟩
      have hlt : s.p < c.ts.length := take_lt hb
      have e1 : notQ c.L c.ts (n + 1) (s, out) = putQ (notQ c.L c.ts n (goF s, out)) (nodC 3) := by show (if _ then _ else _) = _; rw [if_neg hne, if_pos hb]
      rw [e1]
      refine OpC.callH rfl rfl rfl rfl [0, 1, 2, 3] rfl (ih (goF s, out) ⟨hlt, hk.l⟩ (by show c.ts.length - (goF s).p < n; omega) (by show out.length ≤ wC (goF s); rw [w_go]; omega)) rfl rfl rfl rfl ⟨rfl, rfl, rfl, rfl, trivial⟩ rfl ?_
      have hs := stp_not c.L c.ts n (goF s, out) hlt
      have hz := hs.w
      rw [show wC (goF s, out).1 = wC s + 1 from w_go] at hz
      have hz : (notQ c.L c.ts n (goF s, out)).2.length + (wC s + 1) ≤ out.length + wC (notQ c.L c.ts n (goF s, out)).1 := hz
      have hwl2 := wC_le hs.t
      have hl3 : (notQ c.L c.ts n (goF s, out)).2.length ≤ 100001 := by have := hk.l; omega
      refine OpC.callH rfl rfl rfl rfl [0, 1, 2, 3] rfl (put_w (notQ c.L c.ts n (goF s, out)) (nodC 3) hl3) rfl rfl rfl rfl ⟨rfl, rfl, rfl, rfl, trivial⟩ rfl ?_
      exact ⟨hP c (putQ (notQ c.L c.ts n (goF s, out)) (nodC 3)), _, rfl, Nat.le_refl _, bndP, rfl, rfl, rfl⟩
    | false =>
      refine OpC.callH rfl rfl rfl rfl [0] rfl (wmark_ok (ad := c.ad) (cap := c.cap) (m := [126]) hb rfl hk.p hk.l) rfl rfl rfl rfl ⟨rfl, trivial⟩ rfl ?_
      refine ⟨fun h => no_ft h, fun _ => ?_⟩
      have hb' : ¬ takeB c.ts [126] s.p = true := by rw [hb]; decide
      cases hb2 : takeB c.ts [40] s.p with
      | true =>
        refine OpC.callH rfl rfl rfl rfl [0] rfl (wmark_ok (ad := c.ad) (cap := c.cap) (m := [40]) hb2 rfl hk.p hk.l) rfl rfl rfl rfl ⟨rfl, trivial⟩ rfl ?_
        refine ⟨fun _ => ?_, fun h => no_tf h⟩
        have hlt : s.p < c.ts.length := take_lt hb2
        have e1 : notQ c.L c.ts (n + 1) (s, out) = (markR c.ts [41] (orQ (notQ c.L c.ts n) c.ts n (goF s, out)).1, (orQ (notQ c.L c.ts n) c.ts n (goF s, out)).2) := by show (if _ then _ else _) = _; rw [if_neg hne, if_neg hb', if_pos hb2]
        rw [e1]
        refine OpC.callH rfl rfl rfl rfl [0, 1, 2, 3] rfl (orQ_w (fun x h => stp_not c.L c.ts n x h) ih (goF s, out) ⟨hlt, hk.l⟩ (by show c.ts.length - (goF s).p < n; omega) (by show out.length ≤ wC (goF s); rw [w_go]; omega)) rfl rfl rfl rfl ⟨rfl, rfl, rfl, rfl, trivial⟩ rfl ?_
        have hs := stp_orQ (fun x h => stp_not c.L c.ts n x h) n (goF s, out) hlt
        refine OpC.callH rfl rfl rfl rfl [0, 1] rfl (qmark_w (s := (orQ (notQ c.L c.ts n) c.ts n (goF s, out)).1) ⟨hs.t, hk.l⟩ [41]) rfl rfl rfl rfl ⟨rfl, rfl, trivial⟩ rfl ?_
        exact ⟨hP c (markR c.ts [41] (orQ (notQ c.L c.ts n) c.ts n (goF s, out)).1, (orQ (notQ c.L c.ts n) c.ts n (goF s, out)).2), _, rfl, Nat.le_refl _, bndP, rfl, rfl, rfl⟩
      | false =>
        refine OpC.callH rfl rfl rfl rfl [0] rfl (wmark_ok (ad := c.ad) (cap := c.cap) (m := [40]) hb2 rfl hk.p hk.l) rfl rfl rfl rfl ⟨rfl, trivial⟩ rfl ?_
        refine ⟨fun h => no_ft h, fun _ => ?_⟩
        have e1 : notQ c.L c.ts (n + 1) (s, out) = atoQ c.L c.ts (s, out) := by show (if _ then _ else _) = _; rw [if_neg hne, if_neg hb', if_neg (by rw [hb2]; decide)]
        rw [e1]
        refine OpC.callH rfl rfl rfl rfl [0, 1, 2, 3] rfl (ato_w hL (s, out) hk hl0) rfl rfl rfl rfl ⟨rfl, rfl, rfl, rfl, trivial⟩ rfl ?_
        exact ⟨hP c (atoQ c.L c.ts (s, out)), _, rfl, Nat.le_refl _, bndP, rfl, rfl, rfl⟩
end SX
end Go.Proofs.YthkedcneehdinaaGreatDoor

/- Which register a name is, of the three machines; cond.names. -/
set_option linter.unusedVariables false
set_option maxRecDepth 100000
namespace Go.Proofs.YthkedcneehdinaaGreatDoor
namespace SX
open Go Go.Proofs
theorem regV_ok (v : List UInt8) : CtrV Tryz.prog 20 [.s v] (.i .i64 (idxF [97, 48] [97, 49] [97, 50] [97, 51] [97, 52] [97, 53] [97, 54] [97, 55] v)) := by
  refine Ctr.enterV tabOkF (fn := Tryz.f20) rfl rfl rfl rfl rfl rfl ?_
  refine OpC.callL rfl rfl rfl rfl [] 2 rfl rfl rfl riscv_lang rfl rfl rfl rfl trivial rfl (fun r H' hk => ?_) ?_
  · obtain ⟨rfl, rfl⟩ := hk; exact ⟨Nat.zero_le _, Nat.le_refl _⟩
  rintro r H' ⟨rfl, rfl⟩
  refine OpC.callG rfl rfl rfl rfl rfl rfl (fun _ => lreg_ok [97, 48] [97, 49] [97, 50] [97, 51] [97, 52] [97, 53] [97, 54] [97, 55] [] v 91 92) ?_
  exact rfl
theorem regA_ok (v : List UInt8) : CtrV Tryz.prog 28 [.s v] (.i .i64 (idxF [88, 48] [88, 49] [88, 50] [88, 51] [88, 52] [88, 53] [88, 54] [88, 55] v)) := by
  refine Ctr.enterV tabOkF (fn := Tryz.f28) rfl rfl rfl rfl rfl rfl ?_
  refine OpC.callL rfl rfl rfl rfl [] 2 rfl rfl rfl arm_lang rfl rfl rfl rfl trivial rfl (fun r H' hk => ?_) ?_
  · obtain ⟨rfl, rfl⟩ := hk; exact ⟨Nat.zero_le _, Nat.le_refl _⟩
  rintro r H' ⟨rfl, rfl⟩
  refine OpC.callG rfl rfl rfl rfl rfl rfl (fun _ => lreg_ok [88, 48] [88, 49] [88, 50] [88, 51] [88, 52] [88, 53] [88, 54] [88, 55] [35] v 103 104) ?_
  exact rfl
theorem call_V {f : Nat} {args : List SV} {r : SV} (h : (match runM treeF ftree [] 40 f args [] with | some (r1, H1) => sveq (fin true [] r1 H1).1 r && sbL (fin true [] r1 H1).2 [] | none => false) = true) : CtrV Tryz.prog f args r := by
  cases hq : runM treeF ftree [] 40 f args [] with
  | none => rw [hq] at h; cases h
  | some q =>
    obtain ⟨r1, H1⟩ := q
    rw [hq] at h
    simp only [Bool.and_eq_true] at h
    have := fin_ok callX_m true (runM_ok (tr := treeF) (ft := ftree) (ms := []) tabOkF ftOk mixed (by intro m hm; cases hm) 40 _ _ _ _ _ hq)
    rw [sveq_ok _ _ h.1, sbL_ok _ _ h.2] at this
    exact this
/-- A machine's registers' reader. -/
def cfid (a : Int) : Nat := if a = 1 then 35 else if a = 2 then 20 else 28
def cnid (a : Int) : Nat := if a = 1 then 36 else if a = 2 then 18 else 27
def cixF (a : Int) (v : List UInt8) : Int := if a = 1 then idxF [82, 65, 88] [82, 66, 88] [82, 67, 88] [82, 68, 88] [82, 83, 73] [82, 68, 73] [82, 56] [82, 57] v else if a = 2 then idxF [97, 48] [97, 49] [97, 50] [97, 51] [97, 52] [97, 53] [97, 54] [97, 55] v else idxF [88, 48] [88, 49] [88, 50] [88, 51] [88, 52] [88, 53] [88, 54] [88, 55] v
theorem cfid_ok {a : Int} (ha : a = 1 ∨ a = 2 ∨ a = 3) (v : List UInt8) : CtrV Tryz.prog (cfid a) [.s v] (.i .i64 (cixF a v)) := by
  rcases ha with rfl | rfl | rfl
  · exact x86Reg_ok v
  · exact regV_ok v
  · exact regA_ok v
theorem names_w (a : Int) : CtrV Tryz.prog 66 [.i .i64 a] (if a = 1 ∨ a = 2 ∨ a = 3 then .tup [.fn (cfid a) [], .fn (cnid a) []] else .tup [.raw .nilFunc, .raw .nilFunc]) := by
  by_cases h1 : a = 1
  · subst h1
    exact call_V (by decide +kernel)
  by_cases h2 : a = 2
  · subst h2
    exact call_V (by decide +kernel)
  by_cases h3 : a = 3
  · subst h3
    exact call_V (by decide +kernel)
  rw [if_neg (by omega)]
  refine Ctr.enterV tabOkF (fn := Tryz.f66) rfl rfl rfl rfl rfl rfl ?_
  refine ⟨fun h => absurd (of_decide_eq_true h) h1, fun _ => ?_⟩
  refine ⟨fun h => absurd (of_decide_eq_true h) h2, fun _ => ?_⟩
  refine ⟨fun h => absurd (of_decide_eq_true h) h3, fun _ => ?_⟩
  exact rfl
end SX
end Go.Proofs.YthkedcneehdinaaGreatDoor

/- cond.Parse: what it hands back. Printed by cpc.py. -/
set_option linter.unusedVariables false
set_option maxRecDepth 100000
namespace Go.Proofs.YthkedcneehdinaaGreatDoor
namespace SX
open Go Go.Proofs
def CpN (R : List Cn × Int × Int) (r : SV) (h : List SB) : Prop :=
  (∃ cs ad cap, R = (cs, 0, 0) ∧ r = .tup [.imm Cn cn0 5 cenc cs ad cap, .i .i64 0, .i .i64 0]) ∨ (∃ e q, e ≠ 0 ∧ R = ([], e, q) ∧ r = .tup [.nils, .i .i64 e, .i .i64 q])
theorem cparse_yes {f : List UInt8 → Int} {ts : List Tk} {s : RS} (h : cpS f ts = s) (he : s.e = 0) : cparseF f ts = ((cpX f ts).2, 0, 0) := by unfold cparseF; rw [h, if_pos he]
theorem cparse_no {f : List UInt8 → Int} {ts : List Tk} {s : RS} (h : cpS f ts = s) (he : s.e ≠ 0) : cparseF f ts = ([], s.e, s.q) := by unfold cparseF; rw [h, if_neg he]
set_option maxHeartbeats 4000000 in
theorem cparse_key (a : Int) (ha : a = 1 ∨ a = 2 ∨ a = 3) (ts : List Tk) (ad : Option Addr) (cap : Nat) (hl : ts.length ≤ 100000) (hn : ad = none → ts = []) : Ctr Tryz.prog 30 [.i .i64 a, .imm Tk tk0 4 tkenc ts ad cap] []
    (fun r h => (∃ (xs : List Cn) (ver k : Nat) (y z : SV), r = .tup [.sl k ver 0 xs.length none 0, y, z] ∧ h[k]? = some (.mem 84 [.arr xs.length Cn cn0 5 cenc xs] ver 5) ∧ ver ≠ 0 ∧ ∀ ad cap, CpN (cparseF (cixF a) ts) (.tup [.imm Cn cn0 5 cenc xs ad cap, y, z]) (h.set k (.gone ver))) ∨ CpN (cparseF (cixF a) ts) r h) := by
  have hnm := names_w a
  rw [if_pos ha] at hnm
  refine Ctr.enter tabOkM (fn := Tryz.f30) rfl rfl rfl rfl rfl ?_
  refine OpC.callV rfl rfl rfl rfl rfl rfl rfl (fun _ => hnm) ?_
  refine ⟨fun h => no_ft h, fun _ => ?_⟩
  refine OpC.callL rfl rfl rfl rfl [0] 2 rfl rfl rfl (zNew_w ts ad cap hl hn) rfl rfl rfl rfl ⟨rfl, trivial⟩ rfl (fun r H' hk => ?_) ?_
  · obtain ⟨_, _, _, rfl⟩ := hk; exact ⟨by show 1 ≤ 3; decide, Nat.le_refl _⟩
  rintro r H' ⟨rfl, ad', cap', rfl⟩
  refine OpC.shift (Shift.rowIn (i := 3) (pre := [.ptr 2 1 0 [], .fn (cfid a) []]) (post := []) rfl 4 84 [.arr 0 Cn cn0 5 cenc []] (fun E => rfl) (fun m V => ⟨⟨rfl, rfl, cencw, fun j hj => by omega⟩, trivial⟩) rfl) ?_
  refine OpC.callH rfl rfl rfl rfl [1] rfl (at_ok (ad := ad') (cap := cap') (ts := ts) (p := 0) (Nat.zero_le _) hl) rfl rfl rfl rfl ⟨rfl, trivial⟩ rfl ?_
  refine OpC.callL rfl rfl rfl rfl [0, 1, 2, 3, 4] 0 rfl rfl rfl (or_w (c := ⟨lgX, 0, 0, ts, ad', cap', []⟩) (fid := cfid a) (fun x h => stp_atm (cixF a) ts (ts.length + 1) x h) (atom_w (c := ⟨lgX, 0, 0, ts, ad', cap', []⟩) (cfid_ok ha) (ts.length + 1)) (rs0, []) 0 ⟨Nat.zero_le _, hl⟩ (by show ts.length - 0 < ts.length + 1; omega) (Nat.zero_le _) rfl) rfl rfl rfl rfl ⟨rfl, rfl, rfl, rfl, rfl, trivial⟩ rfl (fun r H' hk => ?_) ?_
  · obtain ⟨_, v', _, rfl⟩ := hk; exact ⟨Nat.le_refl _, Nat.le_refl _⟩
  rintro r H' ⟨rfl, v, hv, rfl⟩
  have hpos := cpX_pos (cixF a) ts
  have hst : Stp ts (rs0, []) (cpX (cixF a) ts) := stp_or (fun x h => stp_atm (cixF a) ts (ts.length + 1) x h) (ts.length + 1) (rs0, []) (Nat.zero_le _)
  have hS : cpS (cixF a) ts = if 32 < (cpX (cixF a) ts).2.length then failF (moreF ts (cpX (cixF a) ts).1) 2 (whF ts 0) else moreF ts (cpX (cixF a) ts).1 := rfl
  have hR1 := @cparse_yes (cixF a) ts
  have hR2 := @cparse_no (cixF a) ts
  have hpt := hst.t
  change v = (cpX (cixF a) ts).2.length at hv
  have hv0 : v ≠ 0 := by omega
  show setBK _ (zipB _ (hK _ _ (cpX (cixF a) ts) v) 0) _
  generalize cpX (cixF a) ts = x at *
  have hrk : Rk ⟨lgX, 0, 0, ts, ad', cap', []⟩ x.1 := ⟨hpt, hl⟩
  refine OpC.callH rfl rfl rfl rfl [1] rfl (left_ok (ad := ad') (cap := cap') (ts := ts) (p := x.1.p) hpt hl) rfl rfl rfl rfl ⟨rfl, trivial⟩ rfl ?_
  refine ⟨fun h5 => ?_, fun h5 => ?_⟩
  · have h5 : x.1.p < ts.length := by have h5 : decide ((0 : Int) < ((ts.length - x.1.p : Nat) : Int)) = true := h5; simp at h5; omega
    have hm : moreF ts x.1 = failF x.1 25 (whF ts x.1.p) := if_pos h5
    refine WpC.dr tabOkM mixed 0 ?_
    refine OpD.callL rfl rfl rfl rfl [1] 0 rfl rfl (at_ok (ad := ad') (cap := cap') (ts := ts) (p := x.1.p) hpt hl) rfl rfl rfl rfl ⟨rfl, trivial⟩ rfl rfl ?_
    refine OpD.callL rfl rfl rfl rfl [0, 1, 2] 0 rfl rfl (zfail_ok (c := ⟨lgX, 0, 0, ts, ad', cap', []⟩) (s := x.1) 25 (whF ts x.1.p)) rfl rfl rfl rfl ⟨rfl, rfl, rfl, trivial⟩ rfl rfl ?_
    refine ⟨by kernel_rfl, ?_⟩
    refine ⟨fun h6 => ?_, fun h6 => ?_⟩
    · have h6 : 32 < x.2.length := by have h6 : decide ((32 : Int) < (x.2.length : Int)) = true := h6; simp at h6; omega
      rw [if_pos h6, hm] at hS
      refine OpC.callH rfl rfl rfl rfl [0, 1, 2] rfl (zfail_ok (c := ⟨lgX, 0, 0, ts, ad', cap', []⟩) (s := (failF x.1 25 (whF ts x.1.p))) 2 (whF ts 0)) rfl rfl rfl rfl ⟨rfl, rfl, rfl, trivial⟩ rfl ?_
      refine OpC.callH rfl rfl rfl rfl [0, 1, 2] rfl (zbad_ok (c := ⟨lgX, 0, 0, ts, ad', cap', []⟩) (failF (failF x.1 25 (whF ts x.1.p)) 2 (whF ts 0))) rfl rfl rfl rfl ⟨rfl, rfl, rfl, trivial⟩ rfl ?_
      refine ⟨fun h7 => ?_, fun h7 => ?_⟩
      · have h7 : (!decide ((failF (failF x.1 25 (whF ts x.1.p)) 2 (whF ts 0)).e = 0)) = true := h7
        have h7 : (failF (failF x.1 25 (whF ts x.1.p)) 2 (whF ts 0)).e ≠ 0 := by simpa using h7
        exact .inr (.inr ⟨_, _, h7, hR2 hS h7, rfl⟩)
      · have h7 : (!decide ((failF (failF x.1 25 (whF ts x.1.p)) 2 (whF ts 0)).e = 0)) = false := h7
        have h7 : (failF (failF x.1 25 (whF ts x.1.p)) 2 (whF ts 0)).e = 0 := by simpa using h7
        exact .inl ⟨x.2, v, 4, _, _, rfl, rfl, hv0, fun ad cap => .inl ⟨x.2, ad, cap, hR1 hS h7, rfl⟩⟩
    · have h6 : ¬ 32 < x.2.length := by have h6 : decide ((32 : Int) < (x.2.length : Int)) = false := h6; simp at h6; omega
      rw [if_neg h6, hm] at hS
      refine OpC.callH rfl rfl rfl rfl [0, 1, 2] rfl (zbad_ok (c := ⟨lgX, 0, 0, ts, ad', cap', []⟩) (failF x.1 25 (whF ts x.1.p))) rfl rfl rfl rfl ⟨rfl, rfl, rfl, trivial⟩ rfl ?_
      refine ⟨fun h7 => ?_, fun h7 => ?_⟩
      · have h7 : (!decide ((failF x.1 25 (whF ts x.1.p)).e = 0)) = true := h7
        have h7 : (failF x.1 25 (whF ts x.1.p)).e ≠ 0 := by simpa using h7
        exact .inr (.inr ⟨_, _, h7, hR2 hS h7, rfl⟩)
      · have h7 : (!decide ((failF x.1 25 (whF ts x.1.p)).e = 0)) = false := h7
        have h7 : (failF x.1 25 (whF ts x.1.p)).e = 0 := by simpa using h7
        exact .inl ⟨x.2, v, 4, _, _, rfl, rfl, hv0, fun ad cap => .inl ⟨x.2, ad, cap, hR1 hS h7, rfl⟩⟩
  · have h5 : ¬ x.1.p < ts.length := by have h5 : decide ((0 : Int) < ((ts.length - x.1.p : Nat) : Int)) = false := h5; simp at h5; omega
    have hm : moreF ts x.1 = x.1 := if_neg h5
    refine ⟨fun h6 => ?_, fun h6 => ?_⟩
    · have h6 : 32 < x.2.length := by have h6 : decide ((32 : Int) < (x.2.length : Int)) = true := h6; simp at h6; omega
      rw [if_pos h6, hm] at hS
      refine OpC.callH rfl rfl rfl rfl [0, 1, 2] rfl (zfail_ok (c := ⟨lgX, 0, 0, ts, ad', cap', []⟩) (s := x.1) 2 (whF ts 0)) rfl rfl rfl rfl ⟨rfl, rfl, rfl, trivial⟩ rfl ?_
      refine OpC.callH rfl rfl rfl rfl [0, 1, 2] rfl (zbad_ok (c := ⟨lgX, 0, 0, ts, ad', cap', []⟩) (failF x.1 2 (whF ts 0))) rfl rfl rfl rfl ⟨rfl, rfl, rfl, trivial⟩ rfl ?_
      refine ⟨fun h7 => ?_, fun h7 => ?_⟩
      · have h7 : (!decide ((failF x.1 2 (whF ts 0)).e = 0)) = true := h7
        have h7 : (failF x.1 2 (whF ts 0)).e ≠ 0 := by simpa using h7
        exact .inr (.inr ⟨_, _, h7, hR2 hS h7, rfl⟩)
      · have h7 : (!decide ((failF x.1 2 (whF ts 0)).e = 0)) = false := h7
        have h7 : (failF x.1 2 (whF ts 0)).e = 0 := by simpa using h7
        exact .inl ⟨x.2, v, 4, _, _, rfl, rfl, hv0, fun ad cap => .inl ⟨x.2, ad, cap, hR1 hS h7, rfl⟩⟩
    · have h6 : ¬ 32 < x.2.length := by have h6 : decide ((32 : Int) < (x.2.length : Int)) = false := h6; simp at h6; omega
      rw [if_neg h6, hm] at hS
      refine OpC.callH rfl rfl rfl rfl [0, 1, 2] rfl (zbad_ok (c := ⟨lgX, 0, 0, ts, ad', cap', []⟩) x.1) rfl rfl rfl rfl ⟨rfl, rfl, rfl, trivial⟩ rfl ?_
      refine ⟨fun h7 => ?_, fun h7 => ?_⟩
      · have h7 : (!decide (x.1.e = 0)) = true := h7
        have h7 : x.1.e ≠ 0 := by simpa using h7
        exact .inr (.inr ⟨_, _, h7, hR2 hS h7, rfl⟩)
      · have h7 : (!decide (x.1.e = 0)) = false := h7
        have h7 : x.1.e = 0 := by simpa using h7
        exact .inl ⟨x.2, v, 4, _, _, rfl, rfl, hv0, fun ad cap => .inl ⟨x.2, ad, cap, hR1 hS h7, rfl⟩⟩
theorem cparse_w (a : Int) (ha : a = 1 ∨ a = 2 ∨ a = 3) (ts : List Tk) (ad : Option Addr) (cap : Nat) (hl : ts.length ≤ 100000) (hn : ad = none → ts = []) : Ctr Tryz.prog 30 [.i .i64 a, .imm Tk tk0 4 tkenc ts ad cap] [] (CpK (cparseF (cixF a) ts)) :=
  (Cp.row3k callX_m rfl cencw cnok (cparse_key a ha ts ad cap hl hn)).trim callX_m fun r H1 hk => by
    rcases hk with ⟨cs, ad, cap, h1, rfl⟩ | ⟨e, q, he, h1, rfl⟩
    · exact ⟨[], H1, rfl, Nat.zero_le _, trivial, rfl, .inl ⟨cs, ad, cap, h1, rfl, rfl⟩⟩
    · exact ⟨[], H1, rfl, Nat.zero_le _, trivial, rfl, .inr ⟨e, q, he, h1, rfl, rfl⟩⟩
theorem cparse_other (a : Int) (ha : ¬ (a = 1 ∨ a = 2 ∨ a = 3)) (ts : List Tk) (ad : Option Addr) (cap : Nat) : CtrV Tryz.prog 30 [.i .i64 a, .imm Tk tk0 4 tkenc ts ad cap] (.tup [.nils, .i .i64 36, .i .i64 0]) := by
  have hnm := names_w a
  rw [if_neg ha] at hnm
  refine Ctr.enterV tabOkM (fn := Tryz.f30) rfl rfl rfl rfl rfl rfl ?_
  refine OpC.callV rfl rfl rfl rfl rfl rfl rfl (fun _ => hnm) ?_
  refine ⟨fun _ => ?_, fun h => no_tf h⟩
  exact rfl
end SX
end Go.Proofs.YthkedcneehdinaaGreatDoor

/- The reference's x86, Parse. Written by qwd.py. -/
set_option linter.unusedVariables false
set_option maxRecDepth 100000
namespace Go.Proofs.YthkedcneehdinaaGreatDoor
namespace SX
open Go Go.Proofs
variable {c : Qc} {s : RS}
end SX
end Go.Proofs.YthkedcneehdinaaGreatDoor

/- The reference: registers of RISC-V and Arm, by name; Parse. Written by qwf.py. -/
set_option linter.unusedVariables false
set_option maxRecDepth 100000
namespace Go.Proofs.YthkedcneehdinaaGreatDoor
namespace SX
open Go Go.Proofs
set_option maxHeartbeats 1000000 in
theorem rreg2_ok (v : List UInt8) : CtrV Tryz.prog 21 [.i .i64 2, .s v] (.i .i64 (idxF [97, 48] [97, 49] [97, 50] [97, 51] [97, 52] [97, 53] [97, 54] [97, 55] v)) := by
  refine Ctr.enterV tabOkF (fn := Tryz.f21) rfl rfl rfl rfl rfl rfl ?_
  refine WpC.loop tabOkF (β := Nat) (fun k => k ≤ 8 ∧ (0 < k → v ≠ [97, 48]) ∧ (1 < k → v ≠ [97, 49]) ∧ (2 < k → v ≠ [97, 50]) ∧ (3 < k → v ≠ [97, 51]) ∧ (4 < k → v ≠ [97, 52]) ∧ (5 < k → v ≠ [97, 53]) ∧ (6 < k → v ≠ [97, 54]) ∧ (7 < k → v ≠ [97, 55])) (fun k => [(5, .i .i64 k)]) (fun _ => []) (fun k => 8 - k) 0 1048560 ⟨by decide, fun h => absurd h (by decide), fun h => absurd h (by decide), fun h => absurd h (by decide), fun h => absurd h (by decide), fun h => absurd h (by decide), fun h => absurd h (by decide), fun h => absurd h (by decide), fun h => absurd h (by decide)⟩ ?_ ?_
  · exact ⟨rfl, ⟨⟨rfl, rfl, rfl⟩, trivial⟩, ⟨[], rfl⟩, trivial, rfl⟩
  · rintro k ⟨hk, q0, q1, q2, q3, q4, q5, q6, q7⟩
    rcases (by omega : k = 0 ∨ k = 1 ∨ k = 2 ∨ k = 3 ∨ k = 4 ∨ k = 5 ∨ k = 6 ∨ k = 7 ∨ k = 8) with rfl | rfl | rfl | rfl | rfl | rfl | rfl | rfl | rfl
    · refine ⟨fun _ => ?_, fun h => absurd h (by decide)⟩
      refine OpC.callV rfl rfl rfl rfl rfl rfl rfl (fun _ => rname_ok 2 0) ?_
      refine ⟨fun h => ?_, fun h => ?_⟩
      · have h : ((!decide (v = [])) && decide ([97, 48] = v)) = true := h
        have e : v = [97, 48] := by simp at h; exact h.2.symm
        refine i_cg ?_
        unfold idxF
        rw [if_pos e]
        rfl
      · have h : ((!decide (v = [])) && decide ([97, 48] = v)) = false := h
        have e0 : ¬ v = [97, 48] := fun e => by subst e; exact absurd h (by decide)
        exact ⟨1, ⟨by decide, fun _ => e0, fun h => absurd h (by decide), fun h => absurd h (by decide), fun h => absurd h (by decide), fun h => absurd h (by decide), fun h => absurd h (by decide), fun h => absurd h (by decide), fun h => absurd h (by decide)⟩, by decide, rfl, ⟨⟨rfl, rfl, rfl⟩, trivial⟩, ⟨[], rfl⟩, trivial, rfl⟩
    · have e0 := q0 (by decide)
      refine ⟨fun _ => ?_, fun h => absurd h (by decide)⟩
      refine OpC.callV rfl rfl rfl rfl rfl rfl rfl (fun _ => rname_ok 2 1) ?_
      refine ⟨fun h => ?_, fun h => ?_⟩
      · have h : ((!decide (v = [])) && decide ([97, 49] = v)) = true := h
        have e : v = [97, 49] := by simp at h; exact h.2.symm
        refine i_cg ?_
        unfold idxF
        rw [if_neg e0]
        rw [if_pos e]
        rfl
      · have h : ((!decide (v = [])) && decide ([97, 49] = v)) = false := h
        have e1 : ¬ v = [97, 49] := fun e => by subst e; exact absurd h (by decide)
        exact ⟨2, ⟨by decide, fun _ => e0, fun _ => e1, fun h => absurd h (by decide), fun h => absurd h (by decide), fun h => absurd h (by decide), fun h => absurd h (by decide), fun h => absurd h (by decide), fun h => absurd h (by decide)⟩, by decide, rfl, ⟨⟨rfl, rfl, rfl⟩, trivial⟩, ⟨[], rfl⟩, trivial, rfl⟩
    · have e0 := q0 (by decide)
      have e1 := q1 (by decide)
      refine ⟨fun _ => ?_, fun h => absurd h (by decide)⟩
      refine OpC.callV rfl rfl rfl rfl rfl rfl rfl (fun _ => rname_ok 2 2) ?_
      refine ⟨fun h => ?_, fun h => ?_⟩
      · have h : ((!decide (v = [])) && decide ([97, 50] = v)) = true := h
        have e : v = [97, 50] := by simp at h; exact h.2.symm
        refine i_cg ?_
        unfold idxF
        rw [if_neg e0]
        rw [if_neg e1]
        rw [if_pos e]
        rfl
      · have h : ((!decide (v = [])) && decide ([97, 50] = v)) = false := h
        have e2 : ¬ v = [97, 50] := fun e => by subst e; exact absurd h (by decide)
        exact ⟨3, ⟨by decide, fun _ => e0, fun _ => e1, fun _ => e2, fun h => absurd h (by decide), fun h => absurd h (by decide), fun h => absurd h (by decide), fun h => absurd h (by decide), fun h => absurd h (by decide)⟩, by decide, rfl, ⟨⟨rfl, rfl, rfl⟩, trivial⟩, ⟨[], rfl⟩, trivial, rfl⟩
    · have e0 := q0 (by decide)
      have e1 := q1 (by decide)
      have e2 := q2 (by decide)
      refine ⟨fun _ => ?_, fun h => absurd h (by decide)⟩
      refine OpC.callV rfl rfl rfl rfl rfl rfl rfl (fun _ => rname_ok 2 3) ?_
      refine ⟨fun h => ?_, fun h => ?_⟩
      · have h : ((!decide (v = [])) && decide ([97, 51] = v)) = true := h
        have e : v = [97, 51] := by simp at h; exact h.2.symm
        refine i_cg ?_
        unfold idxF
        rw [if_neg e0]
        rw [if_neg e1]
        rw [if_neg e2]
        rw [if_pos e]
        rfl
      · have h : ((!decide (v = [])) && decide ([97, 51] = v)) = false := h
        have e3 : ¬ v = [97, 51] := fun e => by subst e; exact absurd h (by decide)
        exact ⟨4, ⟨by decide, fun _ => e0, fun _ => e1, fun _ => e2, fun _ => e3, fun h => absurd h (by decide), fun h => absurd h (by decide), fun h => absurd h (by decide), fun h => absurd h (by decide)⟩, by decide, rfl, ⟨⟨rfl, rfl, rfl⟩, trivial⟩, ⟨[], rfl⟩, trivial, rfl⟩
    · have e0 := q0 (by decide)
      have e1 := q1 (by decide)
      have e2 := q2 (by decide)
      have e3 := q3 (by decide)
      refine ⟨fun _ => ?_, fun h => absurd h (by decide)⟩
      refine OpC.callV rfl rfl rfl rfl rfl rfl rfl (fun _ => rname_ok 2 4) ?_
      refine ⟨fun h => ?_, fun h => ?_⟩
      · have h : ((!decide (v = [])) && decide ([97, 52] = v)) = true := h
        have e : v = [97, 52] := by simp at h; exact h.2.symm
        refine i_cg ?_
        unfold idxF
        rw [if_neg e0]
        rw [if_neg e1]
        rw [if_neg e2]
        rw [if_neg e3]
        rw [if_pos e]
        rfl
      · have h : ((!decide (v = [])) && decide ([97, 52] = v)) = false := h
        have e4 : ¬ v = [97, 52] := fun e => by subst e; exact absurd h (by decide)
        exact ⟨5, ⟨by decide, fun _ => e0, fun _ => e1, fun _ => e2, fun _ => e3, fun _ => e4, fun h => absurd h (by decide), fun h => absurd h (by decide), fun h => absurd h (by decide)⟩, by decide, rfl, ⟨⟨rfl, rfl, rfl⟩, trivial⟩, ⟨[], rfl⟩, trivial, rfl⟩
    · have e0 := q0 (by decide)
      have e1 := q1 (by decide)
      have e2 := q2 (by decide)
      have e3 := q3 (by decide)
      have e4 := q4 (by decide)
      refine ⟨fun _ => ?_, fun h => absurd h (by decide)⟩
      refine OpC.callV rfl rfl rfl rfl rfl rfl rfl (fun _ => rname_ok 2 5) ?_
      refine ⟨fun h => ?_, fun h => ?_⟩
      · have h : ((!decide (v = [])) && decide ([97, 53] = v)) = true := h
        have e : v = [97, 53] := by simp at h; exact h.2.symm
        refine i_cg ?_
        unfold idxF
        rw [if_neg e0]
        rw [if_neg e1]
        rw [if_neg e2]
        rw [if_neg e3]
        rw [if_neg e4]
        rw [if_pos e]
        rfl
      · have h : ((!decide (v = [])) && decide ([97, 53] = v)) = false := h
        have e5 : ¬ v = [97, 53] := fun e => by subst e; exact absurd h (by decide)
        exact ⟨6, ⟨by decide, fun _ => e0, fun _ => e1, fun _ => e2, fun _ => e3, fun _ => e4, fun _ => e5, fun h => absurd h (by decide), fun h => absurd h (by decide)⟩, by decide, rfl, ⟨⟨rfl, rfl, rfl⟩, trivial⟩, ⟨[], rfl⟩, trivial, rfl⟩
    · have e0 := q0 (by decide)
      have e1 := q1 (by decide)
      have e2 := q2 (by decide)
      have e3 := q3 (by decide)
      have e4 := q4 (by decide)
      have e5 := q5 (by decide)
      refine ⟨fun _ => ?_, fun h => absurd h (by decide)⟩
      refine OpC.callV rfl rfl rfl rfl rfl rfl rfl (fun _ => rname_ok 2 6) ?_
      refine ⟨fun h => ?_, fun h => ?_⟩
      · have h : ((!decide (v = [])) && decide ([97, 54] = v)) = true := h
        have e : v = [97, 54] := by simp at h; exact h.2.symm
        refine i_cg ?_
        unfold idxF
        rw [if_neg e0]
        rw [if_neg e1]
        rw [if_neg e2]
        rw [if_neg e3]
        rw [if_neg e4]
        rw [if_neg e5]
        rw [if_pos e]
        rfl
      · have h : ((!decide (v = [])) && decide ([97, 54] = v)) = false := h
        have e6 : ¬ v = [97, 54] := fun e => by subst e; exact absurd h (by decide)
        exact ⟨7, ⟨by decide, fun _ => e0, fun _ => e1, fun _ => e2, fun _ => e3, fun _ => e4, fun _ => e5, fun _ => e6, fun h => absurd h (by decide)⟩, by decide, rfl, ⟨⟨rfl, rfl, rfl⟩, trivial⟩, ⟨[], rfl⟩, trivial, rfl⟩
    · have e0 := q0 (by decide)
      have e1 := q1 (by decide)
      have e2 := q2 (by decide)
      have e3 := q3 (by decide)
      have e4 := q4 (by decide)
      have e5 := q5 (by decide)
      have e6 := q6 (by decide)
      refine ⟨fun _ => ?_, fun h => absurd h (by decide)⟩
      refine OpC.callV rfl rfl rfl rfl rfl rfl rfl (fun _ => rname_ok 2 7) ?_
      refine ⟨fun h => ?_, fun h => ?_⟩
      · have h : ((!decide (v = [])) && decide ([97, 55] = v)) = true := h
        have e : v = [97, 55] := by simp at h; exact h.2.symm
        refine i_cg ?_
        unfold idxF
        rw [if_neg e0]
        rw [if_neg e1]
        rw [if_neg e2]
        rw [if_neg e3]
        rw [if_neg e4]
        rw [if_neg e5]
        rw [if_neg e6]
        rw [if_pos e]
        rfl
      · have h : ((!decide (v = [])) && decide ([97, 55] = v)) = false := h
        have e7 : ¬ v = [97, 55] := fun e => by subst e; exact absurd h (by decide)
        exact ⟨8, ⟨by decide, fun _ => e0, fun _ => e1, fun _ => e2, fun _ => e3, fun _ => e4, fun _ => e5, fun _ => e6, fun _ => e7⟩, by decide, rfl, ⟨⟨rfl, rfl, rfl⟩, trivial⟩, ⟨[], rfl⟩, trivial, rfl⟩
    · have e0 := q0 (by decide)
      have e1 := q1 (by decide)
      have e2 := q2 (by decide)
      have e3 := q3 (by decide)
      have e4 := q4 (by decide)
      have e5 := q5 (by decide)
      have e6 := q6 (by decide)
      have e7 := q7 (by decide)
      refine ⟨fun h => absurd h (by decide), fun _ => i_cg ?_⟩
      unfold idxF
      rw [if_neg e0, if_neg e1, if_neg e2, if_neg e3, if_neg e4, if_neg e5, if_neg e6, if_neg e7]
set_option maxHeartbeats 1000000 in
theorem rreg3_ok (v : List UInt8) : CtrV Tryz.prog 21 [.i .i64 3, .s v] (.i .i64 (idxF [88, 48] [88, 49] [88, 50] [88, 51] [88, 52] [88, 53] [88, 54] [88, 55] v)) := by
  refine Ctr.enterV tabOkF (fn := Tryz.f21) rfl rfl rfl rfl rfl rfl ?_
  refine WpC.loop tabOkF (β := Nat) (fun k => k ≤ 8 ∧ (0 < k → v ≠ [88, 48]) ∧ (1 < k → v ≠ [88, 49]) ∧ (2 < k → v ≠ [88, 50]) ∧ (3 < k → v ≠ [88, 51]) ∧ (4 < k → v ≠ [88, 52]) ∧ (5 < k → v ≠ [88, 53]) ∧ (6 < k → v ≠ [88, 54]) ∧ (7 < k → v ≠ [88, 55])) (fun k => [(5, .i .i64 k)]) (fun _ => []) (fun k => 8 - k) 0 1048560 ⟨by decide, fun h => absurd h (by decide), fun h => absurd h (by decide), fun h => absurd h (by decide), fun h => absurd h (by decide), fun h => absurd h (by decide), fun h => absurd h (by decide), fun h => absurd h (by decide), fun h => absurd h (by decide)⟩ ?_ ?_
  · exact ⟨rfl, ⟨⟨rfl, rfl, rfl⟩, trivial⟩, ⟨[], rfl⟩, trivial, rfl⟩
  · rintro k ⟨hk, q0, q1, q2, q3, q4, q5, q6, q7⟩
    rcases (by omega : k = 0 ∨ k = 1 ∨ k = 2 ∨ k = 3 ∨ k = 4 ∨ k = 5 ∨ k = 6 ∨ k = 7 ∨ k = 8) with rfl | rfl | rfl | rfl | rfl | rfl | rfl | rfl | rfl
    · refine ⟨fun _ => ?_, fun h => absurd h (by decide)⟩
      refine OpC.callV rfl rfl rfl rfl rfl rfl rfl (fun _ => rname_ok 3 0) ?_
      refine ⟨fun h => ?_, fun h => ?_⟩
      · have h : ((!decide (v = [])) && decide ([88, 48] = v)) = true := h
        have e : v = [88, 48] := by simp at h; exact h.2.symm
        refine i_cg ?_
        unfold idxF
        rw [if_pos e]
        rfl
      · have h : ((!decide (v = [])) && decide ([88, 48] = v)) = false := h
        have e0 : ¬ v = [88, 48] := fun e => by subst e; exact absurd h (by decide)
        exact ⟨1, ⟨by decide, fun _ => e0, fun h => absurd h (by decide), fun h => absurd h (by decide), fun h => absurd h (by decide), fun h => absurd h (by decide), fun h => absurd h (by decide), fun h => absurd h (by decide), fun h => absurd h (by decide)⟩, by decide, rfl, ⟨⟨rfl, rfl, rfl⟩, trivial⟩, ⟨[], rfl⟩, trivial, rfl⟩
    · have e0 := q0 (by decide)
      refine ⟨fun _ => ?_, fun h => absurd h (by decide)⟩
      refine OpC.callV rfl rfl rfl rfl rfl rfl rfl (fun _ => rname_ok 3 1) ?_
      refine ⟨fun h => ?_, fun h => ?_⟩
      · have h : ((!decide (v = [])) && decide ([88, 49] = v)) = true := h
        have e : v = [88, 49] := by simp at h; exact h.2.symm
        refine i_cg ?_
        unfold idxF
        rw [if_neg e0]
        rw [if_pos e]
        rfl
      · have h : ((!decide (v = [])) && decide ([88, 49] = v)) = false := h
        have e1 : ¬ v = [88, 49] := fun e => by subst e; exact absurd h (by decide)
        exact ⟨2, ⟨by decide, fun _ => e0, fun _ => e1, fun h => absurd h (by decide), fun h => absurd h (by decide), fun h => absurd h (by decide), fun h => absurd h (by decide), fun h => absurd h (by decide), fun h => absurd h (by decide)⟩, by decide, rfl, ⟨⟨rfl, rfl, rfl⟩, trivial⟩, ⟨[], rfl⟩, trivial, rfl⟩
    · have e0 := q0 (by decide)
      have e1 := q1 (by decide)
      refine ⟨fun _ => ?_, fun h => absurd h (by decide)⟩
      refine OpC.callV rfl rfl rfl rfl rfl rfl rfl (fun _ => rname_ok 3 2) ?_
      refine ⟨fun h => ?_, fun h => ?_⟩
      · have h : ((!decide (v = [])) && decide ([88, 50] = v)) = true := h
        have e : v = [88, 50] := by simp at h; exact h.2.symm
        refine i_cg ?_
        unfold idxF
        rw [if_neg e0]
        rw [if_neg e1]
        rw [if_pos e]
        rfl
      · have h : ((!decide (v = [])) && decide ([88, 50] = v)) = false := h
        have e2 : ¬ v = [88, 50] := fun e => by subst e; exact absurd h (by decide)
        exact ⟨3, ⟨by decide, fun _ => e0, fun _ => e1, fun _ => e2, fun h => absurd h (by decide), fun h => absurd h (by decide), fun h => absurd h (by decide), fun h => absurd h (by decide), fun h => absurd h (by decide)⟩, by decide, rfl, ⟨⟨rfl, rfl, rfl⟩, trivial⟩, ⟨[], rfl⟩, trivial, rfl⟩
    · have e0 := q0 (by decide)
      have e1 := q1 (by decide)
      have e2 := q2 (by decide)
      refine ⟨fun _ => ?_, fun h => absurd h (by decide)⟩
      refine OpC.callV rfl rfl rfl rfl rfl rfl rfl (fun _ => rname_ok 3 3) ?_
      refine ⟨fun h => ?_, fun h => ?_⟩
      · have h : ((!decide (v = [])) && decide ([88, 51] = v)) = true := h
        have e : v = [88, 51] := by simp at h; exact h.2.symm
        refine i_cg ?_
        unfold idxF
        rw [if_neg e0]
        rw [if_neg e1]
        rw [if_neg e2]
        rw [if_pos e]
        rfl
      · have h : ((!decide (v = [])) && decide ([88, 51] = v)) = false := h
        have e3 : ¬ v = [88, 51] := fun e => by subst e; exact absurd h (by decide)
        exact ⟨4, ⟨by decide, fun _ => e0, fun _ => e1, fun _ => e2, fun _ => e3, fun h => absurd h (by decide), fun h => absurd h (by decide), fun h => absurd h (by decide), fun h => absurd h (by decide)⟩, by decide, rfl, ⟨⟨rfl, rfl, rfl⟩, trivial⟩, ⟨[], rfl⟩, trivial, rfl⟩
    · have e0 := q0 (by decide)
      have e1 := q1 (by decide)
      have e2 := q2 (by decide)
      have e3 := q3 (by decide)
      refine ⟨fun _ => ?_, fun h => absurd h (by decide)⟩
      refine OpC.callV rfl rfl rfl rfl rfl rfl rfl (fun _ => rname_ok 3 4) ?_
      refine ⟨fun h => ?_, fun h => ?_⟩
      · have h : ((!decide (v = [])) && decide ([88, 52] = v)) = true := h
        have e : v = [88, 52] := by simp at h; exact h.2.symm
        refine i_cg ?_
        unfold idxF
        rw [if_neg e0]
        rw [if_neg e1]
        rw [if_neg e2]
        rw [if_neg e3]
        rw [if_pos e]
        rfl
      · have h : ((!decide (v = [])) && decide ([88, 52] = v)) = false := h
        have e4 : ¬ v = [88, 52] := fun e => by subst e; exact absurd h (by decide)
        exact ⟨5, ⟨by decide, fun _ => e0, fun _ => e1, fun _ => e2, fun _ => e3, fun _ => e4, fun h => absurd h (by decide), fun h => absurd h (by decide), fun h => absurd h (by decide)⟩, by decide, rfl, ⟨⟨rfl, rfl, rfl⟩, trivial⟩, ⟨[], rfl⟩, trivial, rfl⟩
    · have e0 := q0 (by decide)
      have e1 := q1 (by decide)
      have e2 := q2 (by decide)
      have e3 := q3 (by decide)
      have e4 := q4 (by decide)
      refine ⟨fun _ => ?_, fun h => absurd h (by decide)⟩
      refine OpC.callV rfl rfl rfl rfl rfl rfl rfl (fun _ => rname_ok 3 5) ?_
      refine ⟨fun h => ?_, fun h => ?_⟩
      · have h : ((!decide (v = [])) && decide ([88, 53] = v)) = true := h
        have e : v = [88, 53] := by simp at h; exact h.2.symm
        refine i_cg ?_
        unfold idxF
        rw [if_neg e0]
        rw [if_neg e1]
        rw [if_neg e2]
        rw [if_neg e3]
        rw [if_neg e4]
        rw [if_pos e]
        rfl
      · have h : ((!decide (v = [])) && decide ([88, 53] = v)) = false := h
        have e5 : ¬ v = [88, 53] := fun e => by subst e; exact absurd h (by decide)
        exact ⟨6, ⟨by decide, fun _ => e0, fun _ => e1, fun _ => e2, fun _ => e3, fun _ => e4, fun _ => e5, fun h => absurd h (by decide), fun h => absurd h (by decide)⟩, by decide, rfl, ⟨⟨rfl, rfl, rfl⟩, trivial⟩, ⟨[], rfl⟩, trivial, rfl⟩
    · have e0 := q0 (by decide)
      have e1 := q1 (by decide)
      have e2 := q2 (by decide)
      have e3 := q3 (by decide)
      have e4 := q4 (by decide)
      have e5 := q5 (by decide)
      refine ⟨fun _ => ?_, fun h => absurd h (by decide)⟩
      refine OpC.callV rfl rfl rfl rfl rfl rfl rfl (fun _ => rname_ok 3 6) ?_
      refine ⟨fun h => ?_, fun h => ?_⟩
      · have h : ((!decide (v = [])) && decide ([88, 54] = v)) = true := h
        have e : v = [88, 54] := by simp at h; exact h.2.symm
        refine i_cg ?_
        unfold idxF
        rw [if_neg e0]
        rw [if_neg e1]
        rw [if_neg e2]
        rw [if_neg e3]
        rw [if_neg e4]
        rw [if_neg e5]
        rw [if_pos e]
        rfl
      · have h : ((!decide (v = [])) && decide ([88, 54] = v)) = false := h
        have e6 : ¬ v = [88, 54] := fun e => by subst e; exact absurd h (by decide)
        exact ⟨7, ⟨by decide, fun _ => e0, fun _ => e1, fun _ => e2, fun _ => e3, fun _ => e4, fun _ => e5, fun _ => e6, fun h => absurd h (by decide)⟩, by decide, rfl, ⟨⟨rfl, rfl, rfl⟩, trivial⟩, ⟨[], rfl⟩, trivial, rfl⟩
    · have e0 := q0 (by decide)
      have e1 := q1 (by decide)
      have e2 := q2 (by decide)
      have e3 := q3 (by decide)
      have e4 := q4 (by decide)
      have e5 := q5 (by decide)
      have e6 := q6 (by decide)
      refine ⟨fun _ => ?_, fun h => absurd h (by decide)⟩
      refine OpC.callV rfl rfl rfl rfl rfl rfl rfl (fun _ => rname_ok 3 7) ?_
      refine ⟨fun h => ?_, fun h => ?_⟩
      · have h : ((!decide (v = [])) && decide ([88, 55] = v)) = true := h
        have e : v = [88, 55] := by simp at h; exact h.2.symm
        refine i_cg ?_
        unfold idxF
        rw [if_neg e0]
        rw [if_neg e1]
        rw [if_neg e2]
        rw [if_neg e3]
        rw [if_neg e4]
        rw [if_neg e5]
        rw [if_neg e6]
        rw [if_pos e]
        rfl
      · have h : ((!decide (v = [])) && decide ([88, 55] = v)) = false := h
        have e7 : ¬ v = [88, 55] := fun e => by subst e; exact absurd h (by decide)
        exact ⟨8, ⟨by decide, fun _ => e0, fun _ => e1, fun _ => e2, fun _ => e3, fun _ => e4, fun _ => e5, fun _ => e6, fun _ => e7⟩, by decide, rfl, ⟨⟨rfl, rfl, rfl⟩, trivial⟩, ⟨[], rfl⟩, trivial, rfl⟩
    · have e0 := q0 (by decide)
      have e1 := q1 (by decide)
      have e2 := q2 (by decide)
      have e3 := q3 (by decide)
      have e4 := q4 (by decide)
      have e5 := q5 (by decide)
      have e6 := q6 (by decide)
      have e7 := q7 (by decide)
      refine ⟨fun h => absurd h (by decide), fun _ => i_cg ?_⟩
      unfold idxF
      rw [if_neg e0, if_neg e1, if_neg e2, if_neg e3, if_neg e4, if_neg e5, if_neg e6, if_neg e7]
end SX
end Go.Proofs.YthkedcneehdinaaGreatDoor

/- The reference's Parse of conditions. Printed by crb.py. -/
set_option linter.unusedVariables false
set_option maxRecDepth 100000
namespace Go.Proofs.YthkedcneehdinaaGreatDoor
namespace SX
open Go Go.Proofs
/-- A machine's language. -/
def clg (a : Int) : Lg := if a = 1 then lgX else if a = 2 then lgR else lgA
theorem clg_ix (a : Int) (v : List UInt8) : (clg a).ix v = cixF a v := by
  unfold clg cixF Lg.ix
  by_cases h1 : a = 1
  · rw [if_pos h1, if_pos h1]; rfl
  by_cases h2 : a = 2
  · rw [if_neg h1, if_neg h1, if_pos h2, if_pos h2]; rfl
  · rw [if_neg h1, if_neg h1, if_neg h2, if_neg h2]; rfl
theorem clg_nil (a : Int) : (clg a).ix [] < 0 := by
  unfold clg
  split
  · exact lgX_ok.nil
  · split
    · exact lgR_ok.nil
    · exact lgA_ok.nil
theorem clg_ok {a : Int} (ha : a = 1 ∨ a = 2 ∨ a = 3) (ts : List Tk) (ad : Option Addr) (cap : Nat) : QL ⟨a, clg a, ts, ad, cap⟩ := by
  rcases ha with rfl | rfl | rfl
  · exact ⟨fun v => rreg1_ok v, .inl ⟨rfl, rfl⟩⟩
  · exact ⟨fun v => rreg2_ok v, .inr (.inl ⟨rfl, rfl⟩)⟩
  · exact ⟨fun v => rreg3_ok v, .inr (.inr ⟨rfl, rfl⟩)⟩
theorem rpX_pos (L : Lg) (hL : L.ix [] < 0) {ts : List Tk} (hw : WfA ts) (h : (moreF ts (rpX L ts).1).e = 0) : 0 < (rpX L ts).2.length := by
  have h1 : SmC (cpX L.ix ts) (rpX L ts) := or_sim hw (fun x y h => atm_sim hL hw (ts.length + 1) x y h) (ts.length + 1) _ _ ⟨rfl, fun _ => rfl⟩
  have hm := nrm_more (ts := ts) h1.1
  have h2 := (nrm_live hm.1).2 h
  rw [← h1.2 (hm.2 h2)]
  exact cpX_pos L.ix ts
theorem rpS_1 {L : Lg} {ts : List Tk} {s : RS} (h : moreF ts (rpX L ts).1 = s) (he : s.e ≠ 0) : rparseF L ts = ([], s.e, s.q) := by unfold rparseF; rw [h, if_neg he]
theorem rpS_2 {L : Lg} {ts : List Tk} {s : RS} (h : moreF ts (rpX L ts).1 = s) (he : s.e = 0) (hn : 32 < (rpX L ts).2.length) : rparseF L ts = ([], 2, whF ts 0) := by unfold rparseF; rw [h, if_pos he, if_pos hn]
theorem rpS_3 {L : Lg} {ts : List Tk} {s : RS} (h : moreF ts (rpX L ts).1 = s) (he : s.e = 0) (hn : ¬ 32 < (rpX L ts).2.length) : rparseF L ts = ((rpX L ts).2, 0, 0) := by unfold rparseF; rw [h, if_pos he, if_neg hn]
set_option maxHeartbeats 4000000 in
theorem rcp_key (a : Int) (ha : a = 1 ∨ a = 2 ∨ a = 3) (ts : List Tk) (hw : WfA ts) (ad : Option Addr) (cap : Nat) (hl : ts.length ≤ 100000) : Ctr Tryz.prog 31 [.i .i64 a, .imm Tk tk0 4 tkenc ts ad cap] []
    (fun r h => (∃ (xs : List Cn) (ver k : Nat) (y z : SV), r = .tup [.sl k ver 0 xs.length none 0, y, z] ∧ h[k]? = some (.mem 84 [.arr xs.length Cn cn0 5 cenc xs] ver 5) ∧ ver ≠ 0 ∧ ∀ ad cap, CpN (rparseF (clg a) ts) (.tup [.imm Cn cn0 5 cenc xs ad cap, y, z]) (h.set k (.gone ver))) ∨ CpN (rparseF (clg a) ts) r h) := by
  have hQ := clg_ok ha ts ad cap
  refine Ctr.enter tabOkM (fn := Tryz.f31) rfl rfl rfl rfl rfl ?_
  refine ⟨fun h => ?_, fun _ => ?_⟩
  · have h : (decide (a < 1) || decide (3 < a)) = true := h
    simp only [Bool.or_eq_true, decide_eq_true_eq] at h
    omega
  refine OpC.shift (Shift.rowIn (i := 2) (pre := [.ptr 1 1 0 []]) (post := []) rfl 4 84 [.arr 0 Cn cn0 5 cenc []] (fun E => rfl) (fun m V => ⟨⟨rfl, rfl, cencw, fun j hj => by omega⟩, trivial⟩) rfl) ?_
  refine OpC.callH rfl rfl rfl rfl [0] rfl (where_ok (ad := ad) (cap := cap) (ts := ts) (p := 0) (Nat.zero_le _) hl) rfl rfl rfl rfl ⟨rfl, trivial⟩ rfl ?_
  refine OpC.callH rfl rfl rfl rfl [0, 1, 2, 3] rfl (orQ_w (c := ⟨a, clg a, ts, ad, cap⟩) (fun x h => stp_not (clg a) ts (ts.length + 1) x h) (not_w (c := ⟨a, clg a, ts, ad, cap⟩) hQ (ts.length + 1)) (rs0, []) ⟨Nat.zero_le _, hl⟩ (by show ts.length - 0 < ts.length + 1; omega) (Nat.zero_le _)) rfl rfl rfl rfl ⟨rfl, rfl, rfl, rfl, trivial⟩ rfl ?_
  have hst : Stp ts (rs0, []) (rpX (clg a) ts) := stp_orQ (fun x h => stp_not (clg a) ts (ts.length + 1) x h) (ts.length + 1) (rs0, []) (Nat.zero_le _)
  have hR1 := @rpS_1 (clg a) ts
  have hR2 := @rpS_2 (clg a) ts
  have hR3 := @rpS_3 (clg a) ts
  have hps := rpX_pos (clg a) (clg_nil a) hw
  have hpt := hst.t
  show setBK _ (zipB _ (hP _ (rpX (clg a) ts)) 0) _
  generalize rpX (clg a) ts = x at *
  refine OpC.callH rfl rfl rfl rfl [0] rfl (wpeek_ok (ad := ad) (cap := cap) (ts := ts) (p := x.1.p) hpt) rfl rfl rfl rfl ⟨rfl, trivial⟩ rfl ?_
  refine ⟨fun h5 => ?_, fun h5 => ?_⟩
  · have h5 : x.1.p < ts.length := of_decide_eq_true h5
    have hm : moreF ts x.1 = failF x.1 25 (tkAt ts x.1.p).a := by unfold moreF; rw [if_pos h5, whF_lt h5]
    refine WpC.dr tabOkM mixed 0 ?_
    refine OpD.callL rfl rfl rfl rfl [0, 1] 0 rfl rfl (qfail_ok (c := ⟨a, clg a, ts, ad, cap⟩) (s := x.1) 25 (tkAt ts x.1.p).a) rfl rfl rfl rfl ⟨rfl, rfl, trivial⟩ rfl rfl ?_
    refine ⟨by kernel_rfl, ?_⟩
    refine ⟨fun h7 => ?_, fun h7 => ?_⟩
    · have h7 : (!decide ((failF x.1 25 (tkAt ts x.1.p).a).e = 0)) = true := h7
      have h7 : (failF x.1 25 (tkAt ts x.1.p).a).e ≠ 0 := by simpa using h7
      refine WpC.dr tabOkM mixed 0 ?_
      refine ⟨by kernel_rfl, ?_⟩
      exact .inr (.inr ⟨_, _, h7, hR1 hm h7, rfl⟩)
    · have h7 : (!decide ((failF x.1 25 (tkAt ts x.1.p).a).e = 0)) = false := h7
      have h7 : (failF x.1 25 (tkAt ts x.1.p).a).e = 0 := by simpa using h7
      have hpos := hps (by rw [hm]; exact h7)
      refine ⟨fun h6 => ?_, fun h6 => ?_⟩
      · have h6 : 32 < x.2.length := by have h6 : decide ((32 : Int) < (x.2.length : Int)) = true := h6; simp at h6; omega
        exact .inr (.inr ⟨_, _, by decide, hR2 hm h7 h6, rfl⟩)
      · have h6 : ¬ 32 < x.2.length := by have h6 : decide ((32 : Int) < (x.2.length : Int)) = false := h6; simp at h6; omega
        exact .inl ⟨x.2, x.2.length, 3, _, _, rfl, rfl, by omega, fun ad cap => .inl ⟨x.2, ad, cap, hR3 hm h7 h6, rfl⟩⟩
  · have h5 : ¬ x.1.p < ts.length := of_decide_eq_false h5
    have hm : moreF ts x.1 = x.1 := if_neg h5
    refine ⟨fun h7 => ?_, fun h7 => ?_⟩
    · have h7 : (!decide (x.1.e = 0)) = true := h7
      have h7 : x.1.e ≠ 0 := by simpa using h7
      refine WpC.dr tabOkM mixed 0 ?_
      refine ⟨by kernel_rfl, ?_⟩
      exact .inr (.inr ⟨_, _, h7, hR1 hm h7, rfl⟩)
    · have h7 : (!decide (x.1.e = 0)) = false := h7
      have h7 : x.1.e = 0 := by simpa using h7
      have hpos := hps (by rw [hm]; exact h7)
      refine ⟨fun h6 => ?_, fun h6 => ?_⟩
      · have h6 : 32 < x.2.length := by have h6 : decide ((32 : Int) < (x.2.length : Int)) = true := h6; simp at h6; omega
        exact .inr (.inr ⟨_, _, by decide, hR2 hm h7 h6, rfl⟩)
      · have h6 : ¬ 32 < x.2.length := by have h6 : decide ((32 : Int) < (x.2.length : Int)) = false := h6; simp at h6; omega
        exact .inl ⟨x.2, x.2.length, 3, _, _, rfl, rfl, by omega, fun ad cap => .inl ⟨x.2, ad, cap, hR3 hm h7 h6, rfl⟩⟩
theorem rcparse_w (a : Int) (ha : a = 1 ∨ a = 2 ∨ a = 3) (ts : List Tk) (hw : WfA ts) (ad : Option Addr) (cap : Nat) (hl : ts.length ≤ 100000) : Ctr Tryz.prog 31 [.i .i64 a, .imm Tk tk0 4 tkenc ts ad cap] [] (CpK (rparseF (clg a) ts)) :=
  (Cp.row3k callX_m rfl cencw cnok (rcp_key a ha ts hw ad cap hl)).trim callX_m fun r H1 hk => by
    rcases hk with ⟨cs, ad, cap, h1, rfl⟩ | ⟨e, q, he, h1, rfl⟩
    · exact ⟨[], H1, rfl, Nat.zero_le _, trivial, rfl, .inl ⟨cs, ad, cap, h1, rfl, rfl⟩⟩
    · exact ⟨[], H1, rfl, Nat.zero_le _, trivial, rfl, .inr ⟨e, q, he, h1, rfl, rfl⟩⟩
theorem rcparse_other (a : Int) (ha : ¬ (a = 1 ∨ a = 2 ∨ a = 3)) (ts : List Tk) (ad : Option Addr) (cap : Nat) : CtrV Tryz.prog 31 [.i .i64 a, .imm Tk tk0 4 tkenc ts ad cap] (.tup [.nils, .i .i64 36, .i .i64 0]) := by
  refine Ctr.enterV tabOkM (fn := Tryz.f31) rfl rfl rfl rfl rfl rfl ?_
  refine ⟨fun _ => ?_, fun h => ?_⟩
  · exact rfl
  · have h : (decide (a < 1) || decide (3 < a)) = false := h
    simp only [Bool.or_eq_false_iff, decide_eq_false_iff_not] at h
    omega
theorem cond_same {a : Int} {ts : List Tk} (hw : WfA ts) : rparseF (clg a) ts = cparseF (cixF a) ts := by
  rw [← cond_alike (clg_nil a) hw]
  congr 1
  funext v
  exact clg_ix a v
end SX
end Go.Proofs.YthkedcneehdinaaGreatDoor

/- Rows: instructions that come in. Written by rwa.py. -/
set_option linter.unusedVariables false
set_option maxRecDepth 100000
namespace Go.Proofs.YthkedcneehdinaaGreatDoor
open Go Go.ChangeShapes Go.WideShapes Go.ChangeAt Go.RowKit
theorem own : ownKnob Tryz.prog.godebug = none := by kernel_rfl
theorem compsOk : ∀ t, t < Tryz.prog.types.size → SX.CompsOk Tryz.prog (· < Tryz.prog.types.size) t := SX.compsOk_of (by kernel_rfl)
namespace SX
theorem wf64 {n : Int} (h : (Lit.int .i64 n).wf = true) : in64 n := by
  have h : (decide (IntKind.i64.min ≤ n) && decide (n ≤ IntKind.i64.max)) = true := h
  simp only [Bool.and_eq_true, decide_eq_true_eq] at h
  exact h
end SX
theorem and_tt {a b : Bool} (h1 : a = true) (h2 : b = true) : (a && b) = true := by rw [h1, h2]; rfl
theorem facts_of {P : Program} {f : FuncId} {fn : Func} {s : ChangeSpec} {c : OpenClaim} (h0 : (c.wf (OpenSpec.ofChange s)) = true) (h1 : (laidOutB P) = true) (h2 : (mapsRowed P) = true) (h3 : (fn.params.all (P.readableRec ·)) = true) (h4 : (namedTie P c.named s.vars) = true) (h5 : ((c.stops == [])) = true) (h6 : ((P.stops == [])) = true) (h7 : ((c.knobs == [])) = true) (h8 : ((P.stopKnobs == [])) = true) (h9 : ((c.inPlace == P.inPlace f)) = true) (h10 : ((c.unfollowed == P.unfollowed f)) = true) (h11 : ((c.recurses == P.recurses f)) = true) (h12 : ((c.named == P.varsNamed f)) = true) (h13 : ((c.maps == (fn.params.toList ++ s.plain.varTypes P).any (P.mapsRec ·))) = true) (h14 : ((c.ifaces == (fn.params.toList ++ s.plain.varTypes P).any (P.ifacesRec ·))) = true) (h15 : ((c.mapsOut == P.mapsAmong fn.resultTypes.toList)) = true) (h16 : ((c.loops == (fn.params.toList ++ s.plain.varTypes P).any (P.loopsFrom ·))) = true) (h17 : ((c.wideKeys == (fn.params.toList ++ s.plain.varTypes P ++ fn.resultTypes.toList).any (P.wideKeysFrom ·))) = true) (h18 : (s.vars.all (P.varReadable ·)) = true) (h19 : (fn.resultTypes.all (fun t => P.readableRec t && decide (t < P.types.size))) = true) (h20 : ((c.ifacesOut == fn.resultTypes.toList.any (P.ifacesRec ·))) = true) (h21 : ((c.loopsOut == fn.resultTypes.toList.any (P.loopsFrom ·))) = true) (h22 : ((c.plainKeys == P.plainKeys)) = true) (h23 : (c.shortTexts.isNone) = true) (h24 : (P.stopsHeard) = true) (h25 : (P.mayEnter) = true) (h26 : ((c.lifted == P.liftsFinal)) = true) (h27 : ((P.make == some c.make)) = true) (h28 : ((c.kinds == (if c.domain.isEmpty then [] else fn.params.toList.map fun t => match P.underlying t with | some (.int k) => some k | _ => none))) = true) (h29 : ((c.pinned == c.pinnedBy)) = true) (h30 : ((c.veiled == (fn.params.toList ++ s.plain.varTypes P ++ fn.resultTypes.toList).any (P.veiledRec ·))) = true) (h31 : (c.veiledFits P fn.params.toList (fn.params.toList ++ s.plain.varTypes P ++ fn.resultTypes.toList)) = true) : joinedFacts P f fn s c = true := by
  unfold joinedFacts
  exact (and_tt (and_tt (and_tt (and_tt (and_tt (and_tt (and_tt (and_tt (and_tt (and_tt (and_tt (and_tt (and_tt (and_tt (and_tt (and_tt (and_tt (and_tt (and_tt (and_tt (and_tt (and_tt (and_tt (and_tt (and_tt (and_tt (and_tt (and_tt (and_tt (and_tt (and_tt h0 h1) h2) h3) h4) h5) h6) h7) h8) h9) h10) h11) h12) h13) h14) h15) h16) h17) h18) h19) h20) h21) h22) h23) h24) h25) h26) h27) h28) h29) h30) h31)
section
variable {H : Type} {enc : TypeId × Value → H} {W : World} {b0 : Nat} {v : Value} {d : DataW H} {p : List MemPlace} {base : Nat} {spare : Nat → Bool} {held : Bool}
end
end Go.Proofs.YthkedcneehdinaaGreatDoor

/- Words of any text: how many, how long; x86.Parse of a row that stays. -/
set_option linter.unusedVariables false
set_option maxRecDepth 100000
namespace Go.Proofs.YthkedcneehdinaaGreatDoor
namespace SX
open Go Go.Proofs
theorem tok_count (s : List UInt8) : (tokF s).1.length ≤ 8192 := by
  have pos : ∀ (p : Nat) (y : Tk), p < s.length → stepF (s.drop p) p = .tok y → 1 ≤ y.s.length := by
    intro p y hp hy
    have hne : s.drop p ≠ [] := fun hh => by have := congrArg List.length hh; simp at this; omega
    unfold stepF at hy
    split at hy
    · cases hy
    split at hy
    · split at hy <;> cases hy
    split at hy
    · rename_i hd
      split at hy
      · cases hy
      · cases hy
        have : 0 < rowF numB (s.drop p) := rowF_pos hne (by unfold numB; rw [hd]; simp)
        show 1 ≤ (List.take _ _).length
        rw [List.length_take, List.length_drop]; omega
    split at hy
    · rename_i hl
      cases hy
      have : 0 < rowF namB (s.drop p) := rowF_pos hne (by
        unfold namB
        simp only [Bool.or_eq_true, decide_eq_true_eq] at hl ⊢
        rcases hl with hl | hl
        · exact .inl (.inl (.inl hl))
        · exact .inl (.inr hl))
      show 1 ≤ (List.take _ _).length
      rw [List.length_take, List.length_drop]; omega
    split at hy
    · cases hy
      show 1 ≤ (List.take _ _).length
      rw [List.length_take, List.length_drop]; omega
    split at hy
    · cases hy
      show 1 ≤ (List.take _ _).length
      rw [List.length_take, List.length_drop]; omega
    · cases hy
  have key : ∀ (f p : Nat) (out : List Tk), s.length ≤ 8192 → p ≤ s.length → out.length ≤ p → (tokC s f p out).1.length ≤ 8192 := by
    intro f
    induction f with
    | zero => intro p out hs hp h; exact Nat.le_trans h (by omega)
    | succ f ih =>
      intro p out hs hp h
      unfold tokC
      split
      · show out.length ≤ 8192; omega
      · split
        · rename_i n hn
          by_cases hq : p + n ≤ s.length
          · exact ih _ _ hs hq (by omega)
          · have e : ∀ g, tokC s g (p + n) out = (out, 0, 0) := fun g => tokC_end (by omega)
            rw [e]; show out.length ≤ 8192; omega
        · rename_i y hy
          have h1 := pos p y (by omega) hy
          have h2 := step_len hy
          rw [List.length_drop] at h2
          exact ih _ _ hs (by omega) (by rw [List.length_append, List.length_singleton]; omega)
        · exact Nat.zero_le _
  unfold tokF
  split
  · exact Nat.zero_le _
  · exact key _ _ _ (by omega) (Nat.zero_le _) (Nat.le_refl _)
def t77 : Tk := ⟨0, [], -77, 0⟩
end SX
end Go.Proofs.YthkedcneehdinaaGreatDoor

/- CondParses: the law's contract. Printed by cpl.py. -/
set_option linter.unusedVariables false
set_option maxRecDepth 100000
namespace Go.Proofs.YthkedcneehdinaaGreatDoor
namespace SX
open Go Go.Proofs
theorem able8_ok : CtrV Tryz.prog 29 [] (.b true) := CdAble_ok
theorem conds_nils : CtrV Tryz.prog 32 [.nils, .nils] (.b true) := call_V (by decide +kernel)
theorem cparse_short {f : List UInt8 → Int} {ts : List Tk} {cs : List Cn} (h : cparseF f ts = (cs, 0, 0)) : cs.length ≤ 32 := by
  unfold cparseF at h
  split at h
  · rename_i he
    cases h
    unfold cpS at he
    split at he
    · exact absurd he (failF_e (by decide))
    · omega
  · simp only [Prod.mk.injEq] at h
    rw [← h.1]; exact Nat.zero_le _
set_option maxHeartbeats 4000000 in
theorem condParses_ok (a : Int) (text : List UInt8) (_ : in64 a) (htl : text.length ≤ 2 ^ 47) : CtrV Tryz.prog 9 [.i .i64 a, .s text] (.b true) := by
  refine Ctr.enterV tabOkM (fn := Tryz.f9) rfl rfl rfl rfl rfl rfl ?_
  refine OpC.callV rfl rfl rfl rfl rfl rfl rfl (fun _ => able8_ok) ?_
  refine ⟨fun h => no_ft h, fun _ => ?_⟩
  refine OpC.callL rfl rfl rfl rfl [] 1 rfl rfl rfl (tokensI_ok text) rfl rfl rfl rfl trivial rfl (fun r H' hk => ?_) ?_
  · rcases hk with ⟨ts, ad, cap, B, h1, rfl, rfl⟩ | ⟨e, p, h1, he, rfl, rfl⟩
    · exact ⟨Nat.zero_le _, Nat.le_refl _⟩
    · exact ⟨Nat.zero_le _, Nat.zero_le _⟩
  rintro r H' (⟨ts, ad, cap, B, h1, rfl, rfl⟩ | ⟨e, p, h1, he, rfl, rfl⟩)
  rotate_left
  · refine ⟨fun _ => rfl, fun h => ?_⟩
    have h : (!decide (e = 0)) = false := h
    rw [decide_eq_false he] at h; cases h
  have hts : (tokF text).1 = ts := by rw [h1]
  have hw : WfA ts := by rw [← hts]; exact tok_wf text
  have hn : ts.length ≤ 8192 := by rw [← hts]; exact tok_count text
  have hl : ts.length ≤ 100000 := by omega
  refine ⟨fun h => no_ft h, fun _ => ?_⟩
  refine OpC.yld 1 rfl (yld_app_lit tabOkM rfl rfl rfl rfl rfl rfl rfl rfl (fun E => rfl) (SrcA.imm rfl rfl rfl) (p := 2) rfl Joins.nil (Nat.le_trans hn (by decide)) ?_) (fun d hd => by cases hd; rfl) ?_
  · exact tok_bytes _ hl
  refine OpC.yld 0 rfl (yld_app_row tabOkM rfl rfl rfl rfl rfl rfl rfl rfl rfl (SrcA.sl rfl rfl rfl rfl (by decide) rfl) (Joins.arrN (y := t77) rfl rfl tkenc_w) (by decide) (Nat.le_trans (show ts.length + 1 ≤ 8193 by omega) (by decide)) ?_) (fun d hd => by cases hd; rfl) ?_
  · exact tok_bytes _ (by omega)
  have hsl : ((1 + 1 = 1 + 1 ∧ 4 = 3 + 1 ∧ 0 < 3 + 1) ∧ 0 = 0 * 4 ∧ (0 + (ts.length + 1)) * 4 ≤ (ts.length + 1) * 4 + 0) ∧ (0 : Int) ≤ ts.length ∧ (ts.length : Int) ≤ ((ts.length + 1 : Nat) : Int) := by omega
  refine ⟨fun _ => hsl, ?_⟩
  refine OpC.still2 (enc := tkenc) (ys := ts ++ [t77]) (ys2 := ts) 8 40 (k := 2) (i := 0) (i2 := 0) (len := ts.length + 1) (len2 := ts.length) rfl rfl rfl (by decide) rfl (by decide) (by simp) (by omega) (by omega) tkw tkok (by rw [List.drop_zero, List.take_of_length_le (by simp)]) (by simp) fun ad1 cp1 ad2 cp2 => ?_
  by_cases ha : a = 1 ∨ a = 2 ∨ a = 3
  · refine OpC.callL rfl rfl rfl rfl [] 0 rfl rfl rfl (cparse_w a ha ts (some ad2) cp2 hl (fun h => by cases h)) rfl rfl rfl rfl trivial rfl (fun r H' hk => ?_) ?_
    · rcases hk with ⟨_, _, _, _, _, rfl⟩ | ⟨_, _, _, _, _, rfl⟩ <;> exact ⟨Nat.le_refl _, Nat.le_refl _⟩
    rintro r H' (⟨cs, ad3, cap3, hR, rfl, rfl⟩ | ⟨e, q, he, hR, rfl, rfl⟩)
    · have hcl : (cs.length : Int) < 9223372036854775807 := by have := cparse_short hR; omega
      refine OpC.callL rfl rfl rfl rfl [] 0 rfl rfl rfl (rcparse_w a ha ts hw ad cap hl) rfl rfl rfl rfl trivial rfl (fun r H' hk => ?_) ?_
      · rcases hk with ⟨_, _, _, _, _, rfl⟩ | ⟨_, _, _, _, _, rfl⟩ <;> exact ⟨Nat.le_refl _, Nat.le_refl _⟩
      rintro r H' (⟨cs2, ad4, cap4, hR2, rfl, rfl⟩ | ⟨e, q, he, hR2, rfl, rfl⟩)
      rotate_left
      · rw [cond_same hw, hR] at hR2; cases hR2; exact absurd rfl he
      obtain rfl : cs = cs2 := by rw [cond_same hw, hR] at hR2; cases hR2; rfl
      have hB : BndH 4 [.gone B, .gone 1, .gone 2, .mem 42 (tkenc t77) 1 0] := ⟨trivial, trivial, trivial, ⟨rfl, rfl, rfl, rfl, trivial⟩, trivial⟩
      refine WpC.loop tabOkM (β := Nat) (fun k => k ≤ ts.length) (fun k => [(15, .i .i64 k)]) (fun _ => [.gone B, .gone 1, .gone 2, .mem 42 (tkenc t77) 1 0]) (fun k => ts.length - k) 0 (2 ^ 89 - 2 ^ 15 + 2 ^ 4) (Nat.zero_le _) ?_ ?_
      · refine ⟨rfl, ⟨⟨rfl, rfl, rfl⟩, trivial⟩, ⟨[], rfl⟩, hB, rfl⟩
      · rintro k hk
        refine ⟨fun h2 => ?_, fun h2 => ?_⟩
        · have h2 : (k : Int) < (ts.length : Int) := of_decide_eq_true h2
          have h3 : k < ts.length := by omega
          have hg : (ts ++ [t77]).getD k tk0 = ts.getD k tk0 := by simp only [List.getD_eq_getElem?_getD]; rw [List.getElem?_append_left h3]
          refine WpC.dr tabOkM mixed 0 ?_
          have hix : (0 : Int) ≤ (k : Int) ∧ (k : Int) < ((ts ++ [t77]).length : Int) := by rw [List.length_append]; simp; omega
          have hit : (0 : Int) ≤ (k : Int) ∧ (k : Int) < (ts.length : Int) := by omega
          refine ⟨fun _ => hix, ?_⟩
          refine ⟨fun _ => hit, ?_⟩
          refine ⟨by kernel_rfl, ?_⟩
          refine ⟨fun h => ?_, fun _ => ?_⟩
          · have h : (!(decide (((ts ++ [t77]).getD k tk0).k = (ts.getD k tk0).k) && (decide (((ts ++ [t77]).getD k tk0).s = (ts.getD k tk0).s) && (decide (((ts ++ [t77]).getD k tk0).n = (ts.getD k tk0).n) && decide (((ts ++ [t77]).getD k tk0).a = (ts.getD k tk0).a))))) = true := h
            rw [hg] at h
            simp at h
          · refine ⟨k + 1, h3, by omega, Eq.trans (b := [.i .i64 a, .s text, .dead, .dead, .dead, .imm Tk tk0 4 tkenc ts ad cap, .i .i64 0, .i .i64 0, .imm Tk tk0 4 tkenc (ts ++ [t77]) (some ad1) cp1, .imm Cn cn0 5 cenc cs ad3 cap3, .i .i64 0, .i .i64 0, .imm Cn cn0 5 cenc cs ad4 cap4, .i .i64 0, .i .i64 0] ++ List.replicate 74 .dead) rfl rfl, ⟨⟨?_, rfl, rfl⟩, trivial⟩, ⟨[], rfl⟩, hB, rfl⟩
            show SV.i .i64 (IntKind.i64.wrap ((k : Int) + 1)) = SV.i .i64 ((k + 1 : Nat) : Int)
            rw [w64 (by omega) (by omega)]; rfl
        · have h2 : ¬ (k : Int) < (ts.length : Int) := of_decide_eq_false h2
          refine OpC.callV rfl rfl rfl rfl rfl rfl rfl (fun _ => conds_ok cs cs ad3 cap3 ad4 cap4 hcl) ?_
          have hix : (0 : Int) ≤ ts.length ∧ (ts.length : Int) < ((ts ++ [t77]).length : Int) := by rw [List.length_append]; simp; omega
          refine ⟨fun _ => hix, ?_⟩
          refine b_cg ?_
          show ((((decide (cs = cs) && decide ((0 : Int) = 0)) && decide ((0 : Int) = 0)) && decide (((ts ++ [t77]).getD ts.length tk0).n = -77))) = true
          simp [List.getD_eq_getElem?_getD, t77]
    · refine OpC.callL rfl rfl rfl rfl [] 0 rfl rfl rfl (rcparse_w a ha ts hw ad cap hl) rfl rfl rfl rfl trivial rfl (fun r H' hk => ?_) ?_
      · rcases hk with ⟨_, _, _, _, _, rfl⟩ | ⟨_, _, _, _, _, rfl⟩ <;> exact ⟨Nat.le_refl _, Nat.le_refl _⟩
      rintro r H' (⟨cs2, ad4, cap4, hR2, rfl, rfl⟩ | ⟨e2, q2, he2, hR2, rfl, rfl⟩)
      · rw [cond_same hw, hR] at hR2; cases hR2; exact absurd rfl he
      obtain ⟨rfl, rfl⟩ : e = e2 ∧ q = q2 := by rw [cond_same hw, hR] at hR2; cases hR2; exact ⟨rfl, rfl⟩
      have hB : BndH 4 [.gone B, .gone 1, .gone 2, .mem 42 (tkenc t77) 1 0] := ⟨trivial, trivial, trivial, ⟨rfl, rfl, rfl, rfl, trivial⟩, trivial⟩
      refine WpC.loop tabOkM (β := Nat) (fun k => k ≤ ts.length) (fun k => [(15, .i .i64 k)]) (fun _ => [.gone B, .gone 1, .gone 2, .mem 42 (tkenc t77) 1 0]) (fun k => ts.length - k) 0 (2 ^ 89 - 2 ^ 15 + 2 ^ 4) (Nat.zero_le _) ?_ ?_
      · refine ⟨rfl, ⟨⟨rfl, rfl, rfl⟩, trivial⟩, ⟨[], rfl⟩, hB, rfl⟩
      · rintro k hk
        refine ⟨fun h2 => ?_, fun h2 => ?_⟩
        · have h2 : (k : Int) < (ts.length : Int) := of_decide_eq_true h2
          have h3 : k < ts.length := by omega
          have hg : (ts ++ [t77]).getD k tk0 = ts.getD k tk0 := by simp only [List.getD_eq_getElem?_getD]; rw [List.getElem?_append_left h3]
          refine WpC.dr tabOkM mixed 0 ?_
          have hix : (0 : Int) ≤ (k : Int) ∧ (k : Int) < ((ts ++ [t77]).length : Int) := by rw [List.length_append]; simp; omega
          have hit : (0 : Int) ≤ (k : Int) ∧ (k : Int) < (ts.length : Int) := by omega
          refine ⟨fun _ => hix, ?_⟩
          refine ⟨fun _ => hit, ?_⟩
          refine ⟨by kernel_rfl, ?_⟩
          refine ⟨fun h => ?_, fun _ => ?_⟩
          · have h : (!(decide (((ts ++ [t77]).getD k tk0).k = (ts.getD k tk0).k) && (decide (((ts ++ [t77]).getD k tk0).s = (ts.getD k tk0).s) && (decide (((ts ++ [t77]).getD k tk0).n = (ts.getD k tk0).n) && decide (((ts ++ [t77]).getD k tk0).a = (ts.getD k tk0).a))))) = true := h
            rw [hg] at h
            simp at h
          · refine ⟨k + 1, h3, by omega, Eq.trans (b := [.i .i64 a, .s text, .dead, .dead, .dead, .imm Tk tk0 4 tkenc ts ad cap, .i .i64 0, .i .i64 0, .imm Tk tk0 4 tkenc (ts ++ [t77]) (some ad1) cp1, .nils, .i .i64 e, .i .i64 q, .nils, .i .i64 e, .i .i64 q] ++ List.replicate 74 .dead) rfl rfl, ⟨⟨?_, rfl, rfl⟩, trivial⟩, ⟨[], rfl⟩, hB, rfl⟩
            show SV.i .i64 (IntKind.i64.wrap ((k : Int) + 1)) = SV.i .i64 ((k + 1 : Nat) : Int)
            rw [w64 (by omega) (by omega)]; rfl
        · have h2 : ¬ (k : Int) < (ts.length : Int) := of_decide_eq_false h2
          refine OpC.callV rfl rfl rfl rfl rfl rfl rfl (fun _ => conds_nils) ?_
          have hix : (0 : Int) ≤ ts.length ∧ (ts.length : Int) < ((ts ++ [t77]).length : Int) := by rw [List.length_append]; simp; omega
          refine ⟨fun _ => hix, ?_⟩
          refine b_cg ?_
          show (((true && decide (e = e)) && decide (q = q)) && decide (((ts ++ [t77]).getD ts.length tk0).n = -77)) = true
          simp [List.getD_eq_getElem?_getD, t77]
  · refine OpC.callV rfl rfl rfl rfl rfl rfl rfl (fun _ => cparse_other a ha ts (some ad2) cp2) ?_
    refine OpC.callV rfl rfl rfl rfl rfl rfl rfl (fun _ => rcparse_other a ha ts ad cap) ?_
    have hB : BndH 4 [.gone B, .gone 1, .gone 2, .mem 42 (tkenc t77) 1 0] := ⟨trivial, trivial, trivial, ⟨rfl, rfl, rfl, rfl, trivial⟩, trivial⟩
    refine WpC.loop tabOkM (β := Nat) (fun k => k ≤ ts.length) (fun k => [(15, .i .i64 k)]) (fun _ => [.gone B, .gone 1, .gone 2, .mem 42 (tkenc t77) 1 0]) (fun k => ts.length - k) 0 (2 ^ 89 - 2 ^ 15 + 2 ^ 4) (Nat.zero_le _) ?_ ?_
    · refine ⟨rfl, ⟨⟨rfl, rfl, rfl⟩, trivial⟩, ⟨[], rfl⟩, hB, rfl⟩
    · rintro k hk
      refine ⟨fun h2 => ?_, fun h2 => ?_⟩
      · have h2 : (k : Int) < (ts.length : Int) := of_decide_eq_true h2
        have h3 : k < ts.length := by omega
        have hg : (ts ++ [t77]).getD k tk0 = ts.getD k tk0 := by simp only [List.getD_eq_getElem?_getD]; rw [List.getElem?_append_left h3]
        refine WpC.dr tabOkM mixed 0 ?_
        have hix : (0 : Int) ≤ (k : Int) ∧ (k : Int) < ((ts ++ [t77]).length : Int) := by rw [List.length_append]; simp; omega
        have hit : (0 : Int) ≤ (k : Int) ∧ (k : Int) < (ts.length : Int) := by omega
        refine ⟨fun _ => hix, ?_⟩
        refine ⟨fun _ => hit, ?_⟩
        refine ⟨by kernel_rfl, ?_⟩
        refine ⟨fun h => ?_, fun _ => ?_⟩
        · have h : (!(decide (((ts ++ [t77]).getD k tk0).k = (ts.getD k tk0).k) && (decide (((ts ++ [t77]).getD k tk0).s = (ts.getD k tk0).s) && (decide (((ts ++ [t77]).getD k tk0).n = (ts.getD k tk0).n) && decide (((ts ++ [t77]).getD k tk0).a = (ts.getD k tk0).a))))) = true := h
          rw [hg] at h
          simp at h
        · refine ⟨k + 1, h3, by omega, Eq.trans (b := [.i .i64 a, .s text, .dead, .dead, .dead, .imm Tk tk0 4 tkenc ts ad cap, .i .i64 0, .i .i64 0, .imm Tk tk0 4 tkenc (ts ++ [t77]) (some ad1) cp1, .nils, .i .i64 36, .i .i64 0, .nils, .i .i64 36, .i .i64 0] ++ List.replicate 74 .dead) rfl rfl, ⟨⟨?_, rfl, rfl⟩, trivial⟩, ⟨[], rfl⟩, hB, rfl⟩
          show SV.i .i64 (IntKind.i64.wrap ((k : Int) + 1)) = SV.i .i64 ((k + 1 : Nat) : Int)
          rw [w64 (by omega) (by omega)]; rfl
      · have h2 : ¬ (k : Int) < (ts.length : Int) := of_decide_eq_false h2
        refine OpC.callV rfl rfl rfl rfl rfl rfl rfl (fun _ => conds_nils) ?_
        have hix : (0 : Int) ≤ ts.length ∧ (ts.length : Int) < ((ts ++ [t77]).length : Int) := by rw [List.length_append]; simp; omega
        refine ⟨fun _ => hix, ?_⟩
        refine b_cg ?_
        show (((true && decide ((36 : Int) = (36 : Int))) && decide ((0 : Int) = (0 : Int))) && decide (((ts ++ [t77]).getD ts.length tk0).n = -77)) = true
        simp [List.getD_eq_getElem?_getD, t77]
end SX
end Go.Proofs.YthkedcneehdinaaGreatDoor

/- CondParses: the row. Written by row.py. -/
set_option linter.unusedVariables false
set_option linter.unusedSimpArgs false
set_option maxRecDepth 100000
namespace Go.Proofs.YthkedcneehdinaaGreatDoor
open Go Go.ChangeShapes Go.WideShapes Go.ChangeAt Go.RowKit
theorem params_in : ∀ t ∈ Tryz.f9.params.toList, t < Tryz.prog.types.size := by
  have : (Tryz.f9.params.toList.all fun t => Nat.blt t Tryz.prog.types.size) = true := by kernel_rfl
  exact fun t ht => Nat.le_of_ble_eq_true (List.all_eq_true.1 this t ht)
theorem door_met (os : Os) (args : Array Value) : laidMetH Tryz.prog Rows.condParsesRow.laid ((World.doorLaid Tryz.prog 400 os).forCall (fun _ _ => 0) ⟨#[], args, []⟩).memory :=
  laidMetH_of_parts3 (fuel := 8) (laidMet_of_run' 8 (by kernel_rfl) (by kernel_rfl)) (by kernel_rfl) (by kernel_rfl)
theorem lifted (os : Os) (started : os.Started) (H : Type) (enc : TypeId × Value → H) :
    ReturnsInHanded {} Tryz.checked os 9 .any (fun w args => (Rows.condParsesSpec.pre enc Tryz.prog Tryz.f9 [] false w args ∧ laidMetH Tryz.prog Rows.condParsesRow.laid w) ∧ sizedMet enc Tryz.prog Tryz.f9 (OpenSpec.ofChange Rows.condParsesSpec) false w args)
      (Rows.condParsesSpec.post enc Tryz.prog Tryz.f9 false true false false) := by
  refine SX.returns_shaped (C := Tryz.checked) (X := fun w _ => laidMetH Tryz.prog Rows.condParsesRow.laid w) (fun _ _ _ hh h => h.of_heap hh) own started (by kernel_rfl) Tryz.func9
    (ChangeSpec.witness_shaped (enc := enc) (C := Tryz.checked) (os := os) (X := fun w _ => laidMetH Tryz.prog Rows.condParsesRow.laid w) false (World.doorLaid Tryz.prog 400 os) #[.int .i64 0, .string ⟨#[]⟩] 8 rfl (World.shaped_of_RefB (by kernel_rfl) (by kernel_rfl)) (by kernel_rfl) (by kernel_rfl) (by kernel_rfl) (door_met os _)) ?_
  intro W base args ds gs before hval0 hW hz hL hSh
  have hval : ∀ (j : Nat) t v, Tryz.f9.params[j]? = some t → args[j]? = some v → Value.okWide Tryz.prog W .any base t v := hval0
  have hW' := hW
  obtain ⟨p, q, hA0, hV, rfl, hfz, hnd⟩ := hW
  have hA : DataW.TrodAll enc Tryz.prog W 0 (fun _ => true) true Tryz.f9.params.toList args.toList ds p := hA0
  rw [Tryz.params9] at hA hval
  obtain ⟨v0, v1, d0, d1, p0, p1, rfl, rfl, rfl, h0, h1⟩ := trodAll_two hA
  obtain ⟨rfl, rfl⟩ := trodVars_none hV
  obtain ⟨x0, rfl, _, _, w0⟩ := open_int Tryz.underlying3 (hval 0 _ v0 rfl rfl) h0
  obtain ⟨s1, rfl, e1, _, _⟩ := Go.ChangeMaps.open_string Tryz.underlying9 (hval 1 _ v1 rfl rfl) h1
  have w1 := sized_string hz (j := 1) rfl (congrArg some e1)
  clear hA0 hval0
  have hT := SX.tabsIn_row hL rfl hSh (List.mem_of_getElem? (i := 0) rfl) (List.mem_of_getElem? (i := 1) rfl) (List.mem_of_getElem? (i := 2) rfl) (List.mem_of_getElem? (i := 3) rfl) (List.mem_of_getElem? (i := 4) rfl) (List.mem_of_getElem? (i := 6) rfl) (by kernel_rfl) (by kernel_rfl) (by kernel_rfl) (by kernel_rfl) (by kernel_rfl) (by kernel_rfl)
  refine (SX.law_callsM (args := [.i .i64 x0, .s s1.data.toList]) Tryz.func9 rfl rfl (SX.condParses_ok x0 s1.data.toList (SX.wf64 w0) (Nat.le_of_lt (Nat.lt_of_le_of_lt w1 reachBytes_lt))) W hT (fun _ => false) ?_ (by simp [SX.den, SX.denL, SX.wrapV, SX.cells])).mono fun e W' ⟨he, hk, ho, hu⟩ => ?_
  · exact ⟨⟨rfl, trivial⟩, ⟨rfl, trivial⟩, trivial⟩
  subst he
  exact ⟨_, rfl, SX.post_kept hk compsOk params_in (fun n hn => by cases hn) hW' ho hu rfl rfl rfl (fun _ _ _ => trodAll_mk1 (shut_bool Tryz.underlying4 _)) (ok_one (by kernel_rfl) rfl (okWide_bool_mk Tryz.underlying4 _))⟩
theorem fact0 : (fun (P : Program) (f : FuncId) (fn : Func) (s : ChangeSpec) (c : OpenClaim) => c.wf (OpenSpec.ofChange s)) Tryz.prog 9 Tryz.f9 Rows.condParsesSpec Rows.condParsesRow = true := by kernel_rfl
theorem fact1 : (fun (P : Program) (f : FuncId) (fn : Func) (s : ChangeSpec) (c : OpenClaim) => laidOutB P) Tryz.prog 9 Tryz.f9 Rows.condParsesSpec Rows.condParsesRow = true := by kernel_rfl
theorem fact2 : (fun (P : Program) (f : FuncId) (fn : Func) (s : ChangeSpec) (c : OpenClaim) => mapsRowed P) Tryz.prog 9 Tryz.f9 Rows.condParsesSpec Rows.condParsesRow = true := by kernel_rfl
theorem fact3 : (fun (P : Program) (f : FuncId) (fn : Func) (s : ChangeSpec) (c : OpenClaim) => fn.params.all (P.readableRec ·)) Tryz.prog 9 Tryz.f9 Rows.condParsesSpec Rows.condParsesRow = true := by kernel_rfl
theorem fact4 : (fun (P : Program) (f : FuncId) (fn : Func) (s : ChangeSpec) (c : OpenClaim) => namedTie P c.named s.vars) Tryz.prog 9 Tryz.f9 Rows.condParsesSpec Rows.condParsesRow = true := by kernel_rfl
theorem fact5 : (fun (P : Program) (f : FuncId) (fn : Func) (s : ChangeSpec) (c : OpenClaim) => (c.stops == [])) Tryz.prog 9 Tryz.f9 Rows.condParsesSpec Rows.condParsesRow = true := by kernel_rfl
theorem fact6 : (fun (P : Program) (f : FuncId) (fn : Func) (s : ChangeSpec) (c : OpenClaim) => (P.stops == [])) Tryz.prog 9 Tryz.f9 Rows.condParsesSpec Rows.condParsesRow = true := by kernel_rfl
theorem fact7 : (fun (P : Program) (f : FuncId) (fn : Func) (s : ChangeSpec) (c : OpenClaim) => (c.knobs == [])) Tryz.prog 9 Tryz.f9 Rows.condParsesSpec Rows.condParsesRow = true := by kernel_rfl
theorem fact8 : (fun (P : Program) (f : FuncId) (fn : Func) (s : ChangeSpec) (c : OpenClaim) => (P.stopKnobs == [])) Tryz.prog 9 Tryz.f9 Rows.condParsesSpec Rows.condParsesRow = true := by kernel_rfl
theorem fact9 : (fun (P : Program) (f : FuncId) (fn : Func) (s : ChangeSpec) (c : OpenClaim) => (c.inPlace == P.inPlace f)) Tryz.prog 9 Tryz.f9 Rows.condParsesSpec Rows.condParsesRow = true := by kernel_rfl
theorem fact10 : (fun (P : Program) (f : FuncId) (fn : Func) (s : ChangeSpec) (c : OpenClaim) => (c.unfollowed == P.unfollowed f)) Tryz.prog 9 Tryz.f9 Rows.condParsesSpec Rows.condParsesRow = true := by kernel_rfl
theorem fact11 : (fun (P : Program) (f : FuncId) (fn : Func) (s : ChangeSpec) (c : OpenClaim) => (c.recurses == P.recurses f)) Tryz.prog 9 Tryz.f9 Rows.condParsesSpec Rows.condParsesRow = true := by kernel_rfl
theorem fact12 : (fun (P : Program) (f : FuncId) (fn : Func) (s : ChangeSpec) (c : OpenClaim) => (c.named == P.varsNamed f)) Tryz.prog 9 Tryz.f9 Rows.condParsesSpec Rows.condParsesRow = true := by kernel_rfl
theorem fact13 : (fun (P : Program) (f : FuncId) (fn : Func) (s : ChangeSpec) (c : OpenClaim) => (c.maps == (fn.params.toList ++ s.plain.varTypes P).any (P.mapsRec ·))) Tryz.prog 9 Tryz.f9 Rows.condParsesSpec Rows.condParsesRow = true := by kernel_rfl
theorem fact14 : (fun (P : Program) (f : FuncId) (fn : Func) (s : ChangeSpec) (c : OpenClaim) => (c.ifaces == (fn.params.toList ++ s.plain.varTypes P).any (P.ifacesRec ·))) Tryz.prog 9 Tryz.f9 Rows.condParsesSpec Rows.condParsesRow = true := by kernel_rfl
theorem fact15 : (fun (P : Program) (f : FuncId) (fn : Func) (s : ChangeSpec) (c : OpenClaim) => (c.mapsOut == P.mapsAmong fn.resultTypes.toList)) Tryz.prog 9 Tryz.f9 Rows.condParsesSpec Rows.condParsesRow = true := by kernel_rfl
theorem fact16 : (fun (P : Program) (f : FuncId) (fn : Func) (s : ChangeSpec) (c : OpenClaim) => (c.loops == (fn.params.toList ++ s.plain.varTypes P).any (P.loopsFrom ·))) Tryz.prog 9 Tryz.f9 Rows.condParsesSpec Rows.condParsesRow = true := by kernel_rfl
theorem fact17 : (fun (P : Program) (f : FuncId) (fn : Func) (s : ChangeSpec) (c : OpenClaim) => (c.wideKeys == (fn.params.toList ++ s.plain.varTypes P ++ fn.resultTypes.toList).any (P.wideKeysFrom ·))) Tryz.prog 9 Tryz.f9 Rows.condParsesSpec Rows.condParsesRow = true := by kernel_rfl
theorem fact18 : (fun (P : Program) (f : FuncId) (fn : Func) (s : ChangeSpec) (c : OpenClaim) => s.vars.all (P.varReadable ·)) Tryz.prog 9 Tryz.f9 Rows.condParsesSpec Rows.condParsesRow = true := by kernel_rfl
theorem fact19 : (fun (P : Program) (f : FuncId) (fn : Func) (s : ChangeSpec) (c : OpenClaim) => fn.resultTypes.all (fun t => P.readableRec t && decide (t < P.types.size))) Tryz.prog 9 Tryz.f9 Rows.condParsesSpec Rows.condParsesRow = true := by kernel_rfl
theorem fact20 : (fun (P : Program) (f : FuncId) (fn : Func) (s : ChangeSpec) (c : OpenClaim) => (c.ifacesOut == fn.resultTypes.toList.any (P.ifacesRec ·))) Tryz.prog 9 Tryz.f9 Rows.condParsesSpec Rows.condParsesRow = true := by kernel_rfl
theorem fact21 : (fun (P : Program) (f : FuncId) (fn : Func) (s : ChangeSpec) (c : OpenClaim) => (c.loopsOut == fn.resultTypes.toList.any (P.loopsFrom ·))) Tryz.prog 9 Tryz.f9 Rows.condParsesSpec Rows.condParsesRow = true := by kernel_rfl
theorem fact22 : (fun (P : Program) (f : FuncId) (fn : Func) (s : ChangeSpec) (c : OpenClaim) => (c.plainKeys == P.plainKeys)) Tryz.prog 9 Tryz.f9 Rows.condParsesSpec Rows.condParsesRow = true := by kernel_rfl
theorem fact23 : (fun (P : Program) (f : FuncId) (fn : Func) (s : ChangeSpec) (c : OpenClaim) => c.shortTexts.isNone) Tryz.prog 9 Tryz.f9 Rows.condParsesSpec Rows.condParsesRow = true := by kernel_rfl
theorem fact24 : (fun (P : Program) (f : FuncId) (fn : Func) (s : ChangeSpec) (c : OpenClaim) => P.stopsHeard) Tryz.prog 9 Tryz.f9 Rows.condParsesSpec Rows.condParsesRow = true := by kernel_rfl
theorem fact25 : (fun (P : Program) (f : FuncId) (fn : Func) (s : ChangeSpec) (c : OpenClaim) => P.mayEnter) Tryz.prog 9 Tryz.f9 Rows.condParsesSpec Rows.condParsesRow = true := by kernel_rfl
theorem fact26 : (fun (P : Program) (f : FuncId) (fn : Func) (s : ChangeSpec) (c : OpenClaim) => (c.lifted == P.liftsFinal)) Tryz.prog 9 Tryz.f9 Rows.condParsesSpec Rows.condParsesRow = true := by kernel_rfl
theorem fact27 : (fun (P : Program) (f : FuncId) (fn : Func) (s : ChangeSpec) (c : OpenClaim) => (P.make == some c.make)) Tryz.prog 9 Tryz.f9 Rows.condParsesSpec Rows.condParsesRow = true := by kernel_rfl
theorem fact28 : (fun (P : Program) (f : FuncId) (fn : Func) (s : ChangeSpec) (c : OpenClaim) => (c.kinds == (if c.domain.isEmpty then [] else fn.params.toList.map fun t => match P.underlying t with | some (.int k) => some k | _ => none))) Tryz.prog 9 Tryz.f9 Rows.condParsesSpec Rows.condParsesRow = true := by kernel_rfl
theorem fact29 : (fun (P : Program) (f : FuncId) (fn : Func) (s : ChangeSpec) (c : OpenClaim) => (c.pinned == c.pinnedBy)) Tryz.prog 9 Tryz.f9 Rows.condParsesSpec Rows.condParsesRow = true := by kernel_rfl
theorem fact30 : (fun (P : Program) (f : FuncId) (fn : Func) (s : ChangeSpec) (c : OpenClaim) => (c.veiled == (fn.params.toList ++ s.plain.varTypes P ++ fn.resultTypes.toList).any (P.veiledRec ·))) Tryz.prog 9 Tryz.f9 Rows.condParsesSpec Rows.condParsesRow = true := by kernel_rfl
theorem fact31 : (fun (P : Program) (f : FuncId) (fn : Func) (s : ChangeSpec) (c : OpenClaim) => c.veiledFits P fn.params.toList (fn.params.toList ++ s.plain.varTypes P ++ fn.resultTypes.toList)) Tryz.prog 9 Tryz.f9 Rows.condParsesSpec Rows.condParsesRow = true := by kernel_rfl
theorem facts : joinedFacts Tryz.prog 9 Tryz.f9 Rows.condParsesSpec Rows.condParsesRow = true := facts_of fact0 fact1 fact2 fact3 fact4 fact5 fact6 fact7 fact8 fact9 fact10 fact11 fact12 fact13 fact14 fact15 fact16 fact17 fact18 fact19 fact20 fact21 fact22 fact23 fact24 fact25 fact26 fact27 fact28 fact29 fact30 fact31
theorem fnamed : Tryz.prog.funcNamed "belated/belatedlaw8.CondParses" = some 9 := by kernel_rfl
theorem instOk : Tryz.f9.isInstance Tryz.prog Rows.condParsesRow.origin Rows.condParsesRow.targs := of_decide_eq_true (by kernel_rfl)
theorem wrapOk : Tryz.f9.isWrapper Tryz.prog Rows.condParsesRow.wrapper Rows.condParsesRow.mainSum := by
  unfold Func.isWrapper; first | (rw [if_pos (by decide +kernel)]; kernel_rfl) | (rw [if_neg (by decide +kernel)]; exact ⟨rfl, rfl⟩)
theorem condParses_holds : Rows.CondParsesSaid :=
  OpenClaim.holds_of_wide 9 Tryz.f9 rfl rfl rfl rfl rfl rfl rfl ⟨rfl, rfl, rfl, rfl, rfl⟩ rfl rfl rfl rfl rfl fnamed Tryz.func9 facts instOk wrapOk
    (fun os started H enc _ => lifted os started H enc)
theorem wfText : Rows.condParsesRow.wfByText (OpenSpec.ofChange Rows.condParsesSpec) = true := by kernel_rfl
theorem mainOk : Tryz.prog.mainIs = some (true, "ee5e4f0b19a504e36959d0abf6e8593140e78c9cabcc708e7bd1f2ba571561a3".toList) := by kernel_rfl
theorem looksOk : true = Tryz.prog.looks [] := by kernel_rfl
theorem standOk : ([3, 9].all fun u => !Tryz.prog.wantsStandIn u) = true := by kernel_rfl
theorem goesOk : false = Rows.condParsesRow.goesBy Tryz.prog := by kernel_rfl
theorem condParses_card : Rows.CondParsesCardSaid :=
  Claim7.holds_tied_plain_at .later [] [.data, .data, .data, .sentinel, .sentinel, .listed, .data] true (true, "ee5e4f0b19a504e36959d0abf6e8593140e78c9cabcc708e7bd1f2ba571561a3") true
    condParses_holds (fun _ h => by cases h) wfText (fun _ h => by cases h) condParses_row_tie rfl ⟨rfl, rfl⟩ mainOk rfl
    (fun f fn hf hfn => by
      obtain rfl : f = 9 := Option.some.inj (fnamed.symm.trans hf) |>.symm
      obtain rfl : fn = Tryz.f9 := (Option.some.inj (Tryz.func9.symm.trans hfn)).symm
      exact ⟨looksOk, fun j t ht => by
        have ht : [3, 9].toArray[j]? = some t := by rw [Tryz.params9] at ht; exact ht
        have hm : t ∈ [3, 9] := by simpa using Array.mem_of_getElem? ht
        exact (show Tryz.prog.wantsStandIn t = false by simpa using List.all_eq_true.1 standOk t hm)⟩)
    goesOk
#print axioms condParses_card
end Go.Proofs.YthkedcneehdinaaGreatDoor
