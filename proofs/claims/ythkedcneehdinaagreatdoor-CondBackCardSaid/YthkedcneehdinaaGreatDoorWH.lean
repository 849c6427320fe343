/- CondBack: what is printed of a condition is parsed as it was; what was parsed is a condition, and printed and parsed again it is the same. -/
import Derived.Test.YthkedcneehdinaaGreatDoorRows
import Derived.ProofKit
import Derived.LaidMore
import Derived.OpenShut
import Derived.Stop.Joined
import Derived.Carry
import Derived.SizedLaws
import Derived.ChangeMaps5
import Derived.JoinedOf
import Derived.Test.YthkedcneehdinaaGreatDoorCards
import Derived.Test.YthkedcneehdinaaGreatDoorTie
import Derived.SevenTiedAt
import Derived.Test.YthkedcneehdinaaGreatDoorWG
set_option linter.unusedVariables false
set_option linter.unusedSimpArgs false
set_option linter.unusedSectionVars false
/- Readers of words: a new reader; names of functions, sizes. -/
set_option linter.unusedVariables false
set_option maxRecDepth 100000
namespace Go.Proofs.YthkedcneehdinaaGreatDoor
namespace SX
open Go Go.Proofs
/-- A row that is handed back stays. -/
theorem Cp.row1 {α : Type} {d : α} {n : Nat} {enc : α → List SV} {X : List Value → World → (Value → World → Prop) → Prop} (hX : XMono X) {args : List SV} {H : List SB} {ty : TypeId} {g k : Nat} (hn : n = g + 1) (hw : ∀ x, wdL (enc x) = n) (hok : ∀ x m, OkL m [] (enc x)) {K : SV → List SB → Prop}
    (h : Cp X args H (fun r h => ∃ (xs : List α) (ver : Nat), r = .sl k ver 0 xs.length none 0 ∧ h[k]? = some (.mem ty [.arr xs.length α d n enc xs] ver n) ∧ ver ≠ 0 ∧ ∀ ad cap, K (.imm α d n enc xs (some ad) cap) (h.set k (.gone ver)))) : Cp X args H K := by
  subst hn
  refine ⟨fun C E m w hr ha => hX _ _ _ _ (h.out C E m w hr ha) fun v w' ⟨r, H', E', m', h1, ⟨xs, ver, e, hk, hv, hK⟩, h3, h4, h5⟩ => ?_⟩
  subst e
  have hrep : Rep E' C m' ⟨[.sl k ver 0 xs.length none 0], H'⟩ ⟨#[den E' (.sl k ver 0 xs.length none 0)], []⟩ w' :=
    ⟨rfl, fun q x u hx hu => by
      rcases q with _ | q
      · simp at hx hu; subst hx; subst hu
        exact ⟨h3.1, rfl⟩
      · simp at hx, rfl, h5⟩
  obtain ⟨m2, b, c, e1, e2, e3⟩ := still_base (k := k) hrep hk rfl hv hw hok
  obtain ⟨ad, cap, e4⟩ := still_slot (j := 0) (i := 0) (len := xs.length) e2 e3 rfl hw hok (by simp) (by omega)
  have e5 := e4.sl 0 _ _ rfl rfl
  simp only [List.drop_zero, List.take_length] at e5
  have e6 : Ok m2 (vers (H'.set k (.gone ver))) (.imm α d (g + 1) enc xs (some ad) cap) ∧ den E' (.sl k ver 0 xs.length none 0) = den E' (.imm α d (g + 1) enc xs (some ad) cap) := e5
  exact ⟨_, _, E', m2, h1.trans e6.2, hK ad cap, ⟨e6.1, rfl⟩, h4.trans e1, e4.rel⟩
/-- nil, as a row that stays. -/
theorem Cp.nil1 {α : Type} {d : α} {n : Nat} {enc : α → List SV} {X : List Value → World → (Value → World → Prop) → Prop} (hX : XMono X) {args : List SV} {H : List SB} (hw : ∀ x, wdL (enc x) = n) {K : SV → List SB → Prop}
    (h : Cp X args H (fun r h => r = .nils ∧ K (.imm α d n enc [] none 0) h)) : Cp X args H K := by
  refine ⟨fun C E m w hr ha => hX _ _ _ _ (h.out C E m w hr ha) fun v w' ⟨r, H', E', m', h1, ⟨e, hK⟩, h3, h4, h5⟩ => ?_⟩
  subst e
  refine ⟨_, H', E', m', ?_, hK, ⟨?_, rfl⟩, h4, h5⟩
  · rw [h1]; simp [den, wrapV, cells]
  · simp only [Ok]
    exact ⟨Nat.le_refl _, fun hh => absurd rfl hh, hw, fun j hj => absurd hj (Nat.not_lt_zero _)⟩
theorem tok_bytes (n : Nat) (h : n ≤ 100000) : n * 40 ≤ 140737488355328 := by omega
/-- A copy of words stays. -/
theorem clone_tk (ts : List Tk) (ad : Option Addr) (cap : Nat) (hl : ts.length ≤ 100000) (hn : ad = none → ts = []) : Ctr Tryz.prog 187 [.imm Tk tk0 4 tkenc ts ad cap] [] (fun r h => (∃ ad' cap', r = .imm Tk tk0 4 tkenc ts ad' cap') ∧ ∃ X, h = X) := by
  cases ad with
  | none =>
    obtain rfl := hn rfl
    refine Cp.nil1 (α := Tk) (d := tk0) (n := 4) (enc := tkenc) callX_m tkw ?_
    refine Ctr.enter tabOkF (fn := Tryz.f187) rfl rfl rfl rfl rfl ?_
    refine ⟨fun _ => ?_, fun h => no_tf h⟩
    exact ⟨rfl, ⟨_, _, rfl⟩, _, rfl⟩
  | some ad =>
    refine Cp.row1 (α := Tk) (d := tk0) (enc := tkenc) (n := 4) (g := 3) (k := 1) (ty := 42) callX_m rfl tkw tkok ?_
    refine Ctr.enter tabOkF (fn := Tryz.f187) rfl rfl rfl rfl rfl ?_
    refine ⟨fun h => no_ft h, fun _ => ?_⟩
    refine OpC.yld 1 rfl (yld_app_lit tabOkF rfl rfl rfl rfl rfl rfl rfl rfl (fun E => rfl) (SrcA.imm rfl rfl rfl) (p := 1) rfl Joins.nil (Nat.le_trans hl (by decide)) ?_) (fun d hd => by cases hd; rfl) ?_
    · exact tok_bytes _ hl
    exact ⟨ts, 1, rfl, rfl, by decide, fun ad' cap' => ⟨⟨ad', cap', rfl⟩, _, rfl⟩⟩
theorem clone_tk0 (ts : List Tk) (ad : Option Addr) (cap : Nat) (hl : ts.length ≤ 100000) (hn : ad = none → ts = []) : Ctr Tryz.prog 187 [.imm Tk tk0 4 tkenc ts ad cap] [] (fun r h => (∃ ad' cap', r = .imm Tk tk0 4 tkenc ts ad' cap') ∧ h = []) :=
  (clone_tk ts ad cap hl hn).trim callX_m fun r H1 ⟨⟨a, c, h1⟩, _⟩ => ⟨[], H1, rfl, Nat.le_refl _, trivial, by rw [h1]; rfl, ⟨a, c, h1⟩, rfl⟩
theorem new_w (ts : List Tk) (ad : Option Addr) (cap : Nat) (hl : ts.length ≤ 100000) (hn : ad = none → ts = []) : Ctr Tryz.prog 123 [.imm Tk tk0 4 tkenc ts ad cap] [] (fun r h => r = .ptr 0 1 0 [] ∧ ∃ ad' cap', h = [curB ts ad' cap' 0]) := by
  have key : Ctr Tryz.prog 123 [.imm Tk tk0 4 tkenc ts ad cap] [] (fun r h => r = .ptr 0 1 0 [] ∧ ∃ ad' cap' X, h = curB ts ad' cap' 0 :: X) := by
    refine Ctr.enter tabOkF (fn := Tryz.f123) rfl rfl rfl rfl rfl ?_
    refine OpC.callL rfl rfl rfl rfl [] 0 rfl rfl rfl (clone_tk0 ts ad cap hl hn) rfl rfl rfl rfl trivial rfl (fun r H' hk => ?_) ?_
    · rw [hk.2]; exact ⟨Nat.le_refl _, Nat.le_refl _⟩
    rintro r H' ⟨⟨ad', cap', rfl⟩, rfl⟩
    exact ⟨rfl, ad', cap', [], rfl⟩
  exact key.trim callX_m fun r H1 ⟨h1, ad', cap', X, h2⟩ => ⟨[curB ts ad' cap' 0], X, h2, Nat.zero_le _, ⟨bndCur, trivial⟩, by rw [h1]; rfl, h1, ad', cap', rfl⟩
end SX
end Go.Proofs.YthkedcneehdinaaGreatDoor

/- x86: functions' names. Cut from XPr. -/
set_option linter.unusedVariables false
set_option maxRecDepth 100000
namespace Go.Proofs.YthkedcneehdinaaGreatDoor
namespace SX
open Go Go.Proofs
end SX
end Go.Proofs.YthkedcneehdinaaGreatDoor

/- x86: an instruction read. Written by pwg.py. -/
set_option linter.unusedVariables false
set_option maxRecDepth 100000
namespace Go.Proofs.YthkedcneehdinaaGreatDoor
namespace SX
open Go Go.Proofs
variable {c : Rc} {s : RS}
end SX
end Go.Proofs.YthkedcneehdinaaGreatDoor

/- An instruction parsed: the program's. Written by pwh.py. -/
set_option linter.unusedVariables false
set_option maxRecDepth 100000
namespace Go.Proofs.YthkedcneehdinaaGreatDoor
namespace SX
open Go Go.Proofs
end SX
end Go.Proofs.YthkedcneehdinaaGreatDoor

/- cond.Parse: the program's walk. -/
set_option linter.unusedVariables false
set_option maxRecDepth 100000
namespace Go.Proofs.YthkedcneehdinaaGreatDoor
namespace SX
open Go Go.Proofs
/-- A row that is handed back, ahead of two numbers, stays: wherever it lies. -/
theorem Cp.row3k {α : Type} {d : α} {n : Nat} {enc : α → List SV} {X : List Value → World → (Value → World → Prop) → Prop} (hX : XMono X) {args : List SV} {H : List SB} {ty : TypeId} {g : Nat} (hn : n = g + 1) (hw : ∀ x, wdL (enc x) = n) (hok : ∀ x m, OkL m [] (enc x)) {K : SV → List SB → Prop}
    (h : Cp X args H (fun r h => (∃ (xs : List α) (ver k : Nat) (y z : SV), r = .tup [.sl k ver 0 xs.length none 0, y, z] ∧ h[k]? = some (.mem ty [.arr xs.length α d n enc xs] ver n) ∧ ver ≠ 0 ∧ ∀ ad cap, K (.tup [.imm α d n enc xs ad cap, y, z]) (h.set k (.gone ver))) ∨ K r h)) : Cp X args H K := by
  subst hn
  refine ⟨fun C E m w hr ha => hX _ _ _ _ (h.out C E m w hr ha) fun v w' ⟨r, H', E', m', h1, h2, h3, h4, h5⟩ => ?_⟩
  rcases h2 with ⟨xs, ver, k, y, z, rfl, hk0, hv, hk⟩ | h2
  · have h3 := h3
    simp only [Ok, OkA] at h3
    obtain ⟨⟨⟨_, o1⟩, ⟨ly, o2⟩, ⟨lz, o3⟩, _⟩, _⟩ := h3
    have ht : ∀ vs, den E' (.tup vs) = .tuple (denL E' vs).toArray := fun vs => by simp [den, wrapV, cells]
    have hrep : Rep E' C m' ⟨[.sl k ver 0 xs.length none 0], H'⟩ ⟨#[den E' (.sl k ver 0 xs.length none 0)], []⟩ w' :=
      ⟨rfl, fun q x u hx hu => by
        rcases q with _ | q
        · simp at hx hu; subst hx; subst hu
          exact ⟨by simpa only [Ok] using o1, rfl⟩
        · simp at hx, rfl, h5⟩
    obtain ⟨m2, b, c, e1, e2, e3⟩ := still_base (k := k) hrep hk0 rfl hv hw hok
    obtain ⟨ad, cap, e4⟩ := still_slot (j := 0) (i := 0) (len := xs.length) e2 e3 rfl hw hok (by simp) (by omega)
    have e5 := e4.sl 0 _ _ rfl rfl
    simp only [List.drop_zero, List.take_length] at e5
    have e6 : Ok m2 (vers (H'.set k (.gone ver))) (.imm α d (g + 1) enc xs (some ad) cap) ∧ den E' (.sl k ver 0 xs.length none 0) = den E' (.imm α d (g + 1) enc xs (some ad) cap) := e5
    refine ⟨_, _, E', m2, ?_, hk (some ad) cap, ?_, h4.trans e1, e4.rel⟩
    · rw [h1, ht, ht]
      show Value.tuple (den E' (.sl k ver 0 xs.length none 0) :: denL E' [y, z]).toArray = Value.tuple (den E' (.imm α d (g + 1) enc xs (some ad) cap) :: denL E' [y, z]).toArray
      rw [e6.2]
    · refine ⟨?_, rfl⟩
      simp only [Ok, OkA]
      have k1 := e6.1
      simp only [Ok] at k1
      exact ⟨⟨rfl, k1⟩, ⟨ly, Ok.mono e1.mm y _ _ e1.vv o2⟩, ⟨lz, Ok.mono e1.mm z _ _ e1.vv o3⟩, trivial⟩
  · exact ⟨r, H', E', m', h1, h2, h3, h4, h5⟩
/-! Nodes are made. -/
theorem row_mono {part : CX → CX} (hp : ∀ x, x.2.length ≤ (part x).2.length) (ts : List Tk) (m : List UInt8) (k : Int) : ∀ (n : Nat) (x : CX), x.2.length ≤ (rowL part ts m k n x).2.length
  | 0, x => Nat.le_refl _
  | n + 1, x => by
    unfold rowL
    split
    · split
      · exact Nat.le_refl _
      · have h1 := hp (goF x.1, x.2)
        have h2 := row_mono hp ts m k n ((part (goF x.1, x.2)).1, (part (goF x.1, x.2)).2 ++ [nodC k])
        simp only [List.length_append, List.length_singleton] at h2
        dsimp only at h1
        omega
    · exact Nat.le_refl _
theorem and_mono {part : CX → CX} (hp : ∀ x, x.2.length ≤ (part x).2.length) (ts : List Tk) (n : Nat) (x : CX) : (part x).2.length ≤ (andG part ts n x).2.length := row_mono hp ts _ _ n _
theorem or_mono {part : CX → CX} (hp : ∀ x, x.2.length ≤ (part x).2.length) (ts : List Tk) (n : Nat) (x : CX) : (part x).2.length ≤ (orG part ts n x).2.length :=
  Nat.le_trans (and_mono hp ts n x) (row_mono (fun x => Nat.le_trans (hp x) (and_mono hp ts n x)) ts _ _ n _)
theorem atm_mono (f : List UInt8 → Int) (ts : List Tk) : ∀ (n : Nat) (x : CX), x.2.length ≤ (atmG f ts n x).2.length
  | 0, x => Nat.le_refl _
  | n + 1, x => by
    unfold atmG
    split
    · exact Nat.le_refl _
    split
    · have := atm_mono f ts n (goF x.1, x.2)
      simp only [List.length_append, List.length_singleton]
      dsimp only at this; omega
    split
    · exact Nat.le_trans (atm_mono f ts n (goF x.1, x.2)) (or_mono (fun x => atm_mono f ts n x) ts n (goF x.1, x.2))
    split
    · unfold rgC; simp
    · unfold lcC; simp
theorem atm_pos (f : List UInt8 → Int) (ts : List Tk) : ∀ (n : Nat) (x : CX), x.1.e = 0 → ts.length - x.1.p < n → x.2.length < (atmG f ts n x).2.length
  | 0, x, _, h => absurd h (Nat.not_lt_zero _)
  | n + 1, x, he, hn => by
    unfold atmG
    rw [if_neg (by simpa using he)]
    split
    · have := atm_mono f ts n (goF x.1, x.2)
      simp only [List.length_append, List.length_singleton]
      dsimp only at this; omega
    split
    · rename_i hm
      have hl := isP_lt hm
      have := atm_pos f ts n (goF x.1, x.2) he (by show ts.length - (x.1.p + 1) < n; omega)
      exact Nat.lt_of_lt_of_le this (or_mono (fun x => atm_mono f ts n x) ts n (goF x.1, x.2))
    split
    · unfold rgC; simp
    · unfold lcC; simp
/-- What cond.Parse comes to. -/
def cpX (f : List UInt8 → Int) (ts : List Tk) : CX := orG (atmG f ts (ts.length + 1)) ts (ts.length + 1) (rs0, [])
def cpS (f : List UInt8 → Int) (ts : List Tk) : RS :=
  if 32 < (cpX f ts).2.length then failF (moreF ts (cpX f ts).1) 2 (whF ts 0) else moreF ts (cpX f ts).1
def cparseF (f : List UInt8 → Int) (ts : List Tk) : List Cn × Int × Int := if (cpS f ts).e = 0 then ((cpX f ts).2, 0, 0) else ([], (cpS f ts).e, (cpS f ts).q)
theorem cpX_pos (f : List UInt8 → Int) (ts : List Tk) : 0 < (cpX f ts).2.length := Nat.lt_of_lt_of_le (atm_pos f ts (ts.length + 1) (rs0, []) rfl (by show ts.length - 0 < ts.length + 1; omega)) (or_mono (fun x => atm_mono f ts _ x) ts _ (rs0, []))
theorem zNew_w (ts : List Tk) (ad : Option Addr) (cap : Nat) (hl : ts.length ≤ 100000) (hn : ad = none → ts = []) : Ctr Tryz.prog 67 [.ptr 0 1 0 [], .imm Tk tk0 4 tkenc ts ad cap] [langZ]
    (fun r h' => r = .ptr 2 1 0 [] ∧ ∃ ad' cap', h' = [langZ, curB ts ad' cap' 0, rdrB 1 0 [] 0 0]) := by
  have key : Ctr Tryz.prog 67 [.ptr 0 1 0 [], .imm Tk tk0 4 tkenc ts ad cap] [langZ]
    (fun r h' => r = .ptr 2 1 0 [] ∧ ∃ ad' cap' X, h' = [langZ, curB ts ad' cap' 0, rdrB 1 0 [] 0 0] ++ X) := by
    refine Ctr.enter tabOkF (fn := Tryz.f67) rfl rfl rfl rfl rfl ?_
    refine OpC.callL rfl rfl rfl rfl [] 1 rfl rfl rfl (new_w ts ad cap hl hn) rfl rfl rfl rfl trivial rfl (fun r H' hk => ?_) ?_
    · obtain ⟨_, a, b, e⟩ := hk; rw [e]; exact ⟨Nat.zero_le _, Nat.le_refl _⟩
    rintro r H' ⟨rfl, ad', cap', rfl⟩
    exact ⟨rfl, ad', cap', [], rfl⟩
  exact key.trim callX_m fun r H1 ⟨h1, ad', cap', X, h2⟩ => ⟨_, X, h2, by show 1 ≤ 3; decide, ⟨⟨rfl, rfl, rfl, rfl, trivial⟩, bndCur, ⟨rfl, rfl, rfl, rfl, rfl, trivial⟩, trivial⟩, by rw [h1]; rfl, h1, ad', cap', rfl⟩
theorem cnok (x : Cn) (m : Mem) : OkL m [] (cenc x) := by simp [cenc, OkL, isUnit, Ok]
/-- What is handed back. -/
def CpK (R : List Cn × Int × Int) (r : SV) (h : List SB) : Prop :=
  (∃ cs ad cap, R = (cs, 0, 0) ∧ r = .tup [.imm Cn cn0 5 cenc cs ad cap, .i .i64 0, .i .i64 0] ∧ h = []) ∨ (∃ e q, e ≠ 0 ∧ R = ([], e, q) ∧ r = .tup [.nils, .i .i64 e, .i .i64 q] ∧ h = [])
end SX
end Go.Proofs.YthkedcneehdinaaGreatDoor

/- Words read as a condition, plain: the reference's reader; both answer alike. -/
set_option linter.unusedVariables false
set_option maxRecDepth 100000
namespace Go.Proofs.YthkedcneehdinaaGreatDoor
namespace SX
open Go Go.Proofs
end SX
end Go.Proofs.YthkedcneehdinaaGreatDoor

/- Conditions as text: a piece in brackets. -/
set_option linter.unusedVariables false
set_option maxRecDepth 100000
namespace Go.Proofs.YthkedcneehdinaaGreatDoor
namespace SX
open Go Go.Proofs
def kindB (n : Nat) (ks : List Int) : SB := .mem 3 [.ints .i64 n ks] 1 0
theorem bndKi {n : Nat} {ks : List Int} {M : Nat} : BndB M (kindB n ks) := ⟨rfl, trivial⟩
/-- The first place, -1: none. -/
def ixPc (ks : List Int) (v : Int) : Int := if v ∈ ks then (ks.idxOf v : Nat) else -1
theorem ixPc_ge (ks : List Int) (v : Int) : decide ((0 : Int) ≤ ixPc ks v) = decide (v ∈ ks) := by
  unfold ixPc
  split
  · rename_i h; rw [decide_eq_true h]; simp
  · rename_i h; rw [decide_eq_false h]; simp
theorem ixF_at {ks : List Int} {v : Int} {i : Nat} (hi : i < ks.length) (h0 : ∀ j, j < i → ks.getD j 0 ≠ v) (h : v = ks.getD i 0) : ixPc ks v = i := by
  have hm : v ∈ ks := by
    rw [h, List.getD_eq_getElem?_getD, List.getElem?_eq_getElem hi]
    exact List.getElem_mem hi
  unfold ixPc
  rw [if_pos hm]
  congr 1
  have h1 := List.idxOf_lt_length_of_mem hm
  rcases Nat.lt_trichotomy (ks.idxOf v) i with h2 | h2 | h2
  · exfalso
    apply h0 _ h2
    rw [List.getD_eq_getElem?_getD, List.getElem?_eq_getElem h1]
    exact List.getElem_idxOf h1
  · exact h2
  · exfalso
    have := List.not_of_lt_findIdx (p := (· == v)) (xs := ks) (i := i) h2
    have e : ks[i] = v := by rw [h, List.getD_eq_getElem?_getD, List.getElem?_eq_getElem hi]; rfl
    rw [e] at this
    simp at this
theorem ixF_none {ks : List Int} {v : Int} (h0 : ∀ j, j < ks.length → ks.getD j 0 ≠ v) : ixPc ks v = -1 := by
  unfold ixPc
  rw [if_neg]
  intro hm
  obtain ⟨j, hj, e⟩ := List.mem_iff_getElem.1 hm
  apply h0 j hj
  rw [List.getD_eq_getElem?_getD, List.getElem?_eq_getElem hj]
  exact e
theorem i64_cg {x y : Int} (h : x = y) : SV.i .i64 x = SV.i .i64 y := congrArg (SV.i .i64) h
theorem index_ok (n : Nat) (ks : List Int) (hk : ks.length = n) (hn : n ≤ 1000) (v : Int) : Ctr Tryz.prog 193 [.sl 0 1 0 n (some n) 0, .i .i64 v] [kindB n ks] (fun r h => r = .i .i64 (ixPc ks v) ∧ h = [kindB n ks]) := by
  refine Ctr.enterG tabOk (fn := Tryz.f193) rfl rfl rfl rfl rfl rfl ⟨bndKi, trivial⟩ ?_
  refine WpC.loop tabOk (β := Nat) (fun i => i ≤ n ∧ ∀ j, j < i → ks.getD j 0 ≠ v) (fun i => [(8, .i .i64 i)]) (fun _ => [kindB n ks]) (fun i => n - i) 0 524080 ⟨Nat.zero_le _, fun j hj => by omega⟩ ?_ ?_
  · exact ⟨rfl, ⟨⟨rfl, rfl, rfl⟩, trivial⟩, ⟨[], rfl⟩, ⟨bndKi, trivial⟩, rfl⟩
  · rintro i ⟨hi, ho⟩
    refine ⟨fun h2 => ?_, fun h2 => ?_⟩
    · have h2 : i < n := by
        have h2 : decide ((i : Int) < n) = true := h2
        simpa using h2
      refine ⟨fun _ => ⟨by omega, by omega⟩, ⟨fun _ => h2, ?_⟩⟩
      refine ⟨fun h3 => ⟨?_, _, rfl⟩, fun h3 => ?_⟩
      · have h3 : v = ks.getD i 0 := of_decide_eq_true h3
        exact i64_cg (ixF_at (by omega) ho h3).symm
      · have h3 : ¬ v = ks.getD i 0 := of_decide_eq_false h3
        refine ⟨i + 1, ⟨h2, fun j hj => ?_⟩, by omega, rfl, ⟨⟨?_, rfl, rfl⟩, trivial⟩, ⟨[], rfl⟩, ⟨bndKi, trivial⟩, rfl⟩
        · rcases Nat.lt_succ_iff_lt_or_eq.1 hj with hj | rfl
          · exact ho j hj
          · exact fun e => h3 e.symm
        · show SV.i .i64 (IntKind.i64.wrap ((i : Int) + 1)) = SV.i .i64 ((i + 1 : Nat) : Int)
          rw [wrap64 (by omega) (by omega)]; rfl
    · have h2 : i = n := by
        have h2 : decide ((i : Int) < n) = false := h2
        simp at h2; omega
      subst h2
      exact ⟨i64_cg (ixF_none (by rw [hk]; exact ho)).symm, _, rfl⟩
theorem contains_ok (n : Nat) (ks : List Int) (hk : ks.length = n) (hn : n ≤ 1000) (v : Int) : Ctr Tryz.prog 131 [.sl 0 1 0 n (some n) 0, .i .i64 v] [kindB n ks] (fun r h => r = .b (decide (v ∈ ks)) ∧ h = [kindB n ks]) := by
  refine Ctr.enterG tabOk (fn := Tryz.f131) rfl rfl rfl rfl rfl rfl ⟨bndKi, trivial⟩ ?_
  refine OpC.callG rfl rfl rfl rfl rfl rfl (fun _ => index_ok n ks hk hn v) ?_
  exact ⟨b_congr (ixPc_ge ks v), _, rfl⟩
theorem in_ok (n : Nat) (ks : List Int) (hk : ks.length = n) (hn : n ≤ 1000) (s : List UInt8) (k : Int) (hs : s.length ≤ 100000) : Ctr Tryz.prog 77 [.agg [.s s, .i .i64 k], .sl 0 1 0 n (some n) 0] [kindB n ks] (fun r h => r = .s (brk (decide (k ∈ ks)) s) ∧ h = [kindB n ks]) := by
  refine Ctr.enterG tabOk (fn := Tryz.f77) rfl rfl rfl rfl rfl rfl ⟨bndKi, trivial⟩ ?_
  refine OpC.callG rfl rfl rfl rfl rfl rfl (fun _ => Ctr.spread (contains_ok n ks hk hn k) (fun ρ => rfl) _ [0] rfl rfl ⟨rfl, trivial⟩ rfl) ?_
  refine ⟨fun h => ?_, fun h => ?_⟩
  · have h : decide (k ∈ ks) = true := h
    rw [h]
    refine ⟨fun _ => ?_, ⟨fun _ => ?_, ⟨rfl, _, rfl⟩⟩⟩
    · show 1 + s.length ≤ 9223372036854775807
      omega
    · show ([40] ++ s).length + 1 ≤ 9223372036854775807
      simp; omega
  · have h : decide (k ∈ ks) = false := h
    rw [h]
    exact ⟨rfl, _, rfl⟩
end SX
end Go.Proofs.YthkedcneehdinaaGreatDoor

/- Conditions as text: a node's piece. -/
set_option linter.unusedVariables false
set_option maxRecDepth 100000
namespace Go.Proofs.YthkedcneehdinaaGreatDoor
namespace SX
open Go Go.Proofs
def nfB (f : Nat) : SB := .mem 36 [.fn f []] 1 0
theorem bndN {f M : Nat} : BndB M (nfB f) := ⟨rfl, trivial⟩
theorem agg_s {x y : List UInt8} {k : Int} (h : x = y) : SV.agg [.s x, .i .i64 k] = SV.agg [.s y, .i .i64 k] := by rw [h]
theorem pf_1 {a : Int} {c : Cn} {l : List Pc} (h : c.k = 1) : (pieceF a c l).s = ((Lib.itoa c.t ++ [58]) ++ nameF a c.r) ++ ([61] ++ Lib.itoa c.v) := by simp only [pieceF, if_pos h]
theorem pf_2 {a : Int} {c : Cn} {l : List Pc} (h : c.k = 2) : (pieceF a c l).s = locF c.l ++ ([61] ++ Lib.itoa c.v) := by simp only [pieceF]; rw [if_neg (by omega), if_pos h]
theorem pf_3 {a : Int} {c : Cn} {l : List Pc} (h : c.k = 3) : (pieceF a c l).s = [126] ++ brk (decide ((l.getD 0 pc0).k ∈ [(4 : Int), 5])) (l.getD 0 pc0).s := by
  simp only [pieceF]; rw [if_neg (by omega), if_neg (by omega), if_pos h]; simp
theorem pf_4 {a : Int} {c : Cn} {l : List Pc} (h : c.k = 4) : (pieceF a c l).s = (brk (decide ((l.getD 0 pc0).k ∈ [(5 : Int)])) (l.getD 0 pc0).s ++ [32, 47, 92, 32]) ++ brk (decide ((l.getD 1 pc0).k ∈ [(5 : Int), 4])) (l.getD 1 pc0).s := by
  simp only [pieceF]; rw [if_neg (by omega), if_neg (by omega), if_neg (by omega), if_pos h]; simp
theorem pf_5 {a : Int} {c : Cn} {l : List Pc} (h : c.k = 5) : (pieceF a c l).s = ((l.getD 0 pc0).s ++ [32, 92, 47, 32]) ++ brk (decide ((l.getD 1 pc0).k ∈ [(5 : Int)])) (l.getD 1 pc0).s := by
  simp only [pieceF]; rw [if_neg (by omega), if_neg (by omega), if_neg (by omega), if_neg (by omega)]; simp
set_option maxHeartbeats 2000000 in
theorem printC_ok (a : Int) (nf : Nat) (hnf : ∀ n, CtrV Tryz.prog nf [.i .i64 n] (.s (nameF a n))) (c : Cn) (l : List Pc) (ad : Option Addr) (cap : Nat) (hp : 0 ≤ partsF c) (hl : (l.length : Int) = partsF c) (hv : in64 c.v) (hs : ∀ j, (l.getD j pc0).s.length ≤ 3000) :
    Ctr Tryz.prog 75 [.agg (cenc c), .imm Pc pc0 2 penc l ad cap, .ptr 0 1 0 []] [nfB nf] (fun r h => r = .agg (penc (pieceF a c l)) ∧ h = [nfB nf]) := by
  have hiv := itoa_len hv
  refine Ctr.enterG tabOk (fn := Tryz.f75) rfl rfl rfl rfl rfl rfl ⟨bndN, trivial⟩ ?_
  refine OpC.callV rfl rfl rfl rfl rfl rfl rfl (fun _ => itoa_ok c.v hv.1 hv.2) ?_
  refine ⟨fun _ => ?_, ?_⟩
  · show 1 + (Lib.itoa c.v).length ≤ 9223372036854775807
    omega
  refine ⟨fun h1 => ?_, fun h1 => ⟨fun h2 => ?_, fun h2 => ⟨fun h3 => ?_, fun h3 => ⟨fun h4 => ?_, fun h4 => ⟨fun h5 => ?_, fun h5 => ?_⟩⟩⟩⟩⟩
  · have h1 : c.k = 1 := of_decide_eq_true h1
    have hct := leaf_t hp h1
    have hit := itoa_len hct
    have hnl := nameF_len a c.r
    refine WpC.dr tabOk mixed 0 ?_
    refine OpD.callV rfl rfl rfl rfl rfl rfl rfl (fun _ => itoa_ok c.t hct.1 hct.2) ?_
    refine ⟨fun _ => ?_, ?_⟩
    · show (Lib.itoa c.t).length + 1 ≤ 9223372036854775807
      omega
    refine OpD.callV rfl rfl rfl rfl rfl rfl rfl (fun _ => hnf c.r) ?_
    refine ⟨fun _ => ?_, ⟨fun _ => ?_, ?_⟩⟩
    · show (Lib.itoa c.t ++ [58]).length + (nameF a c.r).length ≤ 9223372036854775807
      simp; omega
    · show ((Lib.itoa c.t ++ [58]) ++ nameF a c.r).length + ([61] ++ Lib.itoa c.v).length ≤ 9223372036854775807
      simp; omega
    refine ⟨by kernel_rfl, ?_⟩
    exact ⟨agg_s (pf_1 h1).symm, _, rfl⟩
  · have h2 : c.k = 2 := of_decide_eq_true h2
    have ht := parts_loc hp h2
    have hf := (pf_2 (a := a) (c := c) (l := l) h2).symm
    obtain ⟨ck, ct, cr, cl, cv⟩ := c
    have hiv : (Lib.itoa cv).length ≤ 21 := hiv
    simp only at ht hf
    have hob : (1 : Nat) + ([61] ++ Lib.itoa cv).length ≤ 9223372036854775807 := by simp; omega
    rcases ht with rfl | rfl | rfl
    · exact ⟨fun _ => by show (0 : Int) ≤ 0 ∧ (0 : Int) ≤ 1 ∧ (1 : Int) ≤ 3; decide, ⟨fun _ => hob, ⟨agg_s hf, _, rfl⟩⟩⟩
    · exact ⟨fun _ => by show (0 : Int) ≤ 1 ∧ (1 : Int) ≤ 2 ∧ (2 : Int) ≤ 3; decide, ⟨fun _ => hob, ⟨agg_s hf, _, rfl⟩⟩⟩
    · exact ⟨fun _ => by show (0 : Int) ≤ 2 ∧ (2 : Int) ≤ 3 ∧ (3 : Int) ≤ 3; decide, ⟨fun _ => hob, ⟨agg_s hf, _, rfl⟩⟩⟩
  · have h1 : ¬ c.k = 1 := of_decide_eq_false h1
    have h2 : ¬ c.k = 2 := of_decide_eq_false h2
    have h3 : c.k = 3 := of_decide_eq_true h3
    have := parts_not hp h3
    have hb := brk_len (decide ((l.getD 0 pc0).k ∈ [(4 : Int), 5])) (l.getD 0 pc0).s
    have h0 := hs 0
    refine ⟨fun _ => ⟨by decide, by omega⟩, ?_⟩
    refine OpC.callG rfl rfl rfl rfl rfl rfl (fun _ => Ctr.spread (in_ok 2 [4, 5] rfl (by decide) (l.getD 0 pc0).s (l.getD 0 pc0).k (by omega)) (fun ρ => rfl) _ [4] rfl rfl ⟨rfl, trivial⟩ rfl) ?_
    refine ⟨fun _ => ?_, ?_⟩
    · show 1 + (brk (decide ((l.getD 0 pc0).k ∈ [(4 : Int), 5])) (l.getD 0 pc0).s).length ≤ 9223372036854775807
      omega
    exact ⟨agg_s (pf_3 h3).symm, _, rfl⟩
  · have h1 : ¬ c.k = 1 := of_decide_eq_false h1
    have h2 : ¬ c.k = 2 := of_decide_eq_false h2
    have h3 : ¬ c.k = 3 := of_decide_eq_false h3
    have h4 : c.k = 4 := of_decide_eq_true h4
    have := parts_two hp ⟨h1, h2, h3⟩
    have hb0 := brk_len (decide ((l.getD 0 pc0).k ∈ [(5 : Int)])) (l.getD 0 pc0).s
    have hb1 := brk_len (decide ((l.getD 1 pc0).k ∈ [(5 : Int), 4])) (l.getD 1 pc0).s
    have h0 := hs 0
    have h1' := hs 1
    refine WpC.dr tabOk mixed 2 ?_
    refine ⟨fun _ => ⟨by decide, by omega⟩, ?_⟩
    refine OpD.callG [4] rfl rfl rfl rfl rfl rfl (r := .s (brk (decide ((l.getD 0 pc0).k ∈ [(5 : Int)])) (l.getD 0 pc0).s)) (fun _ H1 hH => Ctr.spread (in_ok 1 [5] rfl (by decide) (l.getD 0 pc0).s (l.getD 0 pc0).k (by omega)) (fun ρ => rfl) H1 [4] rfl rfl ⟨hH 4 (by simp), trivial⟩ rfl) ?_
    refine ⟨fun _ => ?_, ?_⟩
    · show (brk (decide ((l.getD 0 pc0).k ∈ [(5 : Int)])) (l.getD 0 pc0).s).length + 4 ≤ 9223372036854775807
      omega
    refine ⟨fun _ => ⟨by decide, by omega⟩, ?_⟩
    refine OpD.callG [5] rfl rfl rfl rfl rfl rfl (r := .s (brk (decide ((l.getD 1 pc0).k ∈ [(5 : Int), 4])) (l.getD 1 pc0).s)) (fun _ H1 hH => Ctr.spread (in_ok 2 [5, 4] rfl (by decide) (l.getD 1 pc0).s (l.getD 1 pc0).k (by omega)) (fun ρ => rfl) H1 [5] rfl rfl ⟨hH 5 (by simp), trivial⟩ rfl) ?_
    refine ⟨fun _ => ?_, ?_⟩
    · show (brk (decide ((l.getD 0 pc0).k ∈ [(5 : Int)])) (l.getD 0 pc0).s ++ [32, 47, 92, 32]).length + (brk (decide ((l.getD 1 pc0).k ∈ [(5 : Int), 4])) (l.getD 1 pc0).s).length ≤ 9223372036854775807
      simp only [List.length_append, List.length_cons, List.length_nil]; omega
    refine ⟨by kernel_rfl, ?_⟩
    exact ⟨agg_s (pf_4 h4).symm, _, rfl⟩
  · have h5 : c.k = 5 := of_decide_eq_true h5
    have := parts_two hp ⟨by omega, by omega, by omega⟩
    have hb1 := brk_len (decide ((l.getD 1 pc0).k ∈ [(5 : Int)])) (l.getD 1 pc0).s
    have h0 := hs 0
    have h1' := hs 1
    refine WpC.dr tabOk mixed 1 ?_
    refine ⟨fun _ => ⟨by decide, by omega⟩, ?_⟩
    refine ⟨fun _ => ?_, ?_⟩
    · show (l.getD 0 pc0).s.length + 4 ≤ 9223372036854775807
      omega
    refine ⟨fun _ => ⟨by decide, by omega⟩, ?_⟩
    refine OpD.callG [4] rfl rfl rfl rfl rfl rfl (r := .s (brk (decide ((l.getD 1 pc0).k ∈ [(5 : Int)])) (l.getD 1 pc0).s)) (fun _ H1 hH => Ctr.spread (in_ok 1 [5] rfl (by decide) (l.getD 1 pc0).s (l.getD 1 pc0).k (by omega)) (fun ρ => rfl) H1 [4] rfl rfl ⟨hH 4 (by simp), trivial⟩ rfl) ?_
    refine ⟨fun _ => ?_, ?_⟩
    · show ((l.getD 0 pc0).s ++ [32, 92, 47, 32]).length + (brk (decide ((l.getD 1 pc0).k ∈ [(5 : Int)])) (l.getD 1 pc0).s).length ≤ 9223372036854775807
      simp only [List.length_append, List.length_cons, List.length_nil]; omega
    refine ⟨by kernel_rfl, ?_⟩
    exact ⟨agg_s (pf_5 h5).symm, _, rfl⟩
  · have h1 : ¬ c.k = 1 := of_decide_eq_false h1
    have h2 : ¬ c.k = 2 := of_decide_eq_false h2
    have h3 : ¬ c.k = 3 := of_decide_eq_false h3
    have h4 : ¬ c.k = 4 := of_decide_eq_false h4
    have h5 : ¬ c.k = 5 := of_decide_eq_false h5
    have := parts_two hp ⟨h1, h2, h3⟩
    omega
end SX
end Go.Proofs.YthkedcneehdinaaGreatDoor

/- Conditions as text: fold over pieces, Print. -/
set_option linter.unusedVariables false
set_option maxRecDepth 100000
namespace Go.Proofs.YthkedcneehdinaaGreatDoor
namespace SX
open Go Go.Proofs
theorem penc_w (p : Pc) : wdL (penc p) = 2 := rfl
theorem penc_ok (p : Pc) (m : Mem) : OkL m [] (penc p) := by simp [penc, OkL, Ok, isUnit]
theorem stkP_eq {a : Int} {cs : List Cn} {i : Nat} (h : okAt cs i) : stkG (pieceF a) cs i = (stkG mkT cs i).map (pcT a) :=
  stkG_map (pcT a) (fun j hj h0 l hl => pieceF_T a _ h0 l hl) h
theorem stkP_len {a : Int} {cs : List Cn} (hv : ∀ j, in64 (cs.getD j cn0).v) {i : Nat} (hi : i ≤ 32) (h : okAt cs i) : ∀ p ∈ stkG (pieceF a) cs i, p.s.length ≤ 2000 := by
  intro p hp
  rw [stkP_eq h] at hp
  obtain ⟨t, ht, rfl⟩ := List.mem_map.1 hp
  obtain ⟨h1, h2⟩ := stkT_ok hv h
  have := txt_len a t (h2 t ht)
  have := mem_sz ht
  show (txt a t).length ≤ 2000
  have : 60 * t.sz ≤ 60 * 32 := Nat.mul_le_mul_left _ (by omega)
  omega
theorem getD_len {l : List Pc} (h : ∀ p ∈ l, p.s.length ≤ 2000) (j : Nat) : (l.getD j pc0).s.length ≤ 3000 := by
  rw [List.getD_eq_getElem?_getD]
  cases hx : l[j]? with
  | none => simp [pc0]
  | some p => have := h p (List.mem_of_getElem? hx); simp; omega
theorem stkG_succ {α : Type} {g : Cn → List α → α} {cs : List Cn} {i N : Nat} {xs : List α} (h : xs = stkG g cs i) (hN : xs.length = N) (h0 : 0 ≤ partsF (cs.getD i cn0)) (h1 : partsF (cs.getD i cn0) ≤ N) (h2 : N ≤ 1000) :
    xs.take (kAt N (cs.getD i cn0)).toNat ++ [g (cs.getD i cn0) ((xs.drop (kAt N (cs.getD i cn0)).toNat).take (N - (kAt N (cs.getD i cn0)).toNat))] = stkG g cs (i + 1) := by
  have e : (kAt N (cs.getD i cn0)).toNat = N - (partsF (cs.getD i cn0)).toNat := by rw [kAt_eq h0 h1 h2]; omega
  simp only [stkG]
  rw [← h, hN, e, List.take_of_length_le (l := xs.drop _) (by simp; omega)]
def rowP (N : Nat) (xs : List Pc) (ver : Nat) : SB := .mem 115 [.arr N Pc pc0 2 penc xs] ver 2
theorem bndRP {M N ver : Nat} {xs : List Pc} : BndB M (rowP N xs ver) := ⟨fun _ => rfl, trivial⟩
theorem agg_cg {p q : Pc} (h : p = q) : SV.agg (penc p) = SV.agg (penc q) := by rw [h]
set_option maxHeartbeats 2000000 in
theorem foldP_ok (a : Int) (nf : Nat) (hnf : ∀ n, CtrV Tryz.prog nf [.i .i64 n] (.s (nameF a n))) (cs : List Cn) (ad : Option Addr) (cap : Nat) (hv : ∀ j, in64 (cs.getD j cn0).v) (hr : okAt cs cs.length) (h1 : 1 ≤ cs.length) (h32 : cs.length ≤ 32) :
    Ctr Tryz.prog 74 [.imm Cn cn0 5 cenc cs ad cap, .fn 75 [.ptr 0 1 0 []]] [nfB nf] (fun r h => r = .agg (penc ((stkG (pieceF a) cs cs.length).getD 0 pc0)) ∧ h = [nfB nf]) := by
  refine Ctr.enterG tabOk (fn := Tryz.f74) rfl rfl rfl rfl rfl rfl ⟨bndN, trivial⟩ ?_
  refine WpC.shift (Shift.row (d := 5) rfl 1 115 [.arr 0 Pc pc0 2 penc []] (fun E => rfl) (fun m V => ⟨⟨rfl, rfl, penc_w, fun j hj => by omega⟩, trivial⟩)) ?_
  refine WpC.loop tabOk (β := Nat × Nat × List Pc) (fun b => b.1 ≤ cs.length ∧ b.2.2 = stkG (pieceF a) cs b.1 ∧ b.2.2.length = b.2.1) (fun b => [(12, .i .i64 b.1), (5, .sl 2 b.1 0 b.2.1 none 0)]) (fun b => [nfB nf, .mem 115 [.s [], .i .i64 0] 1 0, rowP b.2.1 b.2.2 b.1]) (fun b => cs.length - b.1) (0, 0, []) 17179866016 ⟨Nat.zero_le _, rfl, rfl⟩ ?_ ?_
  · exact ⟨rfl, ⟨⟨rfl, rfl, rfl⟩, ⟨rfl, rfl, rfl⟩, trivial⟩, ⟨[], rfl⟩, ⟨bndN, ⟨rfl, rfl, trivial⟩, bndRP, trivial⟩, rfl⟩
  · rintro ⟨i, N, xs⟩ ⟨hi, hx, hN⟩
    simp only at hi hx hN
    have hoi : okAt cs i := fun j hj => hr j (by omega)
    have hnl := stkG_len (g := pieceF a) hoi
    rw [← hx, hN] at hnl
    have hnb := nAt_bd hoi
    have hln : ∀ p ∈ xs, p.s.length ≤ 2000 := by rw [hx]; exact stkP_len hv (by omega) hoi
    refine ⟨fun h2 => ?_, fun h2 => ?_⟩
    · have h2 : i < cs.length := by simpa using h2
      have hp := hr i h2
      rw [← hnl] at hp
      have hk := kAt_eq (N := N) (c := cs.getD i cn0) hp.1 hp.2 (by omega)
      refine ⟨fun _ => ⟨by omega, by omega⟩, ?_⟩
      refine OpC.callV rfl rfl rfl rfl rfl rfl rfl (fun _ => parts_ok (cs.getD i cn0)) ?_
      refine WpC.dr tabOk mixed 1 ?_
      refine ⟨fun _ => ?_, ?_⟩
      · show ((i = i ∧ 2 = 2 ∧ 0 < 2) ∧ 0 = 0 * 2 ∧ (0 + N) * 2 ≤ N * 2 + 0) ∧ ((kAt N (cs.getD i cn0)).toNat < N ∨ 0 = 0) ∧ 0 ≤ kAt N (cs.getD i cn0) ∧ kAt N (cs.getD i cn0) ≤ N
        omega
      refine OpD.callG [0, 2] rfl rfl rfl rfl rfl rfl (r := .agg (penc (pieceF a (cs.getD i cn0) ((xs.drop (kAt N (cs.getD i cn0)).toNat).take (N - (kAt N (cs.getD i cn0)).toNat))))) (fun _ H1 hH => ?_) ?_
      · have g0 : H1[0]? = some (nfB nf) := hH 0 (by simp)
        have g1 : H1[2]? = some (.mem 115 [.arr N Pc pc0 2 penc xs] i 2) := hH 2 (by simp)
        refine Ctr.frzL (A := [.agg (cenc (cs.getD i cn0))]) (B := [.ptr 0 1 0 []]) (i := (kAt N (cs.getD i cn0)).toNat) (K := fun r => r = _) g1 rfl (by show (kAt N (cs.getD i cn0)).toNat + (N - (kAt N (cs.getD i cn0)).toNat) ≤ N; omega) hN ?_ penc_w penc_ok ?_ (fun r e => by rw [e]; rfl) (fun a2 cap2 => ?_)
        · show 0 + (kAt N (cs.getD i cn0)).toNat * 2 = (kAt N (cs.getD i cn0)).toNat * 2
          omega
        · exact ⟨rfl, by decide, (Nat.zero_add _).symm⟩
        · refine Ctr.spread (printC_ok a nf hnf (cs.getD i cn0) _ a2 cap2 hp.1 ?_ (hv i) ?_) (fun ρ => rfl) _ [0] rfl rfl ⟨?_, trivial⟩ rfl
          · simp only [List.length_take, List.length_drop]; omega
          · exact getD_len fun p hp => hln p (List.mem_of_mem_drop (List.mem_of_mem_take hp))
          · show (H1.set 2 (.gone i))[0]? = some (nfB nf)
            rw [List.getElem?_set_ne (by omega)]; exact g0
      refine ⟨by kernel_rfl, ?_⟩
      refine WpC.dr tabOk mixed 1 ?_
      refine ⟨fun _ => ?_, ?_⟩
      · show ((i = i ∧ 2 = 2 ∧ 0 < 2) ∧ 0 = 0 * 2 ∧ (0 + N) * 2 ≤ N * 2 + 0) ∧ 0 ≤ kAt N (cs.getD i cn0) ∧ kAt N (cs.getD i cn0) ≤ N
        omega
      refine OpD.yld 0 rfl rfl rowE_w (yld_app_trim tabOk (k := 2) (N := N) (M := (kAt N (cs.getD i cn0)).toNat) rfl rfl rfl rfl rfl rfl rfl rfl (by show (kAt N (cs.getD i cn0)).toNat ≤ N; omega) rfl (SrcA.sl rfl rfl rfl rfl (by decide) rfl) (show 2 ∉ [5] by decide) (Joins.arrN (y := pieceF a (cs.getD i cn0) ((xs.drop (kAt N (cs.getD i cn0)).toNat).take (N - (kAt N (cs.getD i cn0)).toNat))) ?_ rfl penc_w) (by decide) ?_ ?_) ?_
      · show (xs.take (kAt N (cs.getD i cn0)).toNat).length = (kAt N (cs.getD i cn0)).toNat
        rw [List.length_take]; omega
      · exact Nat.le_trans (show (kAt N (cs.getD i cn0)).toNat + 1 ≤ 1000 by omega) (by decide)
      · show ((kAt N (cs.getD i cn0)).toNat + 1) * 24 ≤ 140737488355328
        omega
      refine ⟨by kernel_rfl, ?_⟩
      refine ⟨(i + 1, (kAt N (cs.getD i cn0)).toNat + 1, _), ⟨h2, stkG_succ hx hN hp.1 hp.2 (by omega), ?_⟩, ?_, rfl, ⟨⟨?_, rfl, rfl⟩, ⟨rfl, rfl, rfl⟩, trivial⟩, ⟨_, rfl⟩, ⟨bndN, ⟨rfl, rfl, trivial⟩, bndRP, trivial⟩, rfl⟩
      · show (xs.take (kAt N (cs.getD i cn0)).toNat ++ [_]).length = (kAt N (cs.getD i cn0)).toNat + 1
        rw [List.length_append, List.length_take, List.length_singleton]; omega
      · show cs.length - (i + 1) < cs.length - i
        omega
      · show SV.i .i64 (IntKind.i64.wrap ((i : Int) + 1)) = SV.i .i64 ((i + 1 : Nat) : Int)
        rw [wrap64 (by omega) (by omega)]; rfl
    · have h2 : i = cs.length := by simp at h2; omega
      subst h2
      refine ⟨fun _ => ?_, ?_⟩
      · show 0 = 0 * 2 ∧ (0 : Int) ≤ 0 ∧ (0 : Int) < N
        have := hnb.2.2 (by omega)
        omega
      · refine ⟨fun _ => ⟨rfl, ?_⟩, agg_cg ?_, ⟨_, rfl⟩⟩
        · show 0 + Int.toNat 0 < N
          have := hnb.2.2 (by omega)
          have : Int.toNat 0 = 0 := rfl
          omega
        · rw [← hx]
          rfl
/-- What Print hands back. -/
noncomputable def printR (a : Int) (cs : List Cn) : List UInt8 × Int :=
  if a = 1 ∨ a = 2 ∨ a = 3 then (if rightB cs then (printF a cs, 0) else ([], 22)) else ([], 36)
def prV (p : List UInt8 × Int) : SV := .tup [.s p.1, .i .i64 p.2]
theorem right_one {cs : List Cn} (h : rightB cs = true) : ∃ t, stkG mkT cs cs.length = [t] := by
  obtain ⟨_, q3, q4⟩ := rightP_of h
  have := stkG_len (g := mkT) q3
  rw [q4] at this
  match hs : stkG mkT cs cs.length, this with
  | [t], _ => exact ⟨t, rfl⟩
  | [], h => simp at h
  | _ :: _ :: _, h => simp at h; omega
theorem fold_print {a : Int} {cs : List Cn} (h : rightB cs = true) : ((stkG (pieceF a) cs cs.length).getD 0 pc0).s = printF a cs := by
  obtain ⟨_, q3, _⟩ := rightP_of h
  obtain ⟨t, ht⟩ := right_one h
  unfold printF
  rw [stkP_eq q3, ht]
  rfl
theorem printR_ok {a : Int} {cs : List Cn} (ha : a = 1 ∨ a = 2 ∨ a = 3) (h : rightB cs = true) : printR a cs = (printF a cs, 0) := by unfold printR; rw [if_pos ha, if_pos h]
theorem printR_form {a : Int} {cs : List Cn} (ha : a = 1 ∨ a = 2 ∨ a = 3) (h : rightB cs = false) : printR a cs = ([], 22) := by unfold printR; rw [if_pos ha, if_neg (by rw [h]; decide)]
theorem printR_arch {a : Int} {cs : List Cn} (ha : ¬ (a = 1 ∨ a = 2 ∨ a = 3)) : printR a cs = ([], 36) := by unfold printR; rw [if_neg ha]
theorem names1 : CtrV Tryz.prog 66 [.i .i64 1] (.tup [.fn 35 [], .fn 36 []]) := by
  refine Ctr.enterV tabOk (fn := Tryz.f66) rfl rfl rfl rfl rfl rfl ?_
  exact ⟨fun _ => rfl, fun h => by cases h⟩
theorem names2 : CtrV Tryz.prog 66 [.i .i64 2] (.tup [.fn 20 [], .fn 18 []]) := by
  refine Ctr.enterV tabOk (fn := Tryz.f66) rfl rfl rfl rfl rfl rfl ?_
  exact ⟨fun h => (by cases h), fun _ => ⟨fun _ => rfl, fun h => by cases h⟩⟩
theorem names3 : CtrV Tryz.prog 66 [.i .i64 3] (.tup [.fn 28 [], .fn 27 []]) := by
  refine Ctr.enterV tabOk (fn := Tryz.f66) rfl rfl rfl rfl rfl rfl ?_
  exact ⟨fun h => (by cases h), fun _ => ⟨fun h => (by cases h), fun _ => ⟨fun _ => rfl, fun h => by cases h⟩⟩⟩
theorem names0 {a : Int} (ha : ¬ (a = 1 ∨ a = 2 ∨ a = 3)) : CtrV Tryz.prog 66 [.i .i64 a] (.tup [.raw .nilFunc, .raw .nilFunc]) := by
  refine Ctr.enterV tabOk (fn := Tryz.f66) rfl rfl rfl rfl rfl rfl ?_
  exact ⟨fun h => absurd (.inl (of_decide_eq_true h)) ha, fun _ => ⟨fun h => absurd (.inr (.inl (of_decide_eq_true h))) ha, fun _ => ⟨fun h => absurd (.inr (.inr (of_decide_eq_true h))) ha, fun _ => rfl⟩⟩⟩
theorem print_one (a : Int) (ha : a = 1 ∨ a = 2 ∨ a = 3) (rf nf : Nat) (hn : CtrV Tryz.prog 66 [.i .i64 a] (.tup [.fn rf [], .fn nf []])) (hnf : ∀ n, CtrV Tryz.prog nf [.i .i64 n] (.s (nameF a n))) (cs : List Cn) (ad : Option Addr) (cap : Nat) (hv : ∀ j, in64 (cs.getD j cn0).v) :
    CtrV Tryz.prog 33 [.i .i64 a, .imm Cn cn0 5 cenc cs ad cap] (prV (printR a cs)) := by
  refine Ctr.enterV tabOk (fn := Tryz.f33) rfl rfl rfl rfl rfl rfl ?_
  refine OpC.callV rfl rfl rfl rfl rfl rfl rfl (fun _ => hn) ?_
  refine ⟨fun h => (by cases h), fun _ => ?_⟩
  refine OpC.callV rfl rfl rfl rfl rfl rfl rfl (fun _ => right_ok cs ad cap) ?_
  refine ⟨fun h1 => ?_, fun h1 => ?_⟩
  · have h1 : (!rightB cs) = true := h1
    show _ = prV (printR a cs)
    rw [printR_form ha (by simpa using h1)]
    rfl
  · have h1 : (!rightB cs) = false := h1
    have h2 : rightB cs = true := by simpa using h1
    obtain ⟨⟨q1, q2⟩, q3, q4⟩ := rightP_of h2
    refine OpC.callG rfl rfl rfl rfl rfl rfl (fun _ => Ctr.spread (foldP_ok a nf hnf cs ad cap hv q3 q1 q2) (fun ρ => rfl) _ [0] rfl rfl ⟨rfl, trivial⟩ rfl) ?_
    show _ = prV (printR a cs)
    rw [printR_ok ha h2, ← fold_print h2]
    rfl
theorem print_ok (a : Int) (cs : List Cn) (ad : Option Addr) (cap : Nat) (hv : ∀ j, in64 (cs.getD j cn0).v) : CtrV Tryz.prog 33 [.i .i64 a, .imm Cn cn0 5 cenc cs ad cap] (prV (printR a cs)) := by
  by_cases ha : a = 1 ∨ a = 2 ∨ a = 3
  · rcases ha with rfl | rfl | rfl
    · exact print_one 1 (by decide) _ _ names1 x86Name_ok cs ad cap hv
    · exact print_one 2 (by decide) _ _ names2 riscvName_ok cs ad cap hv
    · exact print_one 3 (by decide) _ _ names3 armName_ok cs ad cap hv
  · refine Ctr.enterV tabOk (fn := Tryz.f33) rfl rfl rfl rfl rfl rfl ?_
    refine OpC.callV rfl rfl rfl rfl rfl rfl rfl (fun _ => names0 ha) ?_
    refine ⟨fun _ => ?_, fun h => by cases h⟩
    show _ = prV (printR a cs)
    rw [printR_arch ha]
    rfl
end SX
end Go.Proofs.YthkedcneehdinaaGreatDoor

/- Which register a name is, of the three machines; cond.names. -/
set_option linter.unusedVariables false
set_option maxRecDepth 100000
namespace Go.Proofs.YthkedcneehdinaaGreatDoor
namespace SX
open Go Go.Proofs
theorem regV_ok (v : List UInt8) : CtrV Tryz.prog 20 [.s v] (.i .i64 (idxF [97, 48] [97, 49] [97, 50] [97, 51] [97, 52] [97, 53] [97, 54] [97, 55] v)) := by
  refine Ctr.enterV tabOkF (fn := Tryz.f20) rfl rfl rfl rfl rfl rfl ?_
  refine OpC.callL rfl rfl rfl rfl [] 2 rfl rfl rfl riscv_lang rfl rfl rfl rfl trivial rfl (fun r H' hk => ?_) ?_
  · obtain ⟨rfl, rfl⟩ := hk; exact ⟨Nat.zero_le _, Nat.le_refl _⟩
  rintro r H' ⟨rfl, rfl⟩
  refine OpC.callG rfl rfl rfl rfl rfl rfl (fun _ => lreg_ok [97, 48] [97, 49] [97, 50] [97, 51] [97, 52] [97, 53] [97, 54] [97, 55] [] v 91 92) ?_
  exact rfl
theorem regA_ok (v : List UInt8) : CtrV Tryz.prog 28 [.s v] (.i .i64 (idxF [88, 48] [88, 49] [88, 50] [88, 51] [88, 52] [88, 53] [88, 54] [88, 55] v)) := by
  refine Ctr.enterV tabOkF (fn := Tryz.f28) rfl rfl rfl rfl rfl rfl ?_
  refine OpC.callL rfl rfl rfl rfl [] 2 rfl rfl rfl arm_lang rfl rfl rfl rfl trivial rfl (fun r H' hk => ?_) ?_
  · obtain ⟨rfl, rfl⟩ := hk; exact ⟨Nat.zero_le _, Nat.le_refl _⟩
  rintro r H' ⟨rfl, rfl⟩
  refine OpC.callG rfl rfl rfl rfl rfl rfl (fun _ => lreg_ok [88, 48] [88, 49] [88, 50] [88, 51] [88, 52] [88, 53] [88, 54] [88, 55] [35] v 103 104) ?_
  exact rfl
theorem call_V {f : Nat} {args : List SV} {r : SV} (h : (match runM treeF ftree [] 40 f args [] with | some (r1, H1) => sveq (fin true [] r1 H1).1 r && sbL (fin true [] r1 H1).2 [] | none => false) = true) : CtrV Tryz.prog f args r := by
  cases hq : runM treeF ftree [] 40 f args [] with
  | none => rw [hq] at h; cases h
  | some q =>
    obtain ⟨r1, H1⟩ := q
    rw [hq] at h
    simp only [Bool.and_eq_true] at h
    have := fin_ok callX_m true (runM_ok (tr := treeF) (ft := ftree) (ms := []) tabOkF ftOk mixed (by intro m hm; cases hm) 40 _ _ _ _ _ hq)
    rw [sveq_ok _ _ h.1, sbL_ok _ _ h.2] at this
    exact this
/-- A machine's registers' reader. -/
def cfid (a : Int) : Nat := if a = 1 then 35 else if a = 2 then 20 else 28
def cnid (a : Int) : Nat := if a = 1 then 36 else if a = 2 then 18 else 27
def cixF (a : Int) (v : List UInt8) : Int := if a = 1 then idxF [82, 65, 88] [82, 66, 88] [82, 67, 88] [82, 68, 88] [82, 83, 73] [82, 68, 73] [82, 56] [82, 57] v else if a = 2 then idxF [97, 48] [97, 49] [97, 50] [97, 51] [97, 52] [97, 53] [97, 54] [97, 55] v else idxF [88, 48] [88, 49] [88, 50] [88, 51] [88, 52] [88, 53] [88, 54] [88, 55] v
theorem cfid_ok {a : Int} (ha : a = 1 ∨ a = 2 ∨ a = 3) (v : List UInt8) : CtrV Tryz.prog (cfid a) [.s v] (.i .i64 (cixF a v)) := by
  rcases ha with rfl | rfl | rfl
  · exact x86Reg_ok v
  · exact regV_ok v
  · exact regA_ok v
theorem names_w (a : Int) : CtrV Tryz.prog 66 [.i .i64 a] (if a = 1 ∨ a = 2 ∨ a = 3 then .tup [.fn (cfid a) [], .fn (cnid a) []] else .tup [.raw .nilFunc, .raw .nilFunc]) := by
  by_cases h1 : a = 1
  · subst h1
    exact call_V (by decide +kernel)
  by_cases h2 : a = 2
  · subst h2
    exact call_V (by decide +kernel)
  by_cases h3 : a = 3
  · subst h3
    exact call_V (by decide +kernel)
  rw [if_neg (by omega)]
  refine Ctr.enterV tabOkF (fn := Tryz.f66) rfl rfl rfl rfl rfl rfl ?_
  refine ⟨fun h => absurd (of_decide_eq_true h) h1, fun _ => ?_⟩
  refine ⟨fun h => absurd (of_decide_eq_true h) h2, fun _ => ?_⟩
  refine ⟨fun h => absurd (of_decide_eq_true h) h3, fun _ => ?_⟩
  exact rfl
end SX
end Go.Proofs.YthkedcneehdinaaGreatDoor

/- Conditions: a text's words, plain. -/
set_option linter.unusedVariables false
set_option maxRecDepth 100000
namespace Go.Proofs.YthkedcneehdinaaGreatDoor
namespace SX
open Go Go.Proofs
inductive Tks : List UInt8 → List Ky → Prop
  | nil : Tks [] []
  | sp {r : List UInt8} {ks : List Ky} : Tks r ks → Tks (32 :: r) ks
  | wd {w r : List UInt8} {k n : Int} {ks : List Ky} : w ≠ [] → (∀ p, stepF (w ++ r) p = .tok ⟨k, w, n, p⟩) → Tks r ks → Tks (w ++ r) ((k, w, n) :: ks)
theorem tks_tokC {x : List UInt8} {ks : List Ky} (h : Tks x ks) : ∀ {s : List UInt8} {f p : Nat} {out : List Tk}, s.drop p = x → p ≤ s.length → s.length < p + f → ∃ ts : List Tk, tokC s f p out = (out ++ ts, 0, 0) ∧ ts.map key = ks := by
  induction h with
  | nil =>
    intro s f p out hx hp hf
    have : s.length ≤ p := by
      have := congrArg List.length hx
      simp at this; omega
    exact ⟨[], by rw [tokC_end this, List.append_nil], rfl⟩
  | sp _ ih =>
    rename_i r ks _
    intro s f p out hx hp hf
    have hl : p < s.length := by
      have := congrArg List.length hx
      simp at this; omega
    obtain ⟨f', rfl, hst⟩ := tokC_step (out := out) hl hf
    rw [hx, step_sp] at hst
    have hd : s.drop (p + 1) = r := by rw [← List.drop_drop, hx]; rfl
    obtain ⟨ts, h1, h2⟩ := ih (s := s) (f := f') (p := p + 1) (out := out) hd hl (by omega)
    exact ⟨ts, hst.trans h1, h2⟩
  | wd hw hs _ ih =>
    rename_i w r k n ks _
    intro s f p out hx hp hf
    have hwl : 0 < w.length := List.length_pos_iff.2 hw
    have hl : p + w.length ≤ s.length := by
      have := congrArg List.length hx
      simp at this; omega
    obtain ⟨f', rfl, hst⟩ := tokC_step (out := out) (by omega) hf
    rw [hx, hs p] at hst
    have hd : s.drop (p + w.length) = r := by rw [← List.drop_drop, hx, List.drop_left]
    obtain ⟨ts, h1, h2⟩ := ih (s := s) (f := f') (p := p + w.length) (out := out ++ [⟨k, w, n, p⟩]) hd hl (by omega)
    exact ⟨⟨k, w, n, p⟩ :: ts, by rw [hst]; simpa using h1, by simp [h2, key]⟩
theorem tks_tokF {s : List UInt8} {ks : List Ky} (h : Tks s ks) (hl : s.length ≤ 8192) : ∃ ts : List Tk, tokF s = (ts, 0, 0) ∧ ts.map key = ks := by
  obtain ⟨ts, h1, h2⟩ := tks_tokC h (s := s) (f := s.length + 1) (p := 0) (out := []) rfl (Nat.zero_le _) (by omega)
  exact ⟨ts, by unfold tokF; rw [if_neg (by omega), h1]; rfl, h2⟩
/-! Words. -/
theorem tks_nam {w r : List UInt8} {ks : List Ky} (h : nmB w = true) (hs : stopB namB r = true) (hr : Tks r ks) : Tks (w ++ r) ((1, w, 0) :: ks) := .wd (nm_ne h) (fun p => step_nam h hs) hr
theorem step_mk {c : UInt8} {r : List UInt8} {p : Nat} (h : c = 58 ∨ c = 61 ∨ c = 126 ∨ c = 41 ∨ c = 45) : stepF ([c] ++ r) p = .tok ⟨3, [c], 0, p⟩ := by
  have key : ∀ x : UInt8, cd ([x] ++ r) 0 = (x.toNat : Int) := fun x => rfl
  unfold stepF
  rcases h with rfl | rfl | rfl | rfl | rfl
  all_goals
    rw [pre_head (a := 40) (x := [42]) (by rw [key]; decide), pre_head (a := 47) (x := [92]) (by rw [key]; decide), pre_head (a := 92) (x := [47]) (by rw [key]; decide)]
    rfl
theorem tks_mk {c : UInt8} {r : List UInt8} {ks : List Ky} (h : c = 58 ∨ c = 61 ∨ c = 126 ∨ c = 41 ∨ c = 45) (hr : Tks r ks) : Tks (c :: r) ((3, [c], 0) :: ks) := Tks.wd (w := [c]) (by simp) (fun p => step_mk h) hr
/-- What begins with anything but a star. -/
def h42 (s : List UInt8) : Prop := ∃ c r, s = c :: r ∧ c ≠ 42
theorem tks_par {r : List UInt8} {ks : List Ky} (h : h42 r) (hr : Tks r ks) : Tks (40 :: r) ((3, [40], 0) :: ks) := by
  obtain ⟨c, r', rfl, hc⟩ := h
  refine Tks.wd (w := [40]) (by simp) (fun p => ?_) hr
  have key : ∀ x : UInt8, cd ([x] ++ c :: r') 0 = (x.toNat : Int) := fun x => rfl
  have h0 : pre ([40] ++ c :: r') [40, 42] = false := by
    cases hq : pre ([40] ++ c :: r') [40, 42] with
    | false => rfl
    | true =>
      obtain ⟨t, ht⟩ := pre_iff.1 hq
      simp at ht
      exact absurd ht.1 hc
  unfold stepF
  rw [h0, pre_head (a := 47) (x := [92]) (by rw [key]; decide), pre_head (a := 92) (x := [47]) (by rw [key]; decide)]
  rfl
theorem tks_and {r : List UInt8} {ks : List Ky} (hr : Tks r ks) : Tks (47 :: 92 :: r) ((3, [47, 92], 0) :: ks) := by
  refine Tks.wd (w := [47, 92]) (by simp) (fun p => ?_) hr
  have key : cd ([47, 92] ++ r) 0 = 47 := rfl
  have h1 : pre ([47, 92] ++ r) [47, 92] = true := pre_iff.2 ⟨r, rfl⟩
  unfold stepF
  rw [pre_head (a := 40) (x := [42]) (by rw [key]; decide), h1]
  rfl
theorem tks_or {r : List UInt8} {ks : List Ky} (hr : Tks r ks) : Tks (92 :: 47 :: r) ((3, [92, 47], 0) :: ks) := by
  refine Tks.wd (w := [92, 47]) (by simp) (fun p => ?_) hr
  have key : cd ([92, 47] ++ r) 0 = 92 := rfl
  have h1 : pre ([92, 47] ++ r) [92, 47] = true := pre_iff.2 ⟨r, rfl⟩
  unfold stepF
  rw [pre_head (a := 40) (x := [42]) (by rw [key]; decide), h1, Bool.or_true]
  rfl
theorem tks_dec {u : Nat} (hn : u ≤ 9223372036854775808) {r : List UInt8} {ks : List Ky} (hs : stopB numB r = true) (h : Tks r ks) : Tks (Lib.decDigits u ++ r) ((2, Lib.decDigits u, IntKind.i64.wrap u) :: ks) := by
  have ha := dec_all u
  have hd : ∀ c ∈ Lib.decDigits u, digB (c.toNat : Int) = true := fun c hc => by
    obtain ⟨h1, h2⟩ := ha c hc
    unfold digB
    rw [decide_eq_true (by omega), decide_eq_true (by omega)]; rfl
  refine .wd (dec_ne u) (fun p => step_num ?_ ?_ hs (dec_num hn)) h
  · refine List.all_eq_true.2 fun c hc => ?_
    unfold numB
    rw [hd c hc, Bool.or_true]
  · have hne := dec_ne u
    match hq : Lib.decDigits u, hne with
    | c :: r', _ => exact hd c (by rw [hq]; simp)
theorem tks_itoa {n : Int} (hn : in64 n) {r : List UInt8} {ks : List Ky} (hs : stopB numB r = true) (h : Tks r ks) : Tks (Lib.itoa n ++ r) (numK n ++ ks) := by
  obtain ⟨h1, h2⟩ := hn
  unfold Lib.itoa numK
  split
  · exact tks_mk (c := 45) (by simp) (tks_dec (by omega) hs h)
  · exact tks_dec (by omega) hs h
/-! A condition's words. -/
def leafK (a : Int) (c : Cn) : List Ky := if c.k = 1 then (2, Lib.decDigits c.t.toNat, IntKind.i64.wrap c.t.toNat) :: (3, [58], 0) :: (1, nameF a c.r, 0) :: (3, [61], 0) :: numK c.v else (1, locF c.l, 0) :: (3, [61], 0) :: numK c.v
def brkK (b : Bool) (ks : List Ky) : List Ky := if b then (3, [40], 0) :: (ks ++ [(3, [41], 0)]) else ks
def kT (a : Int) : CT → List Ky
  | .leaf c => leafK a c
  | .un _ l => (3, [126], 0) :: brkK (decide (lvF l.c.k < 2)) (kT a l)
  | .bin c l r => if c.k = 4 then brkK (decide (lvF l.c.k < 1)) (kT a l) ++ (3, [47, 92], 0) :: brkK (decide (lvF r.c.k < 2)) (kT a r)
    else brkK (decide (lvF l.c.k < 0)) (kT a l) ++ (3, [92, 47], 0) :: brkK (decide (lvF r.c.k < 1)) (kT a r)
theorem h42_app {s x : List UInt8} (h : h42 s) : h42 (s ++ x) := by
  obtain ⟨c, r, rfl, hc⟩ := h
  exact ⟨c, r ++ x, rfl, hc⟩
theorem h42_brk {b : Bool} {s : List UInt8} (h : h42 s) : h42 (brk b s) := by
  unfold brk
  split
  · exact ⟨40, s ++ [41], rfl, by decide⟩
  · exact h
theorem h42_dec (u : Nat) : h42 (Lib.decDigits u) := by
  have hne := dec_ne u
  match hq : Lib.decDigits u, hne with
  | c :: r, _ => exact ⟨c, r, rfl, fun e => by have := dec_all u c (by rw [hq]; simp); rw [e] at this; exact absurd this.1 (by decide)⟩
theorem h42_txt (a : Int) : ∀ t : CT, t.good → h42 (txt a t)
  | .leaf c, h => by
    obtain ⟨hk, hp, hv⟩ := h
    unfold txt
    split
    · rename_i h1
      have h2 := (parts_reg hp h1).1
      have e : Lib.itoa c.t = Lib.decDigits c.t.toNat := by unfold Lib.itoa; rw [if_neg (by omega)]
      rw [e]
      exact h42_app (h42_app (h42_app (h42_app (h42_dec _))))
    · rename_i h1
      have h2 := parts_loc hp (hk.resolve_left h1)
      refine ⟨UInt8.ofNat (120 + c.l.toNat), _, rfl, ?_⟩
      rcases (by omega : c.l = 0 ∨ c.l = 1 ∨ c.l = 2) with e | e | e <;> rw [e] <;> decide
  | .un _ l, h => ⟨126, _, rfl, by decide⟩
  | .bin c l r, h => by
    unfold txt
    split
    · exact h42_app (h42_app (h42_brk (h42_txt a l h.2.1)))
    · exact h42_app (h42_app (h42_brk (h42_txt a l h.2.1)))
def TksT (s : List UInt8) (k : List Ky) : Prop := ∀ (x : List UInt8) (ks : List Ky), stopB numB x = true → Tks x ks → Tks (s ++ x) (k ++ ks)
theorem tks_brk {s : List UInt8} {k : List Ky} (b : Bool) (hs : h42 s) (h : TksT s k) : TksT (brk b s) (brkK b k) := by
  intro x ks hx hr
  unfold brk brkK
  cases b with
  | false => exact h x ks hx hr
  | true =>
    have h1 := h (41 :: x) ((3, [41], 0) :: ks) rfl (tks_mk (by simp) hr)
    have h2 := tks_par (h42_app hs) h1
    simpa using h2
theorem nameF_nm {a : Int} (ha : a = 1 ∨ a = 2 ∨ a = 3) {r : Int} (h0 : 0 ≤ r) (h8 : r < 8) : nmB (nameF a r) = true := by
  rcases ha with rfl | rfl | rfl
  · exact lgX_ok.nm r h0 h8
  · exact lgR_ok.nm r h0 h8
  · exact lgA_ok.nm r h0 h8
theorem tks_txt {a : Int} (ha : a = 1 ∨ a = 2 ∨ a = 3) : ∀ t : CT, t.good → TksT (txt a t) (kT a t)
  | .leaf c, h => by
    obtain ⟨hk, hp, hv⟩ := h
    intro x ks hx hr
    unfold txt kT leafK
    split
    · rename_i h1
      obtain ⟨h2, h3⟩ := parts_reg hp h1
      have e : Lib.itoa c.t = Lib.decDigits c.t.toNat := by unfold Lib.itoa; rw [if_neg (by omega)]
      rw [e]
      have q1 := tks_itoa hv hx hr
      have q2 := tks_mk (c := 61) (by simp) q1
      have q3 := tks_nam (nameF_nm ha (by omega) (by omega) : nmB (nameF a c.r) = true) rfl q2
      have q4 := tks_mk (c := 58) (by simp) q3
      have q5 := tks_dec (u := c.t.toNat) (by omega) rfl q4
      simpa using q5
    · rename_i h1
      have h2 := parts_loc hp (hk.resolve_left h1)
      have q1 := tks_itoa hv hx hr
      have q2 := tks_mk (c := 61) (by simp) q1
      have q3 := tks_nam (loc_of (by omega : c.l = 0 ∨ c.l = 1 ∨ c.l = 2)).2 rfl q2
      simpa using q3
  | .un _ l, h => by
    intro x ks hx hr
    have q := tks_brk (decide (lvF l.c.k < 2)) (h42_txt a l h.2) (tks_txt ha l h.2) x ks hx hr
    exact tks_mk (c := 126) (by simp) q
  | .bin c l r, h => by
    intro x ks hx hr
    unfold txt kT
    split
    · have q1 := tks_brk (decide (lvF r.c.k < 2)) (h42_txt a r h.2.2) (tks_txt ha r h.2.2) x ks hx hr
      have q2 := tks_brk (decide (lvF l.c.k < 1)) (h42_txt a l h.2.1) (tks_txt ha l h.2.1) _ _ rfl (.sp (tks_and (.sp q1)))
      simpa using q2
    · have q1 := tks_brk (decide (lvF r.c.k < 1)) (h42_txt a r h.2.2) (tks_txt ha r h.2.2) x ks hx hr
      have q2 := tks_brk (decide (lvF l.c.k < 0)) (h42_txt a l h.2.1) (tks_txt ha l h.2.1) _ _ rfl (.sp (tks_or (.sp q1)))
      simpa using q2
end SX
end Go.Proofs.YthkedcneehdinaaGreatDoor

/- cond.Parse: what it hands back. Printed by cpc.py. -/
set_option linter.unusedVariables false
set_option maxRecDepth 100000
namespace Go.Proofs.YthkedcneehdinaaGreatDoor
namespace SX
open Go Go.Proofs
def CpN (R : List Cn × Int × Int) (r : SV) (h : List SB) : Prop :=
  (∃ cs ad cap, R = (cs, 0, 0) ∧ r = .tup [.imm Cn cn0 5 cenc cs ad cap, .i .i64 0, .i .i64 0]) ∨ (∃ e q, e ≠ 0 ∧ R = ([], e, q) ∧ r = .tup [.nils, .i .i64 e, .i .i64 q])
theorem cparse_yes {f : List UInt8 → Int} {ts : List Tk} {s : RS} (h : cpS f ts = s) (he : s.e = 0) : cparseF f ts = ((cpX f ts).2, 0, 0) := by unfold cparseF; rw [h, if_pos he]
theorem cparse_no {f : List UInt8 → Int} {ts : List Tk} {s : RS} (h : cpS f ts = s) (he : s.e ≠ 0) : cparseF f ts = ([], s.e, s.q) := by unfold cparseF; rw [h, if_neg he]
set_option maxHeartbeats 4000000 in
theorem cparse_key (a : Int) (ha : a = 1 ∨ a = 2 ∨ a = 3) (ts : List Tk) (ad : Option Addr) (cap : Nat) (hl : ts.length ≤ 100000) (hn : ad = none → ts = []) : Ctr Tryz.prog 30 [.i .i64 a, .imm Tk tk0 4 tkenc ts ad cap] []
    (fun r h => (∃ (xs : List Cn) (ver k : Nat) (y z : SV), r = .tup [.sl k ver 0 xs.length none 0, y, z] ∧ h[k]? = some (.mem 84 [.arr xs.length Cn cn0 5 cenc xs] ver 5) ∧ ver ≠ 0 ∧ ∀ ad cap, CpN (cparseF (cixF a) ts) (.tup [.imm Cn cn0 5 cenc xs ad cap, y, z]) (h.set k (.gone ver))) ∨ CpN (cparseF (cixF a) ts) r h) := by
  have hnm := names_w a
  rw [if_pos ha] at hnm
  refine Ctr.enter tabOkM (fn := Tryz.f30) rfl rfl rfl rfl rfl ?_
  refine OpC.callV rfl rfl rfl rfl rfl rfl rfl (fun _ => hnm) ?_
  refine ⟨fun h => no_ft h, fun _ => ?_⟩
  refine OpC.callL rfl rfl rfl rfl [0] 2 rfl rfl rfl (zNew_w ts ad cap hl hn) rfl rfl rfl rfl ⟨rfl, trivial⟩ rfl (fun r H' hk => ?_) ?_
  · obtain ⟨_, _, _, rfl⟩ := hk; exact ⟨by show 1 ≤ 3; decide, Nat.le_refl _⟩
  rintro r H' ⟨rfl, ad', cap', rfl⟩
  refine OpC.shift (Shift.rowIn (i := 3) (pre := [.ptr 2 1 0 [], .fn (cfid a) []]) (post := []) rfl 4 84 [.arr 0 Cn cn0 5 cenc []] (fun E => rfl) (fun m V => ⟨⟨rfl, rfl, cencw, fun j hj => by omega⟩, trivial⟩) rfl) ?_
  refine OpC.callH rfl rfl rfl rfl [1] rfl (at_ok (ad := ad') (cap := cap') (ts := ts) (p := 0) (Nat.zero_le _) hl) rfl rfl rfl rfl ⟨rfl, trivial⟩ rfl ?_
  refine OpC.callL rfl rfl rfl rfl [0, 1, 2, 3, 4] 0 rfl rfl rfl (or_w (c := ⟨lgX, 0, 0, ts, ad', cap', []⟩) (fid := cfid a) (fun x h => stp_atm (cixF a) ts (ts.length + 1) x h) (atom_w (c := ⟨lgX, 0, 0, ts, ad', cap', []⟩) (cfid_ok ha) (ts.length + 1)) (rs0, []) 0 ⟨Nat.zero_le _, hl⟩ (by show ts.length - 0 < ts.length + 1; omega) (Nat.zero_le _) rfl) rfl rfl rfl rfl ⟨rfl, rfl, rfl, rfl, rfl, trivial⟩ rfl (fun r H' hk => ?_) ?_
  · obtain ⟨_, v', _, rfl⟩ := hk; exact ⟨Nat.le_refl _, Nat.le_refl _⟩
  rintro r H' ⟨rfl, v, hv, rfl⟩
  have hpos := cpX_pos (cixF a) ts
  have hst : Stp ts (rs0, []) (cpX (cixF a) ts) := stp_or (fun x h => stp_atm (cixF a) ts (ts.length + 1) x h) (ts.length + 1) (rs0, []) (Nat.zero_le _)
  have hS : cpS (cixF a) ts = if 32 < (cpX (cixF a) ts).2.length then failF (moreF ts (cpX (cixF a) ts).1) 2 (whF ts 0) else moreF ts (cpX (cixF a) ts).1 := rfl
  have hR1 := @cparse_yes (cixF a) ts
  have hR2 := @cparse_no (cixF a) ts
  have hpt := hst.t
  change v = (cpX (cixF a) ts).2.length at hv
  have hv0 : v ≠ 0 := by omega
  show setBK _ (zipB _ (hK _ _ (cpX (cixF a) ts) v) 0) _
  generalize cpX (cixF a) ts = x at *
  have hrk : Rk ⟨lgX, 0, 0, ts, ad', cap', []⟩ x.1 := ⟨hpt, hl⟩
  refine OpC.callH rfl rfl rfl rfl [1] rfl (left_ok (ad := ad') (cap := cap') (ts := ts) (p := x.1.p) hpt hl) rfl rfl rfl rfl ⟨rfl, trivial⟩ rfl ?_
  refine ⟨fun h5 => ?_, fun h5 => ?_⟩
  · have h5 : x.1.p < ts.length := by have h5 : decide ((0 : Int) < ((ts.length - x.1.p : Nat) : Int)) = true := h5; simp at h5; omega
    have hm : moreF ts x.1 = failF x.1 25 (whF ts x.1.p) := if_pos h5
    refine WpC.dr tabOkM mixed 0 ?_
    refine OpD.callL rfl rfl rfl rfl [1] 0 rfl rfl (at_ok (ad := ad') (cap := cap') (ts := ts) (p := x.1.p) hpt hl) rfl rfl rfl rfl ⟨rfl, trivial⟩ rfl rfl ?_
    refine OpD.callL rfl rfl rfl rfl [0, 1, 2] 0 rfl rfl (zfail_ok (c := ⟨lgX, 0, 0, ts, ad', cap', []⟩) (s := x.1) 25 (whF ts x.1.p)) rfl rfl rfl rfl ⟨rfl, rfl, rfl, trivial⟩ rfl rfl ?_
    refine ⟨by kernel_rfl, ?_⟩
    refine ⟨fun h6 => ?_, fun h6 => ?_⟩
    · have h6 : 32 < x.2.length := by have h6 : decide ((32 : Int) < (x.2.length : Int)) = true := h6; simp at h6; omega
      rw [if_pos h6, hm] at hS
      refine OpC.callH rfl rfl rfl rfl [0, 1, 2] rfl (zfail_ok (c := ⟨lgX, 0, 0, ts, ad', cap', []⟩) (s := (failF x.1 25 (whF ts x.1.p))) 2 (whF ts 0)) rfl rfl rfl rfl ⟨rfl, rfl, rfl, trivial⟩ rfl ?_
      refine OpC.callH rfl rfl rfl rfl [0, 1, 2] rfl (zbad_ok (c := ⟨lgX, 0, 0, ts, ad', cap', []⟩) (failF (failF x.1 25 (whF ts x.1.p)) 2 (whF ts 0))) rfl rfl rfl rfl ⟨rfl, rfl, rfl, trivial⟩ rfl ?_
      refine ⟨fun h7 => ?_, fun h7 => ?_⟩
      · have h7 : (!decide ((failF (failF x.1 25 (whF ts x.1.p)) 2 (whF ts 0)).e = 0)) = true := h7
        have h7 : (failF (failF x.1 25 (whF ts x.1.p)) 2 (whF ts 0)).e ≠ 0 := by simpa using h7
        exact .inr (.inr ⟨_, _, h7, hR2 hS h7, rfl⟩)
      · have h7 : (!decide ((failF (failF x.1 25 (whF ts x.1.p)) 2 (whF ts 0)).e = 0)) = false := h7
        have h7 : (failF (failF x.1 25 (whF ts x.1.p)) 2 (whF ts 0)).e = 0 := by simpa using h7
        exact .inl ⟨x.2, v, 4, _, _, rfl, rfl, hv0, fun ad cap => .inl ⟨x.2, ad, cap, hR1 hS h7, rfl⟩⟩
    · have h6 : ¬ 32 < x.2.length := by have h6 : decide ((32 : Int) < (x.2.length : Int)) = false := h6; simp at h6; omega
      rw [if_neg h6, hm] at hS
      refine OpC.callH rfl rfl rfl rfl [0, 1, 2] rfl (zbad_ok (c := ⟨lgX, 0, 0, ts, ad', cap', []⟩) (failF x.1 25 (whF ts x.1.p))) rfl rfl rfl rfl ⟨rfl, rfl, rfl, trivial⟩ rfl ?_
      refine ⟨fun h7 => ?_, fun h7 => ?_⟩
      · have h7 : (!decide ((failF x.1 25 (whF ts x.1.p)).e = 0)) = true := h7
        have h7 : (failF x.1 25 (whF ts x.1.p)).e ≠ 0 := by simpa using h7
        exact .inr (.inr ⟨_, _, h7, hR2 hS h7, rfl⟩)
      · have h7 : (!decide ((failF x.1 25 (whF ts x.1.p)).e = 0)) = false := h7
        have h7 : (failF x.1 25 (whF ts x.1.p)).e = 0 := by simpa using h7
        exact .inl ⟨x.2, v, 4, _, _, rfl, rfl, hv0, fun ad cap => .inl ⟨x.2, ad, cap, hR1 hS h7, rfl⟩⟩
  · have h5 : ¬ x.1.p < ts.length := by have h5 : decide ((0 : Int) < ((ts.length - x.1.p : Nat) : Int)) = false := h5; simp at h5; omega
    have hm : moreF ts x.1 = x.1 := if_neg h5
    refine ⟨fun h6 => ?_, fun h6 => ?_⟩
    · have h6 : 32 < x.2.length := by have h6 : decide ((32 : Int) < (x.2.length : Int)) = true := h6; simp at h6; omega
      rw [if_pos h6, hm] at hS
      refine OpC.callH rfl rfl rfl rfl [0, 1, 2] rfl (zfail_ok (c := ⟨lgX, 0, 0, ts, ad', cap', []⟩) (s := x.1) 2 (whF ts 0)) rfl rfl rfl rfl ⟨rfl, rfl, rfl, trivial⟩ rfl ?_
      refine OpC.callH rfl rfl rfl rfl [0, 1, 2] rfl (zbad_ok (c := ⟨lgX, 0, 0, ts, ad', cap', []⟩) (failF x.1 2 (whF ts 0))) rfl rfl rfl rfl ⟨rfl, rfl, rfl, trivial⟩ rfl ?_
      refine ⟨fun h7 => ?_, fun h7 => ?_⟩
      · have h7 : (!decide ((failF x.1 2 (whF ts 0)).e = 0)) = true := h7
        have h7 : (failF x.1 2 (whF ts 0)).e ≠ 0 := by simpa using h7
        exact .inr (.inr ⟨_, _, h7, hR2 hS h7, rfl⟩)
      · have h7 : (!decide ((failF x.1 2 (whF ts 0)).e = 0)) = false := h7
        have h7 : (failF x.1 2 (whF ts 0)).e = 0 := by simpa using h7
        exact .inl ⟨x.2, v, 4, _, _, rfl, rfl, hv0, fun ad cap => .inl ⟨x.2, ad, cap, hR1 hS h7, rfl⟩⟩
    · have h6 : ¬ 32 < x.2.length := by have h6 : decide ((32 : Int) < (x.2.length : Int)) = false := h6; simp at h6; omega
      rw [if_neg h6, hm] at hS
      refine OpC.callH rfl rfl rfl rfl [0, 1, 2] rfl (zbad_ok (c := ⟨lgX, 0, 0, ts, ad', cap', []⟩) x.1) rfl rfl rfl rfl ⟨rfl, rfl, rfl, trivial⟩ rfl ?_
      refine ⟨fun h7 => ?_, fun h7 => ?_⟩
      · have h7 : (!decide (x.1.e = 0)) = true := h7
        have h7 : x.1.e ≠ 0 := by simpa using h7
        exact .inr (.inr ⟨_, _, h7, hR2 hS h7, rfl⟩)
      · have h7 : (!decide (x.1.e = 0)) = false := h7
        have h7 : x.1.e = 0 := by simpa using h7
        exact .inl ⟨x.2, v, 4, _, _, rfl, rfl, hv0, fun ad cap => .inl ⟨x.2, ad, cap, hR1 hS h7, rfl⟩⟩
theorem cparse_w (a : Int) (ha : a = 1 ∨ a = 2 ∨ a = 3) (ts : List Tk) (ad : Option Addr) (cap : Nat) (hl : ts.length ≤ 100000) (hn : ad = none → ts = []) : Ctr Tryz.prog 30 [.i .i64 a, .imm Tk tk0 4 tkenc ts ad cap] [] (CpK (cparseF (cixF a) ts)) :=
  (Cp.row3k callX_m rfl cencw cnok (cparse_key a ha ts ad cap hl hn)).trim callX_m fun r H1 hk => by
    rcases hk with ⟨cs, ad, cap, h1, rfl⟩ | ⟨e, q, he, h1, rfl⟩
    · exact ⟨[], H1, rfl, Nat.zero_le _, trivial, rfl, .inl ⟨cs, ad, cap, h1, rfl, rfl⟩⟩
    · exact ⟨[], H1, rfl, Nat.zero_le _, trivial, rfl, .inr ⟨e, q, he, h1, rfl, rfl⟩⟩
theorem cparse_other (a : Int) (ha : ¬ (a = 1 ∨ a = 2 ∨ a = 3)) (ts : List Tk) (ad : Option Addr) (cap : Nat) : CtrV Tryz.prog 30 [.i .i64 a, .imm Tk tk0 4 tkenc ts ad cap] (.tup [.nils, .i .i64 36, .i .i64 0]) := by
  have hnm := names_w a
  rw [if_neg ha] at hnm
  refine Ctr.enterV tabOkM (fn := Tryz.f30) rfl rfl rfl rfl rfl rfl ?_
  refine OpC.callV rfl rfl rfl rfl rfl rfl rfl (fun _ => hnm) ?_
  refine ⟨fun _ => ?_, fun h => no_tf h⟩
  exact rfl
end SX
end Go.Proofs.YthkedcneehdinaaGreatDoor

/- Conditions: a text's words, read again, plain. -/
set_option linter.unusedVariables false
set_option maxRecDepth 100000
namespace Go.Proofs.YthkedcneehdinaaGreatDoor
namespace SX
open Go Go.Proofs
def CT.post : CT → List Cn
  | .leaf c => [c]
  | .un c l => l.post ++ [c]
  | .bin c l r => l.post ++ (r.post ++ [c])
/-- Its inner nodes are but a kind. -/
def CT.bare : CT → Prop
  | .leaf _ => True
  | .un c l => c = nodC 3 ∧ l.bare
  | .bin c l r => (c = nodC 4 ∨ c = nodC 5) ∧ l.bare ∧ r.bare
variable {ts : List Tk} {p : Nat}
theorem Dr.mk' {k : Int} {s : List UInt8} {n : Int} {l : List Ky} (h : Dr ts p ((k, s, n) :: l)) : isP ts s (st p) = decide (k = 3) := by
  obtain ⟨h1, h2, _, _, _⟩ := h.at'
  unfold isP
  rw [show (st p).p = p from rfl, h1, h2]; simp
theorem Dr.no {k : Int} {s m : List UInt8} {n : Int} {l : List Ky} (h : Dr ts p ((k, s, n) :: l)) (hs : k ≠ 3 ∨ s ≠ m) : isP ts m (st p) = false := by
  obtain ⟨h1, h2, _, _, _⟩ := h.at'
  unfold isP
  rw [show (st p).p = p from rfl, h1, h2]
  rcases hs with hs | hs
  · rw [decide_eq_false hs]; rfl
  · rw [decide_eq_false hs, Bool.and_false]
theorem isP_end {m : List UInt8} (h : Dr ts p []) : isP ts m (st p) = false := by
  have hl := h.end'
  have e : tkAt ts p = tk0 := by unfold tkAt; rw [List.getD_eq_getElem?_getD, List.getElem?_eq_none (by omega)]; rfl
  unfold isP
  rw [show (st p).p = p from rfl, e]
  rfl
/-- What stands behind does not begin with a mark. -/
def NoM (m : List UInt8) (l : List Ky) : Prop := match l with | [] => True | (k, s, _) :: _ => k ≠ 3 ∨ s ≠ m
theorem NoM.is {m : List UInt8} {l : List Ky} (h : NoM m l) (hd : Dr ts p l) : isP ts m (st p) = false := by
  match l, h, hd with
  | [], _, hd => exact isP_end hd
  | (k, s, n) :: l, h, hd => exact hd.no h
theorem row_stop {part : CX → CX} {m : List UInt8} {k : Int} {x : CX} (h : isP ts m x.1 = false) : ∀ n, rowL part ts m k n x = x
  | 0 => rfl
  | n + 1 => by show (if _ then _ else _) = _; rw [if_neg (by rw [h]; decide)]
theorem row_step {part : CX → CX} {m : List UInt8} {k : Int} {out : List Cn} (h : isP ts m (st p) = true) (n : Nat) : rowL part ts m k (n + 1) (st p, out) = rowL part ts m k n ((part (st (p + 1), out)).1, (part (st (p + 1), out)).2 ++ [nodC k]) := by
  show (if _ then _ else _) = _
  rw [if_pos h, if_neg (by simp [st])]
  rfl
/-! The three ways in which a text is read. -/
def RdA (f : List UInt8 → Int) (k : List Ky) (o : List Cn) : Prop := ∀ (N : Nat) (ts : List Tk) (p : Nat) (out : List Cn) (l : List Ky), Dr ts p (k ++ l) → ts.length - p < N → ∃ p', atmG f ts N (st p, out) = (st p', out ++ o) ∧ Dr ts p' l
def RdN (f : List UInt8 → Int) (k : List Ky) (o : List Cn) : Prop := ∀ (N : Nat) (ts : List Tk) (p : Nat) (out : List Cn) (l : List Ky), Dr ts p (k ++ l) → ts.length - p < N → ∃ p' n', andG (atmG f ts N) ts N (st p, out) = rowL (atmG f ts N) ts [47, 92] 4 n' (st p', out ++ o) ∧ ts.length - p' < n' ∧ Dr ts p' l ∧ p ≤ p'
def RdO (f : List UInt8 → Int) (k : List Ky) (o : List Cn) : Prop := ∀ (N : Nat) (ts : List Tk) (p : Nat) (out : List Cn) (l : List Ky), Dr ts p (k ++ l) → ts.length - p < N → NoM [47, 92] l → ∃ p' n', orG (atmG f ts N) ts N (st p, out) = rowL (andG (atmG f ts N) ts N) ts [92, 47] 5 n' (st p', out ++ o) ∧ ts.length - p' < n' ∧ Dr ts p' l ∧ p ≤ p'
theorem atm_le {f : List UInt8 → Int} {N p' : Nat} {out o : List Cn} (hp : p ≤ ts.length) (h : atmG f ts N (st p, out) = (st p', o)) : p ≤ p' := by
  have := (stp_atm f ts N (st p, out) hp).p
  rw [h] at this
  exact this
theorem Dr.pl {k : Int} {s : List UInt8} {n : Int} {l : List Ky} (h : Dr ts p ((k, s, n) :: l)) : p < ts.length := h.at'.2.2.2.1
theorem rdN_of {f : List UInt8 → Int} {k : List Ky} {o : List Cn} (h : RdA f k o) (hk : ∃ x l, k = x :: l) : RdN f k o := by
  intro N ts p out l hd hn
  obtain ⟨p', e1, e2⟩ := h N ts p out l hd hn
  obtain ⟨⟨k1, s1, n1⟩, l1, rfl⟩ := hk
  have hle := atm_le (Nat.le_of_lt (Dr.pl (l := l1 ++ l) hd)) e1
  exact ⟨p', N, by unfold andG; rw [e1], by omega, e2, hle⟩
theorem rdO_of {f : List UInt8 → Int} {k : List Ky} {o : List Cn} (h : RdN f k o) : RdO f k o := by
  intro N ts p out l hd hn hl
  obtain ⟨p', n', e1, e2, e3, e4⟩ := h N ts p out l hd hn
  rw [row_stop (hl.is e3)] at e1
  exact ⟨p', N, by unfold orG; rw [e1], by omega, e3, e4⟩
theorem RdO.whole {f : List UInt8 → Int} {k : List Ky} {o : List Cn} (h : RdO f k o) {N : Nat} {ts : List Tk} {p : Nat} {out : List Cn} {l : List Ky} (hd : Dr ts p (k ++ l)) (hn : ts.length - p < N) (h1 : NoM [47, 92] l) (h2 : NoM [92, 47] l) : ∃ p', orG (atmG f ts N) ts N (st p, out) = (st p', out ++ o) ∧ Dr ts p' l := by
  obtain ⟨p', n', e1, e2, e3, e4⟩ := h N ts p out l hd hn h1
  rw [row_stop (h2.is e3)] at e1
  exact ⟨p', e1, e3⟩
/-- In brackets. -/
theorem rdA_par {f : List UInt8 → Int} {k : List Ky} {o : List Cn} (h : RdO f k o) : RdA f ((3, [40], 0) :: (k ++ [(3, [41], 0)])) o := by
  intro N ts p out l hd hn
  have hd : Dr ts p ((3, [40], 0) :: ((k ++ [(3, [41], 0)]) ++ l)) := hd
  obtain ⟨N, rfl⟩ : ∃ i, N = i + 1 := ⟨N - 1, by omega⟩
  have h1 : isP ts [126] (st p) = false := hd.no (.inr (by decide))
  have h2 : isP ts [40] (st p) = true := hd.mk'
  have hd2 := hd.at'.2.2.2.2
  have hlt := hd.pl
  rw [List.append_assoc] at hd2
  obtain ⟨p', e1, e2⟩ := h.whole (out := out) (N := N) hd2 (by omega) (.inr (by decide)) (.inr (by decide))
  obtain ⟨e3, e4⟩ := mark_at e2
  refine ⟨p' + 1, ?_, e4⟩
  show (if _ then _ else _) = _
  rw [if_neg (by simp [st]), if_neg (by rw [h1]; decide), if_pos h2]
  show (markP ts [41] (orG (atmG f ts N) ts N (st (p + 1), out)).1, (orG (atmG f ts N) ts N (st (p + 1), out)).2) = _
  rw [e1, e3]
theorem rdA_not {f : List UInt8 → Int} {k : List Ky} {o : List Cn} (h : RdA f k o) : RdA f ((3, [126], 0) :: k) (o ++ [nodC 3]) := by
  intro N ts p out l hd hn
  have hd : Dr ts p ((3, [126], 0) :: (k ++ l)) := hd
  obtain ⟨N, rfl⟩ : ∃ i, N = i + 1 := ⟨N - 1, by omega⟩
  have h1 : isP ts [126] (st p) = true := hd.mk'
  have hd2 := hd.at'.2.2.2.2
  have hlt := hd.pl
  obtain ⟨p', e1, e2⟩ := h N ts (p + 1) out l hd2 (by omega)
  refine ⟨p', ?_, e2⟩
  show (if _ then _ else _) = _
  rw [if_neg (by simp [st]), if_pos h1]
  show ((atmG f ts N (st (p + 1), out)).1, (atmG f ts N (st (p + 1), out)).2 ++ [nodC 3]) = _
  rw [e1, List.append_assoc]
theorem rdN_and {f : List UInt8 → Int} {k k2 : List Ky} {o o2 : List Cn} (h : RdN f k o) (h2 : RdA f k2 o2) (hk : ∃ x l, k2 = x :: l) : RdN f (k ++ (3, [47, 92], 0) :: k2) (o ++ (o2 ++ [nodC 4])) := by
  intro N ts p out l hd hn
  have hd : Dr ts p (k ++ ((3, [47, 92], 0) :: (k2 ++ l))) := by simpa using hd
  obtain ⟨p1, n1, e1, e2, e3, e4⟩ := h N ts p out _ hd hn
  have h3 : isP ts [47, 92] (st p1) = true := e3.mk'
  have hd2 := e3.at'.2.2.2.2
  have hlt := e3.pl
  obtain ⟨n1, rfl⟩ : ∃ i, n1 = i + 1 := ⟨n1 - 1, by omega⟩
  obtain ⟨p2, e5, e6⟩ := h2 N ts (p1 + 1) (out ++ o) l hd2 (by omega)
  rw [row_step h3, e5] at e1
  obtain ⟨⟨k1, s1, m1⟩, l1, rfl⟩ := hk
  have hle := atm_le (Nat.le_of_lt (Dr.pl (l := l1 ++ l) hd2)) e5
  refine ⟨p2, n1, ?_, by omega, e6, by omega⟩
  rw [e1]
  congr 2
  simp
theorem rdO_or {f : List UInt8 → Int} {k k2 : List Ky} {o o2 : List Cn} (h : RdO f k o) (h2 : RdN f k2 o2) : RdO f (k ++ (3, [92, 47], 0) :: k2) (o ++ (o2 ++ [nodC 5])) := by
  intro N ts p out l hd hn hl
  have hd : Dr ts p (k ++ ((3, [92, 47], 0) :: (k2 ++ l))) := by simpa using hd
  obtain ⟨p1, n1, e1, e2, e3, e4⟩ := h N ts p out _ hd hn (.inr (by decide))
  have h3 : isP ts [92, 47] (st p1) = true := e3.mk'
  have hd2 := e3.at'.2.2.2.2
  have hlt := e3.pl
  obtain ⟨n1, rfl⟩ : ∃ i, n1 = i + 1 := ⟨n1 - 1, by omega⟩
  obtain ⟨p2, n2, e5, e6, e7, e8⟩ := h2 N ts (p1 + 1) (out ++ o) l hd2 (by omega)
  rw [row_stop (hl.is e7)] at e5
  rw [row_step h3, e5] at e1
  refine ⟨p2, n1, ?_, by omega, e7, by omega⟩
  rw [e1]
  congr 2
  simp
/-! Leaves. -/
theorem cix_name {a : Int} (ha : a = 1 ∨ a = 2 ∨ a = 3) {r : Int} (h0 : 0 ≤ r) (h8 : r < 8) : cixF a (nameF a r) = r := by
  rcases ha with rfl | rfl | rfl
  · exact lgX_ok.ix r h0 h8
  · exact lgR_ok.ix r h0 h8
  · exact lgA_ok.ix r h0 h8
theorem of_is {f : List UInt8 → Int} {w : List UInt8} {l : List Ky} (hf : 0 ≤ f w) (h : Dr ts p ((1, w, 0) :: l)) : ofP f ts (st p) = (f w, st (p + 1)) ∧ Dr ts (p + 1) l := by
  obtain ⟨e1, e2⟩ := word_at h
  refine ⟨?_, e2⟩
  unfold ofP
  rw [e1]
  dsimp only
  rw [if_neg (by omega)]
theorem rdA_leaf {a : Int} (ha : a = 1 ∨ a = 2 ∨ a = 3) {c : Cn} (hk : c.k = 1 ∨ c.k = 2) (hp : 0 ≤ partsF c) (hv : in64 c.v) : RdA (cixF a) (leafK a c) [c] := by
  intro N ts p out l hd hn
  obtain ⟨N, rfl⟩ : ∃ i, N = i + 1 := ⟨N - 1, by omega⟩
  unfold leafK at hd
  by_cases h1 : c.k = 1
  · rw [if_pos h1] at hd
    obtain ⟨ht, hr⟩ := parts_reg hp h1
    have hz : c.l = 0 := by
      unfold partsF at hp
      rw [if_pos h1] at hp
      split at hp
      · rename_i h; exact h.1
      · omega
    have hd : Dr ts p ((2, Lib.decDigits c.t.toNat, IntKind.i64.wrap c.t.toNat) :: (3, [58], 0) :: (1, nameF a c.r, 0) :: (3, [61], 0) :: (numK c.v ++ l)) := hd
    obtain ⟨q1, _, q3, hlt, hd1⟩ := hd.at'
    have hw : IntKind.i64.wrap (c.t.toNat : Int) = c.t := by rw [w64 (by omega) (by omega)]; omega
    rw [hw] at q3
    obtain ⟨e1, d1⟩ := mark_at hd1
    obtain ⟨e2, d2⟩ := of_is (f := cixF a) (by rw [cix_name ha (by omega) (by omega)]; omega) d1
    rw [cix_name ha (by omega) (by omega)] at e2
    obtain ⟨e3, d3⟩ := mark_at d2
    obtain ⟨p', e4, d4⟩ := num_at hv.1 hv.2 d3
    refine ⟨p', ?_, d4⟩
    show (if _ then _ else _) = _
    rw [if_neg (by simp [st]), if_neg (by rw [hd.no (.inl (by decide))]; decide), if_neg (by rw [hd.no (.inl (by decide))]; decide), if_pos (show isTh ts (st p) from ⟨q1, by show 0 ≤ (tkAt ts p).n; rw [q3]; omega, by show (tkAt ts p).n < 3; rw [q3]; omega⟩)]
    unfold rgC
    dsimp only
    rw [show goF (st p) = st (p + 1) from rfl, e1, e2]
    dsimp only
    rw [e3, e4]
    congr 3
    show (⟨1, (tkAt ts p).n, c.r, 0, c.v⟩ : Cn) = c
    rw [q3]
    obtain ⟨k, t, r, l', v⟩ := c
    dsimp only at h1 hz
    subst h1; subst hz
    rfl
  · have h2 := hk.resolve_left h1
    rw [if_neg h1] at hd
    have hl := parts_loc hp h2
    have hz : c.t = 0 ∧ c.r = 0 := by
      unfold partsF at hp
      rw [if_neg h1, if_pos h2] at hp
      split at hp
      · rename_i h; exact ⟨h.1, h.2.1⟩
      · omega
    have hd : Dr ts p ((1, locF c.l, 0) :: (3, [61], 0) :: (numK c.v ++ l)) := hd
    obtain ⟨q1, _, _, hlt, _⟩ := hd.at'
    obtain ⟨e2, d2⟩ := ofP_loc hl hd
    obtain ⟨e3, d3⟩ := mark_at d2
    obtain ⟨p', e4, d4⟩ := num_at hv.1 hv.2 d3
    refine ⟨p', ?_, d4⟩
    show (if _ then _ else _) = _
    rw [if_neg (by simp [st]), if_neg (by rw [hd.no (.inl (by decide))]; decide), if_neg (by rw [hd.no (.inl (by decide))]; decide), if_neg (show ¬ isTh ts (st p) from fun h => by have h := h.1; rw [show (st p).p = p from rfl, q1] at h; exact absurd h (by decide))]
    unfold lcC
    dsimp only
    rw [e2]
    dsimp only
    rw [e3, e4]
    congr 3
    obtain ⟨k, t, r, l', v⟩ := c
    dsimp only at h2 hz
    obtain ⟨rfl, rfl⟩ := hz
    subst h2
    rfl
theorem kT_ne (a : Int) : ∀ t : CT, ∃ x l, kT a t = x :: l
  | .leaf c => by unfold kT leafK; split <;> exact ⟨_, _, rfl⟩
  | .un _ l => ⟨_, _, rfl⟩
  | .bin c l r => by
    obtain ⟨x, l', h⟩ := kT_ne a l
    unfold kT
    split
    · unfold brkK; split
      · exact ⟨_, _, rfl⟩
      · rw [h]; exact ⟨_, _, rfl⟩
    · unfold brkK; split
      · exact ⟨_, _, rfl⟩
      · rw [h]; exact ⟨_, _, rfl⟩
theorem brkK_ne (a : Int) (b : Bool) (t : CT) : ∃ x l, brkK b (kT a t) = x :: l := by
  unfold brkK
  split
  · exact ⟨_, _, rfl⟩
  · exact kT_ne a t
/-- A tree's text is read as its nodes. -/
theorem read_all {a : Int} (ha : a = 1 ∨ a = 2 ∨ a = 3) : ∀ t : CT, t.good → t.bare →
    RdA (cixF a) (brkK (decide (lvF t.c.k < 2)) (kT a t)) t.post ∧ RdN (cixF a) (brkK (decide (lvF t.c.k < 1)) (kT a t)) t.post ∧ RdO (cixF a) (kT a t) t.post
  | .leaf c, h, _ => by
    obtain ⟨hk, hp, hv⟩ := h
    have h1 := rdA_leaf ha hk hp hv
    have e : lvF c.k = 3 := by unfold lvF; rcases hk with e | e <;> rw [e] <;> rfl
    have e2 : brkK (decide (lvF (CT.leaf c).c.k < 2)) (kT a (.leaf c)) = leafK a c := by show brkK (decide (lvF c.k < 2)) (leafK a c) = _; rw [e]; rfl
    have e3 : brkK (decide (lvF (CT.leaf c).c.k < 1)) (kT a (.leaf c)) = leafK a c := by show brkK (decide (lvF c.k < 1)) (leafK a c) = _; rw [e]; rfl
    rw [e2, e3]
    have h2 := rdN_of h1 (kT_ne a (.leaf c))
    exact ⟨h1, h2, rdO_of h2⟩
  | .un c l, h, hb => by
    obtain ⟨i1, _, _⟩ := read_all ha l h.2 hb.2
    have hc : c = nodC 3 := hb.1
    subst hc
    have h1 := rdA_not i1
    have h2 := rdN_of h1 ⟨_, _, rfl⟩
    exact ⟨h1, h2, rdO_of h2⟩
  | .bin c l r, h, hb => by
    obtain ⟨l1, l2, l3⟩ := read_all ha l h.2.1 hb.2.1
    obtain ⟨r1, r2, r3⟩ := read_all ha r h.2.2 hb.2.2
    rcases hb.1 with rfl | rfl
    · have h2 := rdN_and l2 r1 (brkK_ne a _ r)
      have h3 := rdO_of h2
      exact ⟨rdA_par h3, h2, h3⟩
    · have h3 := rdO_or l3 r2
      have e0 : ∀ k, brkK (decide (lvF l.c.k < 0)) k = k := fun k => by rw [lv_lt0]; rfl
      have h3 : RdO (cixF a) (kT a (.bin (nodC 5) l r)) (CT.bin (nodC 5) l r).post := by
        show RdO (cixF a) (brkK (decide (lvF l.c.k < 0)) (kT a l) ++ (3, [92, 47], 0) :: brkK (decide (lvF r.c.k < 1)) (kT a r)) _
        rw [e0]; exact h3
      exact ⟨rdA_par h3, rdN_of (rdA_par h3) ⟨_, _, rfl⟩, h3⟩
/-- A tree's text, parsed. -/
theorem cparse_txt {a : Int} (ha : a = 1 ∨ a = 2 ∨ a = 3) {t : CT} (hg : t.good) (hb : t.bare) (hn : t.post.length ≤ 32) (hl : (txt a t).length ≤ 8192) : ∃ ts, tokF (txt a t) = (ts, 0, 0) ∧ cparseF (cixF a) ts = (t.post, 0, 0) := by
  have h0 := tks_txt ha t hg [] [] rfl .nil
  rw [List.append_nil, List.append_nil] at h0
  obtain ⟨ts, e1, e2⟩ := tks_tokF h0 hl
  refine ⟨ts, e1, ?_⟩
  have hd : Dr ts 0 (kT a t ++ []) := by rw [List.append_nil]; exact e2
  obtain ⟨p', e3, e4⟩ := (read_all ha t hg hb).2.2.whole (N := ts.length + 1) (out := []) hd (by omega) trivial trivial
  have e5 : cpX (cixF a) ts = (st p', t.post) := e3
  have e6 : cpS (cixF a) ts = st p' := by
    unfold cpS
    rw [e5]
    dsimp only
    rw [if_neg (by omega)]
    unfold moreF
    rw [if_neg (by have := e4.end'; show ¬ p' < ts.length; omega)]
  exact (cparse_yes e6 rfl).trans (by rw [e5])
end SX
end Go.Proofs.YthkedcneehdinaaGreatDoor

/- Conditions: rows and trees; what was parsed is a condition, plain. -/
set_option linter.unusedVariables false
set_option maxRecDepth 100000
namespace Go.Proofs.YthkedcneehdinaaGreatDoor
namespace SX
open Go Go.Proofs
theorem bare_of {c : Cn} (hp : 0 ≤ partsF c) : (c.k = 3 → c = nodC 3) ∧ (c.k = 4 ∨ c.k = 5 → c = nodC 4 ∨ c = nodC 5) := by
  obtain ⟨k, t, r, l, v⟩ := c
  unfold partsF at hp
  dsimp only at hp
  constructor
  · intro h
    have h : k = 3 := h
    subst h
    rw [if_neg (by decide), if_neg (by decide), if_pos rfl] at hp
    split at hp
    · rename_i h; obtain ⟨rfl, rfl, rfl, rfl⟩ := h; rfl
    · omega
  · intro h
    have h : k = 4 ∨ k = 5 := h
    rcases h with rfl | rfl
    · rw [if_neg (by decide), if_neg (by decide), if_neg (by decide), if_pos (.inl rfl)] at hp
      split at hp
      · rename_i h; obtain ⟨rfl, rfl, rfl, rfl⟩ := h; exact .inl rfl
      · omega
    · rw [if_neg (by decide), if_neg (by decide), if_neg (by decide), if_pos (.inr rfl)] at hp
      split at hp
      · rename_i h; obtain ⟨rfl, rfl, rfl, rfl⟩ := h; exact .inr rfl
      · omega
theorem mkT_post (c : Cn) : ∀ D : List CT, D.length ≤ 2 → (mkT c D).post = D.flatMap CT.post ++ [c]
  | [], _ => rfl
  | [l], _ => by simp [mkT, CT.post]
  | [l, r], _ => by simp [mkT, CT.post]
  | _ :: _ :: _ :: _, h => by simp at h
/-- The trees that stand behind the first nodes hold them all, in order. -/
theorem stk_post {cs : List Cn} : ∀ i, i ≤ cs.length → okAt cs i → (stkG mkT cs i).flatMap CT.post = cs.take i ∧ ∀ t ∈ stkG mkT cs i, t.bare
  | 0, _, _ => ⟨by simp [stkG], fun t ht => by simp [stkG] at ht⟩
  | i + 1, hi, h => by
    have h0 : okAt cs i := fun j hj => h j (by omega)
    obtain ⟨i1, i2⟩ := stk_post i (by omega) h0
    have hl := stkG_len (g := mkT) h0
    have h1 := h i (by omega)
    have hle : partsF (cs.getD i cn0) ≤ 2 := (partsF_le _).2
    have hb := bare_of h1.1
    generalize hS : stkG mkT cs i = S at *
    generalize hc : cs.getD i cn0 = c at *
    have hs : stkG mkT cs (i + 1) = S.take (S.length - (partsF c).toNat) ++ [mkT c (S.drop (S.length - (partsF c).toNat))] := by simp only [stkG, hS, hc]
    have hdl : (S.drop (S.length - (partsF c).toNat)).length = (partsF c).toNat := by rw [List.length_drop]; omega
    have hdm : ∀ t ∈ S.drop (S.length - (partsF c).toNat), t.bare := fun t ht => i2 t (List.mem_of_mem_drop ht)
    have htk : cs.take (i + 1) = cs.take i ++ [c] := by
      rw [List.take_add_one, List.getElem?_eq_getElem (by omega)]
      rw [← hc, List.getD_eq_getElem?_getD, List.getElem?_eq_getElem (by omega)]
      rfl
    rw [hs]
    constructor
    · rw [List.flatMap_append, List.flatMap_singleton, mkT_post c _ (by omega), ← List.append_assoc, ← List.flatMap_append, List.take_append_drop, i1, htk]
    · intro t ht
      rcases List.mem_append.1 ht with ht | ht
      · exact i2 t (List.mem_of_mem_take ht)
      · simp at ht
        subst ht
        generalize hD : S.drop (S.length - (partsF c).toNat) = D at *
        match D, hdl, hdm with
        | [], hdl, _ => trivial
        | [l], hdl, hdm =>
          simp at hdl
          have hk3 : c.k = 3 := by
            by_cases hk3 : c.k = 3
            · exact hk3
            exfalso
            by_cases hk1 : c.k = 1
            · unfold partsF at hdl; rw [if_pos hk1] at hdl; split at hdl <;> simp at hdl
            by_cases hk2 : c.k = 2
            · unfold partsF at hdl; rw [if_neg hk1, if_pos hk2] at hdl; split at hdl <;> simp at hdl
            · have := parts_two h1.1 ⟨hk1, hk2, hk3⟩; omega
          exact ⟨hb.1 hk3, hdm l (by simp)⟩
        | [l, r], hdl, hdm =>
          simp at hdl
          have hk : c.k = 4 ∨ c.k = 5 := by
            by_cases hk1 : c.k = 1
            · unfold partsF at hdl; rw [if_pos hk1] at hdl; split at hdl <;> simp at hdl
            by_cases hk2 : c.k = 2
            · unfold partsF at hdl; rw [if_neg hk1, if_pos hk2] at hdl; split at hdl <;> simp at hdl
            by_cases hk3 : c.k = 3
            · have := parts_not h1.1 hk3; omega
            exact (parts_two h1.1 ⟨hk1, hk2, hk3⟩).2
          exact ⟨hb.2 hk, hdm l (by simp), hdm r (by simp)⟩
        | _ :: _ :: _ :: _, hdl, _ => simp at hdl; omega
/-- A right row's tree. -/
theorem tree_of {cs : List Cn} (hv : ∀ j, in64 (cs.getD j cn0).v) (h : rightB cs = true) : ∃ t, stkG mkT cs cs.length = [t] ∧ t.good ∧ t.bare ∧ t.post = cs := by
  obtain ⟨_, q3, _⟩ := rightP_of h
  obtain ⟨t, ht⟩ := right_one h
  have h1 := (stkT_ok hv q3).2 t (by rw [ht]; simp)
  obtain ⟨h2, h3⟩ := stk_post cs.length (Nat.le_refl _) q3
  rw [ht, List.take_length] at h2
  exact ⟨t, ht, h1, h3 t (by rw [ht]; simp), by simpa using h2⟩
theorem getD_mid {pre suf : List Cn} {c : Cn} : (pre ++ (c :: suf)).getD pre.length cn0 = c := by
  simp [List.getD_eq_getElem?_getD]
theorem stk_leaf {cs : List Cn} {i : Nat} {c : Cn} (h0 : okAt cs i) (hc : cs.getD i cn0 = c) (hp : partsF c = 0) : okAt cs (i + 1) ∧ nAt cs (i + 1) = nAt cs i + 1 ∧ stkG mkT cs (i + 1) = stkG mkT cs i ++ [.leaf c] := by
  have hb := nAt_bd h0
  refine ⟨okAt_succ h0 (by rw [hc, hp]; exact Int.le_refl _) (by rw [hc, hp]; exact hb.1), ?_, ?_⟩
  · simp only [nAt, hc, hp]; omega
  · simp only [stkG, hc, hp]
    simp [mkT]
theorem stk_un {cs : List Cn} {i : Nat} {c : Cn} {S : List CT} {l : CT} {n : Int} (h0 : okAt cs i) (hn : nAt cs i = n + 1) (h1 : 0 ≤ n) (hS : stkG mkT cs i = S ++ [l]) (hc : cs.getD i cn0 = c) (hp : partsF c = 1) : okAt cs (i + 1) ∧ nAt cs (i + 1) = n + 1 ∧ stkG mkT cs (i + 1) = S ++ [.un c l] := by
  refine ⟨okAt_succ h0 (by rw [hc, hp]; decide) (by rw [hc, hp]; omega), ?_, ?_⟩
  · simp only [nAt, hc, hp]; omega
  · simp only [stkG, hc, hp, hS]
    simp [mkT]
theorem stk_bin {cs : List Cn} {i : Nat} {c : Cn} {S : List CT} {l r : CT} {n : Int} (h0 : okAt cs i) (hn : nAt cs i = n + 2) (h1 : 0 ≤ n) (hS : stkG mkT cs i = S ++ [l] ++ [r]) (hc : cs.getD i cn0 = c) (hp : partsF c = 2) : okAt cs (i + 1) ∧ nAt cs (i + 1) = n + 1 ∧ stkG mkT cs (i + 1) = S ++ [.bin c l r] := by
  refine ⟨okAt_succ h0 (by rw [hc, hp]; decide) (by rw [hc, hp]; omega), ?_, ?_⟩
  · simp only [nAt, hc, hp]; omega
  · simp only [stkG, hc, hp, hS]
    have e : (S ++ [l] ++ [r]).length - (2 : Int).toNat = S.length := by simp
    rw [e]
    simp [mkT]
theorem stk_tree : ∀ (t : CT), t.good → t.bare → ∀ (pre suf : List Cn), okAt (pre ++ (t.post ++ suf)) pre.length →
    okAt (pre ++ (t.post ++ suf)) (pre.length + t.post.length) ∧ nAt (pre ++ (t.post ++ suf)) (pre.length + t.post.length) = nAt (pre ++ (t.post ++ suf)) pre.length + 1 ∧ stkG mkT (pre ++ (t.post ++ suf)) (pre.length + t.post.length) = stkG mkT (pre ++ (t.post ++ suf)) pre.length ++ [t]
  | .leaf c, h, _, pre, suf, h0 => by
    obtain ⟨hk, hp, _⟩ := h
    have hp0 : partsF c = 0 := by
      unfold partsF at hp ⊢
      rcases hk with e | e
      · rw [if_pos e] at hp ⊢; split at hp
        · rename_i h; rw [if_pos h]
        · omega
      · rw [if_neg (by omega), if_pos e] at hp ⊢; split at hp
        · rename_i h; rw [if_pos h]
        · omega
    exact stk_leaf h0 (getD_mid (pre := pre) (suf := suf)) hp0
  | .un c l, h, hb, pre, suf, h0 => by
    obtain ⟨rfl, hbl⟩ := hb
    have e : pre ++ ((CT.un (nodC 3) l).post ++ suf) = pre ++ (l.post ++ (nodC 3 :: suf)) := by simp [CT.post]
    rw [e] at h0 ⊢
    obtain ⟨i1, i2, i3⟩ := stk_tree l h.2 hbl pre (nodC 3 :: suf) h0
    have hlen : pre.length + (CT.un (nodC 3) l).post.length = pre.length + l.post.length + 1 := by simp [CT.post]; omega
    have hg : (pre ++ (l.post ++ (nodC 3 :: suf))).getD (pre.length + l.post.length) cn0 = nodC 3 := by
      have := getD_mid (pre := pre ++ l.post) (suf := suf) (c := nodC 3)
      rw [List.length_append, List.append_assoc] at this
      exact this
    rw [hlen]
    exact stk_un i1 i2 (nAt_bd h0).1 i3 hg rfl
  | .bin c l r, h, hb, pre, suf, h0 => by
    obtain ⟨hc, hbl, hbr⟩ := hb
    have e : pre ++ ((CT.bin c l r).post ++ suf) = pre ++ (l.post ++ (r.post ++ (c :: suf))) := by simp [CT.post]
    rw [e] at h0 ⊢
    obtain ⟨i1, i2, i3⟩ := stk_tree l h.2.1 hbl pre (r.post ++ (c :: suf)) h0
    have e2 : pre ++ (l.post ++ (r.post ++ (c :: suf))) = (pre ++ l.post) ++ (r.post ++ (c :: suf)) := by simp
    have hpl : pre.length + l.post.length = (pre ++ l.post).length := by simp
    rw [e2, hpl] at i1 i2 i3
    obtain ⟨j1, j2, j3⟩ := stk_tree r h.2.2 hbr (pre ++ l.post) (c :: suf) i1
    have hlen : pre.length + (CT.bin c l r).post.length = (pre ++ l.post).length + r.post.length + 1 := by simp [CT.post]; omega
    have hg : ((pre ++ l.post) ++ (r.post ++ (c :: suf))).getD ((pre ++ l.post).length + r.post.length) cn0 = c := by
      have := getD_mid (pre := (pre ++ l.post) ++ r.post) (suf := suf) (c := c)
      rw [List.length_append, List.append_assoc] at this
      exact this
    rw [e2] at h0 ⊢
    rw [hlen]
    rw [i3] at j3
    exact stk_bin j1 (n := nAt ((pre ++ l.post) ++ (r.post ++ (c :: suf))) pre.length) (by rw [j2, i2]; omega) (nAt_bd h0).1 j3 hg (by rcases hc with rfl | rfl <;> rfl)
theorem post_pos : ∀ t : CT, 1 ≤ t.post.length
  | .leaf c => Nat.le_refl _
  | .un c l => by simp [CT.post]
  | .bin c l r => by simp [CT.post]; omega
/-- A tree's nodes are a right row. -/
theorem right_post {t : CT} (hg : t.good) (hb : t.bare) (hn : t.post.length ≤ 32) : rightB t.post = true ∧ stkG mkT t.post t.post.length = [t] := by
  have h := stk_tree t hg hb [] [] (fun j hj => absurd hj (Nat.not_lt_zero _))
  simp only [List.nil_append, List.append_nil, List.length_nil, Nat.zero_add] at h
  obtain ⟨h1, h2, h3⟩ := h
  exact ⟨right_true ⟨⟨post_pos t, hn⟩, h1, by rw [h2]; rfl⟩, by rw [h3]; rfl⟩
/-! What was parsed is a tree. -/
def TrO (x y : CX) : Prop := y.1.e = 0 → ∃ t : CT, t.good ∧ t.bare ∧ y.2 = x.2 ++ t.post
theorem row_tree {part : CX → CX} {ts : List Tk} {N : Nat} (hst : ∀ x : CX, x.1.p ≤ ts.length → Stp ts x (part x)) (hp : ∀ x : CX, x.1.p ≤ ts.length → ts.length - x.1.p < N → TrO x (part x)) {m : List UInt8} {k : Int} (hk : k = 4 ∨ k = 5) (base : List Cn) : ∀ (n : Nat) (y : CX), y.1.p ≤ ts.length → ts.length - y.1.p < N → (y.1.e = 0 → ∃ t : CT, t.good ∧ t.bare ∧ y.2 = base ++ t.post) →
    (rowL part ts m k n y).1.e = 0 → ∃ t : CT, t.good ∧ t.bare ∧ (rowL part ts m k n y).2 = base ++ t.post
  | 0, y, _, _, hy, h => hy h
  | n + 1, y, hl, hN, hy, h => by
    unfold rowL at h ⊢
    split
    · rename_i hm
      rw [if_pos hm] at h
      split
      · rename_i he
        rw [if_pos he] at h
        exact hy h
      · rename_i he
        rw [if_neg he] at h
        have he : y.1.e = 0 := by simpa using he
        have hlt := isP_lt hm
        have h1 := hst (goF y.1, y.2) hlt
        have hgp : (goF y.1).p = y.1.p + 1 := rfl
        refine row_tree hst hp hk base n _ h1.t ?_ ?_ h
        · have : (goF y.1).p ≤ (part (goF y.1, y.2)).1.p := h1.p
          show ts.length - (part (goF y.1, y.2)).1.p < N
          omega
        · intro h2
          obtain ⟨t, g1, b1, q1⟩ := hy he
          obtain ⟨r, g2, b2, q2⟩ := hp (goF y.1, y.2) hlt (by show ts.length - (goF y.1).p < N; omega) h2
          refine ⟨.bin (nodC k) t r, ⟨?_, g1, g2⟩, ⟨?_, b1, b2⟩, ?_⟩
          · exact hk
          · rcases hk with rfl | rfl
            · exact .inl rfl
            · exact .inr rfl
          · show (part (goF y.1, y.2)).2 ++ [nodC k] = _
            rw [q2, show (goF y.1, y.2).2 = y.2 from rfl, q1]
            simp [CT.post]
    · rename_i hm
      rw [if_neg hm] at h
      exact hy h
theorem and_tree {part : CX → CX} {ts : List Tk} {N : Nat} (hst : ∀ x : CX, x.1.p ≤ ts.length → Stp ts x (part x)) (hp : ∀ x : CX, x.1.p ≤ ts.length → ts.length - x.1.p < N → TrO x (part x)) (n : Nat) (x : CX) (hl : x.1.p ≤ ts.length) (hN : ts.length - x.1.p < N) : TrO x (andG part ts n x) := by
  have h1 := hst x hl
  intro h
  exact row_tree hst hp (.inl rfl) x.2 n (part x) h1.t (by have := h1.p; omega) (hp x hl hN) h
theorem or_tree {part : CX → CX} {ts : List Tk} {N : Nat} (hst : ∀ x : CX, x.1.p ≤ ts.length → Stp ts x (part x)) (hp : ∀ x : CX, x.1.p ≤ ts.length → ts.length - x.1.p < N → TrO x (part x)) (n : Nat) (x : CX) (hl : x.1.p ≤ ts.length) (hN : ts.length - x.1.p < N) : TrO x (orG part ts n x) := by
  have h1 := stp_and hst n x hl
  intro h
  exact row_tree (fun x h => stp_and hst n x h) (fun x hl hN => and_tree hst hp n x hl hN) (.inr rfl) x.2 n (andG part ts n x) h1.t (by have := h1.p; omega) (and_tree hst hp n x hl hN) h
theorem of_lt8 {f : List UInt8 → Int} {b : Int} (hb : 0 < b) (hf : ∀ v, f v < b) (ts : List Tk) (s : RS) : 0 ≤ (ofP f ts s).1 ∧ (ofP f ts s).1 < b := by
  unfold ofP
  split
  · exact ⟨Int.le_refl _, hb⟩
  · dsimp only
    exact ⟨by omega, hf _⟩
theorem locI_lt (v : List UInt8) : locI v < 3 := by unfold locI; repeat' split
                                                    all_goals decide
theorem num_in2 (ts : List Tk) (s : RS) : in64 (numP ts s).1 := by
  have hz : in64 0 := ⟨by decide, by decide⟩
  have hn : ∀ g s, in64 (nmP ts g s).1 := fun g s => by
    unfold nmP
    split
    · show in64 (IntKind.i64.wrap _); rw [IntKind.wrap_i64]; unfold in64; omega
    · exact hz
  unfold numP
  split
  · split <;> exact hn _ _
  · exact hz
theorem atm_tree {f : List UInt8 → Int} (hf : ∀ v, f v < 8) (ts : List Tk) : ∀ (n : Nat) (x : CX), x.1.p ≤ ts.length → ts.length - x.1.p < n → TrO x (atmG f ts n x)
  | 0, x, _, hn => absurd hn (Nat.not_lt_zero _)
  | n + 1, x, hl, hn => by
    unfold atmG
    split
    · rename_i he; intro h; exact absurd h he
    split
    · rename_i hm
      have hlt := isP_lt hm
      intro h
      obtain ⟨t, g, b, q⟩ := atm_tree hf ts n (goF x.1, x.2) hlt (by show ts.length - (x.1.p + 1) < n; omega) h
      refine ⟨.un (nodC 3) t, ⟨rfl, g⟩, ⟨rfl, b⟩, ?_⟩
      show (atmG f ts n (goF x.1, x.2)).2 ++ [nodC 3] = _
      rw [q]
      simp [CT.post]
    split
    · rename_i hm
      have hlt := isP_lt hm
      intro h
      have h1 : (orG (atmG f ts n) ts n (goF x.1, x.2)).1.e = 0 := (mark_e h).1
      exact or_tree (fun x h => stp_atm f ts n x h) (fun x hl hN => atm_tree hf ts n x hl hN) n (goF x.1, x.2) hlt (by show ts.length - (x.1.p + 1) < n; omega) h1
    split
    · rename_i hth
      intro _
      obtain ⟨r0, r8⟩ := of_lt8 (by decide) hf ts (markP ts [58] (goF x.1))
      refine ⟨.leaf _, ⟨.inl rfl, ?_, num_in2 ts _⟩, trivial, rfl⟩
      unfold partsF
      rw [if_pos rfl, if_pos ⟨rfl, hth.2.1, hth.2.2, r0, r8⟩]
      exact Int.le_refl _
    · intro _
      obtain ⟨r0, r8⟩ := of_lt8 (b := 3) (by decide) locI_lt ts x.1
      refine ⟨.leaf _, ⟨.inr rfl, ?_, num_in2 ts _⟩, trivial, rfl⟩
      unfold partsF
      rw [if_neg (show ¬ (2 : Int) = 1 by decide), if_pos (show (2 : Int) = 2 from rfl), if_pos ⟨rfl, rfl, r0, r8⟩]
      exact Int.le_refl _
theorem cix_lt (a : Int) (v : List UInt8) : cixF a v < 8 := by
  unfold cixF idxF
  repeat' split
  all_goals decide
/-- What was parsed is a condition. -/
theorem cparse_tree {a : Int} {ts : List Tk} {cs : List Cn} (h : cparseF (cixF a) ts = (cs, 0, 0)) : ∃ t : CT, t.good ∧ t.bare ∧ cs = t.post ∧ cs.length ≤ 32 := by
  have hx : (cpS (cixF a) ts).e = 0 ∧ (cpX (cixF a) ts).2 = cs := by
    unfold cparseF at h
    split at h
    · rename_i h0; exact ⟨h0, by simp only [Prod.mk.injEq] at h; exact h.1⟩
    · rename_i h0; simp only [Prod.mk.injEq] at h; exact absurd h.2.1 h0
  obtain ⟨h1, h2⟩ := hx
  unfold cpS at h1
  split at h1
  · exact absurd h1 (failF_e (by decide))
  · rename_i hn
    have h3 : (cpX (cixF a) ts).1.e = 0 := by
      unfold moreF at h1
      split at h1
      · exact absurd h1 (failF_e (by decide))
      · exact h1
    obtain ⟨t, g, b, q⟩ := or_tree (fun x h => stp_atm (cixF a) ts (ts.length + 1) x h) (fun x hl hN => atm_tree (cix_lt a) ts (ts.length + 1) x hl hN) (ts.length + 1) (rs0, []) (Nat.zero_le _) (by show ts.length - 0 < ts.length + 1; omega) h3
    have q : (cpX (cixF a) ts).2 = t.post := q
    exact ⟨t, g, b, by rw [← h2, q], by rw [← h2]; omega⟩
end SX
end Go.Proofs.YthkedcneehdinaaGreatDoor

/- Conditions: printed and parsed again, plain. -/
set_option linter.unusedVariables false
set_option maxRecDepth 100000
namespace Go.Proofs.YthkedcneehdinaaGreatDoor
namespace SX
open Go Go.Proofs
theorem post_sz : ∀ t : CT, t.post.length = t.sz
  | .leaf c => rfl
  | .un c l => by simp [CT.post, CT.sz, post_sz l]
  | .bin c l r => by simp [CT.post, CT.sz, post_sz l, post_sz r]; omega
theorem post_v : ∀ t : CT, t.good → t.bare → ∀ c ∈ t.post, in64 c.v
  | .leaf c, h, _, x, hx => by
    obtain rfl : x = c := by simpa [CT.post] using hx
    exact h.2.2
  | .un c l, h, hb, x, hx => by
    rcases List.mem_append.1 hx with hx | hx
    · exact post_v l h.2 hb.2 x hx
    · obtain rfl : x = c := by simpa using hx
      rw [hb.1]; exact ⟨by decide, by decide⟩
  | .bin c l r, h, hb, x, hx => by
    rcases List.mem_append.1 hx with hx | hx
    · exact post_v l h.2.1 hb.2.1 x hx
    · rcases List.mem_append.1 hx with hx | hx
      · exact post_v r h.2.2 hb.2.2 x hx
      · obtain rfl : x = c := by simpa using hx
        rcases hb.1 with e | e <;> (rw [e]; exact ⟨by decide, by decide⟩)
theorem post_vs {t : CT} (h : t.good) (hb : t.bare) (j : Nat) : in64 (t.post.getD j cn0).v := by
  by_cases hj : j < t.post.length
  · rw [List.getD_eq_getElem?_getD, List.getElem?_eq_getElem hj]
    exact post_v t h hb _ (List.getElem_mem hj)
  · rw [List.getD_eq_getElem?_getD, List.getElem?_eq_none (by omega)]
    exact ⟨by decide, by decide⟩
theorem txt_post {a : Int} {t : CT} (h : t.good) (hn : t.post.length ≤ 32) : (txt a t).length ≤ 3000 := by
  have := txt_len a t h
  rw [post_sz] at hn
  have : 60 * t.sz ≤ 60 * 32 := Nat.mul_le_mul_left _ hn
  omega
/-- A tree's nodes, printed. -/
theorem print_post {a : Int} (ha : a = 1 ∨ a = 2 ∨ a = 3) {t : CT} (hg : t.good) (hb : t.bare) (hn : t.post.length ≤ 32) : printR a t.post = (txt a t, 0) := by
  obtain ⟨h1, h2⟩ := right_post hg hb hn
  rw [printR_ok ha h1]
  unfold printF
  rw [h2]
  rfl
/-- What is printed, of a right row. -/
theorem print_of {a : Int} (ha : a = 1 ∨ a = 2 ∨ a = 3) {cs : List Cn} (hv : ∀ j, in64 (cs.getD j cn0).v) (h : rightB cs = true) : ∃ t : CT, t.good ∧ t.bare ∧ t.post = cs ∧ cs.length ≤ 32 ∧ printR a cs = (txt a t, 0) := by
  obtain ⟨t, _, hg, hb, hp⟩ := tree_of hv h
  obtain ⟨⟨_, q2⟩, _, _⟩ := rightP_of h
  exact ⟨t, hg, hb, hp, q2, by rw [← hp]; exact print_post ha hg hb (by rw [hp]; exact q2)⟩
end SX
end Go.Proofs.YthkedcneehdinaaGreatDoor

/- The reference's readers of words: the cursor. -/
set_option linter.unusedVariables false
set_option maxRecDepth 100000
namespace Go.Proofs.YthkedcneehdinaaGreatDoor
namespace SX
open Go Go.Proofs
section
variable (ts : List Tk) (ad : Option Addr) (cap : Nat)
end
variable {ts : List Tk} {ad : Option Addr} {cap : Nat}
end SX
end Go.Proofs.YthkedcneehdinaaGreatDoor

/- The reference's readers of words: the reader's small functions. -/
set_option linter.unusedVariables false
set_option maxRecDepth 100000
namespace Go.Proofs.YthkedcneehdinaaGreatDoor
namespace SX
open Go Go.Proofs
end SX
end Go.Proofs.YthkedcneehdinaaGreatDoor

/- The reference's readers of words: places of memory, branches, names. Written by qwc.py. -/
set_option linter.unusedVariables false
set_option maxRecDepth 100000
namespace Go.Proofs.YthkedcneehdinaaGreatDoor
namespace SX
open Go Go.Proofs
end SX
end Go.Proofs.YthkedcneehdinaaGreatDoor

/- A condition's reader: the reference's walk. Printed by cra.py. -/
set_option linter.unusedVariables false
set_option maxRecDepth 100000
namespace Go.Proofs.YthkedcneehdinaaGreatDoor
namespace SX
open Go Go.Proofs
/-! How far a step goes. -/
/-! The walk. -/
end SX
end Go.Proofs.YthkedcneehdinaaGreatDoor

/- The reference's x86, Parse. Written by qwd.py. -/
set_option linter.unusedVariables false
set_option maxRecDepth 100000
namespace Go.Proofs.YthkedcneehdinaaGreatDoor
namespace SX
open Go Go.Proofs
end SX
end Go.Proofs.YthkedcneehdinaaGreatDoor

/- The reference: registers of RISC-V and Arm, by name; Parse. Written by qwf.py. -/
set_option linter.unusedVariables false
set_option maxRecDepth 100000
namespace Go.Proofs.YthkedcneehdinaaGreatDoor
namespace SX
open Go Go.Proofs
end SX
end Go.Proofs.YthkedcneehdinaaGreatDoor

/- The reference's Parse of conditions. Printed by crb.py. -/
set_option linter.unusedVariables false
set_option maxRecDepth 100000
namespace Go.Proofs.YthkedcneehdinaaGreatDoor
namespace SX
open Go Go.Proofs
end SX
end Go.Proofs.YthkedcneehdinaaGreatDoor

/- Rows: instructions that come in. Written by rwa.py. -/
set_option linter.unusedVariables false
set_option maxRecDepth 100000
namespace Go.Proofs.YthkedcneehdinaaGreatDoor
open Go Go.ChangeShapes Go.WideShapes Go.ChangeAt Go.RowKit
theorem own : ownKnob Tryz.prog.godebug = none := by kernel_rfl
theorem compsOk : ∀ t, t < Tryz.prog.types.size → SX.CompsOk Tryz.prog (· < Tryz.prog.types.size) t := SX.compsOk_of (by kernel_rfl)
namespace SX
theorem wf64 {n : Int} (h : (Lit.int .i64 n).wf = true) : in64 n := by
  have h : (decide (IntKind.i64.min ≤ n) && decide (n ≤ IntKind.i64.max)) = true := h
  simp only [Bool.and_eq_true, decide_eq_true_eq] at h
  exact h
end SX
theorem and_tt {a b : Bool} (h1 : a = true) (h2 : b = true) : (a && b) = true := by rw [h1, h2]; rfl
theorem facts_of {P : Program} {f : FuncId} {fn : Func} {s : ChangeSpec} {c : OpenClaim} (h0 : (c.wf (OpenSpec.ofChange s)) = true) (h1 : (laidOutB P) = true) (h2 : (mapsRowed P) = true) (h3 : (fn.params.all (P.readableRec ·)) = true) (h4 : (namedTie P c.named s.vars) = true) (h5 : ((c.stops == [])) = true) (h6 : ((P.stops == [])) = true) (h7 : ((c.knobs == [])) = true) (h8 : ((P.stopKnobs == [])) = true) (h9 : ((c.inPlace == P.inPlace f)) = true) (h10 : ((c.unfollowed == P.unfollowed f)) = true) (h11 : ((c.recurses == P.recurses f)) = true) (h12 : ((c.named == P.varsNamed f)) = true) (h13 : ((c.maps == (fn.params.toList ++ s.plain.varTypes P).any (P.mapsRec ·))) = true) (h14 : ((c.ifaces == (fn.params.toList ++ s.plain.varTypes P).any (P.ifacesRec ·))) = true) (h15 : ((c.mapsOut == P.mapsAmong fn.resultTypes.toList)) = true) (h16 : ((c.loops == (fn.params.toList ++ s.plain.varTypes P).any (P.loopsFrom ·))) = true) (h17 : ((c.wideKeys == (fn.params.toList ++ s.plain.varTypes P ++ fn.resultTypes.toList).any (P.wideKeysFrom ·))) = true) (h18 : (s.vars.all (P.varReadable ·)) = true) (h19 : (fn.resultTypes.all (fun t => P.readableRec t && decide (t < P.types.size))) = true) (h20 : ((c.ifacesOut == fn.resultTypes.toList.any (P.ifacesRec ·))) = true) (h21 : ((c.loopsOut == fn.resultTypes.toList.any (P.loopsFrom ·))) = true) (h22 : ((c.plainKeys == P.plainKeys)) = true) (h23 : (c.shortTexts.isNone) = true) (h24 : (P.stopsHeard) = true) (h25 : (P.mayEnter) = true) (h26 : ((c.lifted == P.liftsFinal)) = true) (h27 : ((P.make == some c.make)) = true) (h28 : ((c.kinds == (if c.domain.isEmpty then [] else fn.params.toList.map fun t => match P.underlying t with | some (.int k) => some k | _ => none))) = true) (h29 : ((c.pinned == c.pinnedBy)) = true) (h30 : ((c.veiled == (fn.params.toList ++ s.plain.varTypes P ++ fn.resultTypes.toList).any (P.veiledRec ·))) = true) (h31 : (c.veiledFits P fn.params.toList (fn.params.toList ++ s.plain.varTypes P ++ fn.resultTypes.toList)) = true) : joinedFacts P f fn s c = true := by
  unfold joinedFacts
  exact (and_tt (and_tt (and_tt (and_tt (and_tt (and_tt (and_tt (and_tt (and_tt (and_tt (and_tt (and_tt (and_tt (and_tt (and_tt (and_tt (and_tt (and_tt (and_tt (and_tt (and_tt (and_tt (and_tt (and_tt (and_tt (and_tt (and_tt (and_tt (and_tt (and_tt (and_tt h0 h1) h2) h3) h4) h5) h6) h7) h8) h9) h10) h11) h12) h13) h14) h15) h16) h17) h18) h19) h20) h21) h22) h23) h24) h25) h26) h27) h28) h29) h30) h31)
section
variable {H : Type} {enc : TypeId × Value → H} {W : World} {b0 : Nat} {v : Value} {d : DataW H} {p : List MemPlace} {base : Nat} {spare : Nat → Bool} {held : Bool}
end
end Go.Proofs.YthkedcneehdinaaGreatDoor

/- Words of any text: how many, how long; x86.Parse of a row that stays. -/
set_option linter.unusedVariables false
set_option maxRecDepth 100000
namespace Go.Proofs.YthkedcneehdinaaGreatDoor
namespace SX
open Go Go.Proofs
theorem tok_count (s : List UInt8) : (tokF s).1.length ≤ 8192 := by
  have pos : ∀ (p : Nat) (y : Tk), p < s.length → stepF (s.drop p) p = .tok y → 1 ≤ y.s.length := by
    intro p y hp hy
    have hne : s.drop p ≠ [] := fun hh => by have := congrArg List.length hh; simp at this; omega
    unfold stepF at hy
    split at hy
    · cases hy
    split at hy
    · split at hy <;> cases hy
    split at hy
    · rename_i hd
      split at hy
      · cases hy
      · cases hy
        have : 0 < rowF numB (s.drop p) := rowF_pos hne (by unfold numB; rw [hd]; simp)
        show 1 ≤ (List.take _ _).length
        rw [List.length_take, List.length_drop]; omega
    split at hy
    · rename_i hl
      cases hy
      have : 0 < rowF namB (s.drop p) := rowF_pos hne (by
        unfold namB
        simp only [Bool.or_eq_true, decide_eq_true_eq] at hl ⊢
        rcases hl with hl | hl
        · exact .inl (.inl (.inl hl))
        · exact .inl (.inr hl))
      show 1 ≤ (List.take _ _).length
      rw [List.length_take, List.length_drop]; omega
    split at hy
    · cases hy
      show 1 ≤ (List.take _ _).length
      rw [List.length_take, List.length_drop]; omega
    split at hy
    · cases hy
      show 1 ≤ (List.take _ _).length
      rw [List.length_take, List.length_drop]; omega
    · cases hy
  have key : ∀ (f p : Nat) (out : List Tk), s.length ≤ 8192 → p ≤ s.length → out.length ≤ p → (tokC s f p out).1.length ≤ 8192 := by
    intro f
    induction f with
    | zero => intro p out hs hp h; exact Nat.le_trans h (by omega)
    | succ f ih =>
      intro p out hs hp h
      unfold tokC
      split
      · show out.length ≤ 8192; omega
      · split
        · rename_i n hn
          by_cases hq : p + n ≤ s.length
          · exact ih _ _ hs hq (by omega)
          · have e : ∀ g, tokC s g (p + n) out = (out, 0, 0) := fun g => tokC_end (by omega)
            rw [e]; show out.length ≤ 8192; omega
        · rename_i y hy
          have h1 := pos p y (by omega) hy
          have h2 := step_len hy
          rw [List.length_drop] at h2
          exact ih _ _ hs (by omega) (by rw [List.length_append, List.length_singleton]; omega)
        · exact Nat.zero_le _
  unfold tokF
  split
  · exact Nat.zero_le _
  · exact key _ _ _ (by omega) (Nat.zero_le _) (Nat.le_refl _)
end SX
end Go.Proofs.YthkedcneehdinaaGreatDoor

/- CondParses: the law's contract. Printed by cpl.py. -/
set_option linter.unusedVariables false
set_option maxRecDepth 100000
namespace Go.Proofs.YthkedcneehdinaaGreatDoor
namespace SX
open Go Go.Proofs
theorem able8_ok : CtrV Tryz.prog 29 [] (.b true) := CdAble_ok
end SX
end Go.Proofs.YthkedcneehdinaaGreatDoor

/- No words, and what is wrong with none. -/
set_option linter.unusedVariables false
set_option maxRecDepth 100000
namespace Go.Proofs.YthkedcneehdinaaGreatDoor
namespace SX
open Go Go.Proofs
end SX
end Go.Proofs.YthkedcneehdinaaGreatDoor

/- CondBack: the law's contract. Printed by cbl.py. -/
set_option linter.unusedVariables false
set_option linter.unusedSimpArgs false
set_option maxRecDepth 100000
namespace Go.Proofs.YthkedcneehdinaaGreatDoor
namespace SX
open Go Go.Proofs
theorem Cp.nils2 {X : List Value → World → (Value → World → Prop) → Prop} {y : SV} {H : List SB} {K : SV → List SB → Prop} (h : Cp X [y, .imm Tk tk0 4 tkenc [] none 0] H K) : Cp X [y, .nils] H K :=
  ⟨fun C E m w hr ha => h.out C E m w hr ⟨ha.1, ⟨rfl, ⟨Nat.le_refl _, fun h => absurd rfl h, tkw, fun j hj => absurd hj (Nat.not_lt_zero _)⟩⟩, trivial⟩⟩
theorem Cp.imm2 {X : List Value → World → (Value → World → Prop) → Prop} {y : SV} {ts : List Tk} {ad : Option Addr} {cap : Nat} {H : List SB} {K : SV → List SB → Prop} (h : (ad = none → ts = []) → Cp X [y, .imm Tk tk0 4 tkenc ts ad cap] H K) : Cp X [y, .imm Tk tk0 4 tkenc ts ad cap] H K :=
  ⟨fun C E m w hr ha => (h fun e => Decidable.by_contra fun hne => by
    obtain ⟨ad', _, _, _, e1, _⟩ := ha.2.1.2.2.1 hne
    rw [e] at e1; cases e1).out C E m w hr ha⟩
theorem cparse_i (a : Int) (ha : a = 1 ∨ a = 2 ∨ a = 3) (ts : List Tk) (ad : Option Addr) (cap : Nat) (hl : ts.length ≤ 100000) : Ctr Tryz.prog 30 [.i .i64 a, .imm Tk tk0 4 tkenc ts ad cap] [] (CpK (cparseF (cixF a) ts)) := Cp.imm2 fun hn => cparse_w a ha ts ad cap hl hn
theorem cparse_nilw (a : Int) (ha : a = 1 ∨ a = 2 ∨ a = 3) : Ctr Tryz.prog 30 [.i .i64 a, .nils] [] (CpK (cparseF (cixF a) [])) := Cp.nils2 (cparse_w a ha [] none 0 (by decide) (fun _ => rfl))
theorem cparse_otherN (a : Int) (ha : ¬ (a = 1 ∨ a = 2 ∨ a = 3)) : CtrV Tryz.prog 30 [.i .i64 a, .nils] (.tup [.nils, .i .i64 36, .i .i64 0]) := Cp.nils2 (cparse_other a ha [] none 0)
set_option maxHeartbeats 4000000 in
theorem condBack_ok (a : Int) (cs : List Cn) (ad0 : Option Addr) (cap0 : Nat) (text : List UInt8) (_ : in64 a) (hv : ∀ j, in64 (cs.getD j cn0).v) (_ : text.length ≤ 2 ^ 47) : CtrV Tryz.prog 10 [.i .i64 a, .imm Cn cn0 5 cenc cs ad0 cap0, .s text] (.b true) := by
  refine Ctr.enterV tabOkM (fn := Tryz.f10) rfl rfl rfl rfl rfl rfl ?_
  refine OpC.callV rfl rfl rfl rfl rfl rfl rfl (fun _ => able8_ok) ?_
  refine ⟨fun h => no_ft h, fun _ => ⟨fun _ => rfl, fun h1 => ?_⟩⟩
  have h1 : cs.length ≤ 4000 := by
    have h1 : (decide ((4000 : Int) < cs.length) || decide ((4000 : Int) < text.length)) = false := h1
    simp only [Bool.or_eq_false_iff, decide_eq_false_iff_not] at h1
    omega
  refine OpC.yld 1 rfl (yld_app_lit tabOkM rfl rfl rfl rfl rfl rfl rfl rfl (fun E => rfl) (SrcA.imm rfl rfl rfl) (p := 1) rfl Joins.nil (Nat.le_trans h1 (by decide)) (by show cs.length * 40 ≤ 140737488355328; omega)) (fun d hd => by cases hd; rfl) ?_
  refine OpC.still (enc := cenc) (ys := cs) 43 (k := 1) (i := 0) (len := cs.length) rfl rfl rfl (by decide) rfl (by omega) cenc_w cenc_ok (by simp) fun ad9 cp9 => ?_
  have hp := print_ok a cs (some ad9) cp9 hv
  by_cases ha : a = 1 ∨ a = 2 ∨ a = 3
  · cases hr : rightB cs with
    | true =>
      obtain ⟨t, hg, hb, rfl, hn, hpr⟩ := print_of ha hv hr
      rw [hpr] at hp
      refine OpC.callV rfl rfl rfl rfl rfl rfl rfl (fun _ => hp) ?_
      refine ⟨fun _ => ?_, fun h => no_tf h⟩
      obtain ⟨ws, w1, w2⟩ := cparse_txt ha hg hb hn (Nat.le_trans (txt_post hg hn) (by decide))
      refine OpC.callL rfl rfl rfl rfl [] 1 rfl rfl rfl (tokensI_ok (txt a t)) rfl rfl rfl rfl trivial rfl (fun r H1 hk => ?_) ?_
      · rcases hk with ⟨ts1, ad, cap, B, h1, rfl, rfl⟩ | ⟨e, p, h1, he, rfl, rfl⟩
        · exact ⟨Nat.zero_le _, Nat.le_refl _⟩
        · exact ⟨Nat.zero_le _, Nat.zero_le _⟩
      rintro r H1 (⟨vs, ad2, cap2, B2, h2, rfl, rfl⟩ | ⟨e, p, h2, he, rfl, rfl⟩)
      rotate_left
      · rw [w1] at h2; cases h2; exact absurd rfl he
      obtain rfl : ws = vs := by rw [w1] at h2; cases h2; rfl
      have hl2 : ws.length ≤ 100000 := by
        have h2 : (tokF (txt a t)).1 = ws := by rw [w1]
        have h3 : ws.length ≤ 8192 := by rw [← h2]; exact tok_count _
        omega
      refine OpC.callL rfl rfl rfl rfl [] 0 rfl rfl rfl (cparse_i a ha ws ad2 cap2 hl2) rfl rfl rfl rfl trivial rfl (fun r H1 hk => ?_) ?_
      · rcases hk with ⟨_, _, _, _, _, rfl⟩ | ⟨_, _, _, _, _, rfl⟩ <;> exact ⟨Nat.le_refl _, Nat.le_refl _⟩
      rintro r H1 (⟨cs2, ad3, cap3, hR2, rfl, rfl⟩ | ⟨f, q, hf, hR2, rfl, rfl⟩)
      rotate_left
      · rw [w2] at hR2; exact absurd (congrArg (fun x => x.2.1) hR2).symm hf
      obtain rfl : t.post = cs2 := by rw [w2] at hR2; exact congrArg Prod.fst hR2
      refine OpC.callV rfl rfl rfl rfl rfl rfl rfl (fun _ => conds_ok t.post t.post ad3 cap3 ad0 cap0 (by omega)) ?_
      refine ⟨fun h => ?_, fun _ => ?_⟩
      · have h : (!(decide ((0 : Int) = 0)) || !(decide (t.post = t.post))) = true := h
        simp at h
      refine OpC.callL rfl rfl rfl rfl [] 1 rfl rfl rfl (tokensI_ok text) rfl rfl rfl rfl trivial rfl (fun r H1 hk => ?_) ?_
      · rcases hk with ⟨ts1, ad, cap, B, h1, rfl, rfl⟩ | ⟨e, p, h1, he, rfl, rfl⟩
        · exact ⟨Nat.zero_le _, Nat.le_refl _⟩
        · exact ⟨Nat.zero_le _, Nat.zero_le _⟩
      rintro r H1 (⟨ts, ad, cap, B, h1, rfl, rfl⟩ | ⟨e, p, h1, he, rfl, rfl⟩)
      rotate_left
      · refine OpC.callL rfl rfl rfl rfl [] 0 rfl rfl rfl (cparse_nilw a ha) rfl rfl rfl rfl trivial rfl (fun r H1 hk => ?_) ?_
        · rcases hk with ⟨_, _, _, _, _, rfl⟩ | ⟨_, _, _, _, _, rfl⟩ <;> exact ⟨Nat.le_refl _, Nat.le_refl _⟩
        rintro r H1 (⟨cs1, ad1, cap1, hR, rfl, rfl⟩ | ⟨f, q, hf, hR, rfl, rfl⟩)
        · refine ⟨fun _ => ?_, fun h => ?_⟩
          · refine b_cg ?_
            show (!(decide (e = 0)) || decide ((cs1.length : Int) = 0)) = true
            simp [he]
          · have h : (!(decide (e = 0)) || !(decide ((0 : Int) = 0))) = false := h
            simp [he] at h
        · refine ⟨fun _ => ?_, fun h => ?_⟩
          · refine b_cg ?_
            show (!(decide (e = 0)) || decide ((0 : Int) = 0)) = true
            simp [he, hf]
          · have h : (!(decide (e = 0)) || !(decide (f = 0))) = false := h
            simp [he, hf] at h
      have hl : ts.length ≤ 100000 := by
        have h2 : (tokF text).1 = ts := by rw [h1]
        have h3 : ts.length ≤ 8192 := by rw [← h2]; exact tok_count text
        omega
      refine OpC.callL rfl rfl rfl rfl [] 0 rfl rfl rfl (cparse_i a ha ts ad cap hl) rfl rfl rfl rfl trivial rfl (fun r H1 hk => ?_) ?_
      · rcases hk with ⟨_, _, _, _, _, rfl⟩ | ⟨_, _, _, _, _, rfl⟩ <;> exact ⟨Nat.le_refl _, Nat.le_refl _⟩
      rintro r H1 (⟨cs1, ad1, cap1, hR, rfl, rfl⟩ | ⟨f, q, hf, hR, rfl, rfl⟩)
      rotate_left
      · refine ⟨fun _ => ?_, fun h => ?_⟩
        · refine b_cg ?_
          show (!(decide ((0 : Int) = 0)) || decide ((0 : Int) = 0)) = true
          simp [hf]
        · have h : (!(decide ((0 : Int) = 0)) || !(decide (f = 0))) = false := h
          simp [hf] at h
      refine ⟨fun h => no_ft h, fun _ => ?_⟩
      obtain ⟨t1, g1, b1, rfl, n1⟩ := cparse_tree hR
      have hp1 := print_ok a t1.post ad1 cap1 (post_vs g1 b1)
      rw [print_post ha g1 b1 n1] at hp1
      refine OpC.callV rfl rfl rfl rfl rfl rfl rfl (fun _ => hp1) ?_
      obtain ⟨us, u1, u2⟩ := cparse_txt ha g1 b1 n1 (Nat.le_trans (txt_post g1 n1) (by decide))
      refine OpC.callL rfl rfl rfl rfl [] 1 rfl rfl rfl (tokensI_ok (txt a t1)) rfl rfl rfl rfl trivial rfl (fun r H1 hk => ?_) ?_
      · rcases hk with ⟨ts1, ad, cap, B, h1, rfl, rfl⟩ | ⟨e, p, h1, he, rfl, rfl⟩
        · exact ⟨Nat.zero_le _, Nat.le_refl _⟩
        · exact ⟨Nat.zero_le _, Nat.zero_le _⟩
      rintro r H1 (⟨vs, ad2, cap2, B2, h2, rfl, rfl⟩ | ⟨e, p, h2, he, rfl, rfl⟩)
      rotate_left
      · rw [u1] at h2; cases h2; exact absurd rfl he
      obtain rfl : us = vs := by rw [u1] at h2; cases h2; rfl
      have hl2 : us.length ≤ 100000 := by
        have h2 : (tokF (txt a t1)).1 = us := by rw [u1]
        have h3 : us.length ≤ 8192 := by rw [← h2]; exact tok_count _
        omega
      refine OpC.callL rfl rfl rfl rfl [] 0 rfl rfl rfl (cparse_i a ha us ad2 cap2 hl2) rfl rfl rfl rfl trivial rfl (fun r H1 hk => ?_) ?_
      · rcases hk with ⟨_, _, _, _, _, rfl⟩ | ⟨_, _, _, _, _, rfl⟩ <;> exact ⟨Nat.le_refl _, Nat.le_refl _⟩
      rintro r H1 (⟨cs2, ad3, cap3, hR2, rfl, rfl⟩ | ⟨f, q, hf, hR2, rfl, rfl⟩)
      rotate_left
      · rw [u2] at hR2; exact absurd (congrArg (fun x => x.2.1) hR2).symm hf
      obtain rfl : t1.post = cs2 := by rw [u2] at hR2; exact congrArg Prod.fst hR2
      refine OpC.callV rfl rfl rfl rfl rfl rfl rfl (fun _ => right_ok t1.post ad1 cap1) ?_
      refine OpC.callV rfl rfl rfl rfl rfl rfl rfl (fun _ => conds_ok t1.post t1.post ad1 cap1 ad3 cap3 (by omega)) ?_
      refine b_cg ?_
      show (((rightB t1.post && decide ((0 : Int) = 0)) && decide ((0 : Int) = 0)) && decide (t1.post = t1.post)) = true
      rw [(right_post g1 b1 n1).1]
      simp
    | false =>
      rw [printR_form ha hr] at hp
      refine OpC.callV rfl rfl rfl rfl rfl rfl rfl (fun _ => hp) ?_
      refine ⟨fun h => no_ft h, fun _ => ?_⟩
      refine OpC.callL rfl rfl rfl rfl [] 1 rfl rfl rfl (tokensI_ok text) rfl rfl rfl rfl trivial rfl (fun r H1 hk => ?_) ?_
      · rcases hk with ⟨ts1, ad, cap, B, h1, rfl, rfl⟩ | ⟨e, p, h1, he, rfl, rfl⟩
        · exact ⟨Nat.zero_le _, Nat.le_refl _⟩
        · exact ⟨Nat.zero_le _, Nat.zero_le _⟩
      rintro r H1 (⟨ts, ad, cap, B, h1, rfl, rfl⟩ | ⟨e, p, h1, he, rfl, rfl⟩)
      rotate_left
      · refine OpC.callL rfl rfl rfl rfl [] 0 rfl rfl rfl (cparse_nilw a ha) rfl rfl rfl rfl trivial rfl (fun r H1 hk => ?_) ?_
        · rcases hk with ⟨_, _, _, _, _, rfl⟩ | ⟨_, _, _, _, _, rfl⟩ <;> exact ⟨Nat.le_refl _, Nat.le_refl _⟩
        rintro r H1 (⟨cs1, ad1, cap1, hR, rfl, rfl⟩ | ⟨f, q, hf, hR, rfl, rfl⟩)
        · refine ⟨fun _ => ?_, fun h => ?_⟩
          · refine b_cg ?_
            show (!(decide (e = 0)) || decide ((cs1.length : Int) = 0)) = true
            simp [he]
          · have h : (!(decide (e = 0)) || !(decide ((0 : Int) = 0))) = false := h
            simp [he] at h
        · refine ⟨fun _ => ?_, fun h => ?_⟩
          · refine b_cg ?_
            show (!(decide (e = 0)) || decide ((0 : Int) = 0)) = true
            simp [he, hf]
          · have h : (!(decide (e = 0)) || !(decide (f = 0))) = false := h
            simp [he, hf] at h
      have hl : ts.length ≤ 100000 := by
        have h2 : (tokF text).1 = ts := by rw [h1]
        have h3 : ts.length ≤ 8192 := by rw [← h2]; exact tok_count text
        omega
      refine OpC.callL rfl rfl rfl rfl [] 0 rfl rfl rfl (cparse_i a ha ts ad cap hl) rfl rfl rfl rfl trivial rfl (fun r H1 hk => ?_) ?_
      · rcases hk with ⟨_, _, _, _, _, rfl⟩ | ⟨_, _, _, _, _, rfl⟩ <;> exact ⟨Nat.le_refl _, Nat.le_refl _⟩
      rintro r H1 (⟨cs1, ad1, cap1, hR, rfl, rfl⟩ | ⟨f, q, hf, hR, rfl, rfl⟩)
      rotate_left
      · refine ⟨fun _ => ?_, fun h => ?_⟩
        · refine b_cg ?_
          show (!(decide ((0 : Int) = 0)) || decide ((0 : Int) = 0)) = true
          simp [hf]
        · have h : (!(decide ((0 : Int) = 0)) || !(decide (f = 0))) = false := h
          simp [hf] at h
      refine ⟨fun h => no_ft h, fun _ => ?_⟩
      obtain ⟨t1, g1, b1, rfl, n1⟩ := cparse_tree hR
      have hp1 := print_ok a t1.post ad1 cap1 (post_vs g1 b1)
      rw [print_post ha g1 b1 n1] at hp1
      refine OpC.callV rfl rfl rfl rfl rfl rfl rfl (fun _ => hp1) ?_
      obtain ⟨us, u1, u2⟩ := cparse_txt ha g1 b1 n1 (Nat.le_trans (txt_post g1 n1) (by decide))
      refine OpC.callL rfl rfl rfl rfl [] 1 rfl rfl rfl (tokensI_ok (txt a t1)) rfl rfl rfl rfl trivial rfl (fun r H1 hk => ?_) ?_
      · rcases hk with ⟨ts1, ad, cap, B, h1, rfl, rfl⟩ | ⟨e, p, h1, he, rfl, rfl⟩
        · exact ⟨Nat.zero_le _, Nat.le_refl _⟩
        · exact ⟨Nat.zero_le _, Nat.zero_le _⟩
      rintro r H1 (⟨vs, ad2, cap2, B2, h2, rfl, rfl⟩ | ⟨e, p, h2, he, rfl, rfl⟩)
      rotate_left
      · rw [u1] at h2; cases h2; exact absurd rfl he
      obtain rfl : us = vs := by rw [u1] at h2; cases h2; rfl
      have hl2 : us.length ≤ 100000 := by
        have h2 : (tokF (txt a t1)).1 = us := by rw [u1]
        have h3 : us.length ≤ 8192 := by rw [← h2]; exact tok_count _
        omega
      refine OpC.callL rfl rfl rfl rfl [] 0 rfl rfl rfl (cparse_i a ha us ad2 cap2 hl2) rfl rfl rfl rfl trivial rfl (fun r H1 hk => ?_) ?_
      · rcases hk with ⟨_, _, _, _, _, rfl⟩ | ⟨_, _, _, _, _, rfl⟩ <;> exact ⟨Nat.le_refl _, Nat.le_refl _⟩
      rintro r H1 (⟨cs2, ad3, cap3, hR2, rfl, rfl⟩ | ⟨f, q, hf, hR2, rfl, rfl⟩)
      rotate_left
      · rw [u2] at hR2; exact absurd (congrArg (fun x => x.2.1) hR2).symm hf
      obtain rfl : t1.post = cs2 := by rw [u2] at hR2; exact congrArg Prod.fst hR2
      refine OpC.callV rfl rfl rfl rfl rfl rfl rfl (fun _ => right_ok t1.post ad1 cap1) ?_
      refine OpC.callV rfl rfl rfl rfl rfl rfl rfl (fun _ => conds_ok t1.post t1.post ad1 cap1 ad3 cap3 (by omega)) ?_
      refine b_cg ?_
      show (((rightB t1.post && decide ((0 : Int) = 0)) && decide ((0 : Int) = 0)) && decide (t1.post = t1.post)) = true
      rw [(right_post g1 b1 n1).1]
      simp
  · rw [printR_arch ha] at hp
    refine OpC.callV rfl rfl rfl rfl rfl rfl rfl (fun _ => hp) ?_
    refine ⟨fun h => no_ft h, fun _ => ?_⟩
    refine OpC.callL rfl rfl rfl rfl [] 1 rfl rfl rfl (tokensI_ok text) rfl rfl rfl rfl trivial rfl (fun r H1 hk => ?_) ?_
    · rcases hk with ⟨ts1, ad, cap, B, h1, rfl, rfl⟩ | ⟨e, p, h1, he, rfl, rfl⟩
      · exact ⟨Nat.zero_le _, Nat.le_refl _⟩
      · exact ⟨Nat.zero_le _, Nat.zero_le _⟩
    rintro r H1 (⟨ts, ad, cap, B, h1, rfl, rfl⟩ | ⟨e, p, h1, he, rfl, rfl⟩)
    · refine OpC.callV rfl rfl rfl rfl rfl rfl rfl (fun _ => cparse_other a ha ts ad cap) ?_
      refine ⟨fun _ => ?_, fun h => ?_⟩
      · refine b_cg ?_
        show (!(decide ((0 : Int) = 0)) || decide ((0 : Int) = 0)) = true
        simp []
      · have h : (!(decide ((0 : Int) = 0)) || !(decide ((36 : Int) = 0))) = false := h
        simp [] at h
    · refine OpC.callV rfl rfl rfl rfl rfl rfl rfl (fun _ => cparse_otherN a ha) ?_
      refine ⟨fun _ => ?_, fun h => ?_⟩
      · refine b_cg ?_
        show (!(decide (e = 0)) || decide ((0 : Int) = 0)) = true
        simp [he]
      · have h : (!(decide (e = 0)) || !(decide ((36 : Int) = 0))) = false := h
        simp [he] at h
end SX
end Go.Proofs.YthkedcneehdinaaGreatDoor

/- Conditions: rows that import RwA: what comes in, opened, with the bounds of its numbers (as CdR2). -/
set_option linter.unusedVariables false
set_option maxRecDepth 100000
namespace Go.Proofs.YthkedcneehdinaaGreatDoor
open Go Go.ChangeShapes Go.WideShapes Go.ChangeAt Go.RowKit
namespace SX
/-- A node whose value is a machine's number. -/
structure Cz where
  c : Cn
  h : in64 c.v
def cz0 : Cz := ⟨cn0, by unfold in64; decide⟩
theorem cz_dec (row : List Value) (h : LKs (List.replicate 5 (.i .i64)) row) : ∃ z : Cz, row = cellsL E0 (cenc z.c) := by
  match row, h with
  | [a, b, c, d, e], h =>
    obtain ⟨⟨x1, rfl, _⟩, ⟨x2, rfl, _⟩, ⟨x3, rfl, _⟩, ⟨x4, rfl, _⟩, ⟨x5, rfl, w⟩, _⟩ := h
    exact ⟨⟨⟨x1, x2, x3, x4, x5⟩, wf64 w⟩, rfl⟩
  | [], h => exact h.elim
  | [_], h => exact h.2.elim
  | [_, _], h => exact h.2.2.elim
  | [_, _, _], h => exact h.2.2.2.elim
  | [_, _, _, _], h => exact h.2.2.2.2.elim
  | _ :: _ :: _ :: _ :: _ :: _ :: _, h => exact h.2.2.2.2.2.elim
theorem imm_map {m : Mem} {V : List Nat} {α β : Type} (f : α → β) {d : α} {n : Nat} {enc : β → List SV} {xs : List α} {a : Option Addr} {cap : Nat} (hw : ∀ y, wdL (enc y) = n) (h : Ok m V (.imm α d n (fun x => enc (f x)) xs a cap)) : Ok m V (.imm β (f d) n enc (xs.map f) a cap) := by
  simp only [Ok] at h ⊢
  obtain ⟨h1, h2, h3, h4⟩ := h
  have hg : ∀ j, (xs.map f).getD j (f d) = f (xs.getD j d) := fun j => by
    simp only [List.getD_eq_getElem?_getD, List.getElem?_map]
    cases xs[j]? <;> rfl
  refine ⟨by simpa using h1, fun hne => ?_, hw, fun j hj => ?_⟩
  · obtain ⟨ad, arr, t, fr, e1, e2, e3, e4⟩ := h2 (by simpa using hne)
    refine ⟨ad, arr, t, fr, e1, e2, e3, fun j hj u c hu => ?_⟩
    rw [hg] at hu
    exact e4 j (by simpa using hj) u c hu
  · rw [hg]
    exact h4 j (by simpa using hj)
end SX
section
variable {H : Type} {enc : TypeId × Value → H} {W : World} {b0 : Nat} {v : Value} {d : DataW H} {p : List MemPlace} {base : Nat} {spare : Nat → Bool} {held : Bool}
theorem conds_openZ (hv : Value.okWide Tryz.prog W .any b0 46 v) (h : DataW.Trod enc Tryz.prog W base spare held 46 v d p) :
    ∃ (xs : List SX.Cn) (a : Option Addr) (cap : Nat) (S : Nat → Bool), v = SX.den (fun _ _ => none) (.imm SX.Cn SX.cn0 5 SX.cenc xs a cap) ∧ SX.Ok (SX.memOf W S) [] (.imm SX.Cn SX.cn0 5 SX.cenc xs a cap) ∧ ∀ j, SX.in64 (xs.getD j SX.cn0).v := by
  obtain ⟨xs, a, cap, S, e, hok, _⟩ := SX.open_imm (f := 40) (e := 84) (ls := List.replicate 5 (.i .i64)) Tryz.underlying46 (by kernel_rfl) (by kernel_rfl) (by decide) SX.cz0 (fun z => SX.cenc z.c) rfl (fun _ => rfl) (fun c m => by simp [SX.cenc, SX.OkL, SX.Ok, SX.isUnit]) SX.cz_dec hv h
  have hok2 : SX.Ok (SX.memOf W S) [] (.imm SX.Cn SX.cz0.c 5 SX.cenc (List.map (fun z : SX.Cz => z.c) xs) a cap) := SX.imm_map (fun z : SX.Cz => z.c) (d := SX.cz0) (enc := SX.cenc) (fun _ => rfl) hok
  refine ⟨List.map (fun z : SX.Cz => z.c) xs, a, cap, S, ?_, hok2, fun j => ?_⟩
  · rw [e]
    simp [SX.den, SX.wrapV, SX.cells]
  · simp only [List.getD_eq_getElem?_getD, List.getElem?_map]
    cases hx : xs[j]? with
    | none => exact SX.cz0.h
    | some z => simpa using z.h
end
end Go.Proofs.YthkedcneehdinaaGreatDoor

/- CondBack: the row. Written by row.py. -/
set_option linter.unusedVariables false
set_option linter.unusedSimpArgs false
set_option maxRecDepth 100000
namespace Go.Proofs.YthkedcneehdinaaGreatDoor
open Go Go.ChangeShapes Go.WideShapes Go.ChangeAt Go.RowKit
theorem params_in : ∀ t ∈ Tryz.f10.params.toList, t < Tryz.prog.types.size := by
  have : (Tryz.f10.params.toList.all fun t => Nat.blt t Tryz.prog.types.size) = true := by kernel_rfl
  exact fun t ht => Nat.le_of_ble_eq_true (List.all_eq_true.1 this t ht)
theorem door_met (os : Os) (args : Array Value) : laidMetH Tryz.prog Rows.condBackRow.laid ((World.doorLaid Tryz.prog 400 os).forCall (fun _ _ => 0) ⟨#[], args, []⟩).memory :=
  laidMetH_of_parts3 (fuel := 8) (laidMet_of_run' 8 (by kernel_rfl) (by kernel_rfl)) (by kernel_rfl) (by kernel_rfl)
theorem lifted (os : Os) (started : os.Started) (H : Type) (enc : TypeId × Value → H) :
    ReturnsInHanded {} Tryz.checked os 10 .any (fun w args => (Rows.condBackSpec.pre enc Tryz.prog Tryz.f10 [] false w args ∧ laidMetH Tryz.prog Rows.condBackRow.laid w) ∧ sizedMet enc Tryz.prog Tryz.f10 (OpenSpec.ofChange Rows.condBackSpec) false w args)
      (Rows.condBackSpec.post enc Tryz.prog Tryz.f10 false true false false) := by
  refine SX.returns_shaped (C := Tryz.checked) (X := fun w _ => laidMetH Tryz.prog Rows.condBackRow.laid w) (fun _ _ _ hh h => h.of_heap hh) own started (by kernel_rfl) Tryz.func10
    (ChangeSpec.witness_shaped (enc := enc) (C := Tryz.checked) (os := os) (X := fun w _ => laidMetH Tryz.prog Rows.condBackRow.laid w) false (World.doorLaid Tryz.prog 400 os) #[.int .i64 0, .slice none 0 0, .string ⟨#[]⟩] 8 rfl (World.shaped_of_RefB (by kernel_rfl) (by kernel_rfl)) (by kernel_rfl) (by kernel_rfl) (by kernel_rfl) (door_met os _)) ?_
  intro W base args ds gs before hval0 hW hz hL hSh
  have hval : ∀ (j : Nat) t v, Tryz.f10.params[j]? = some t → args[j]? = some v → Value.okWide Tryz.prog W .any base t v := hval0
  have hW' := hW
  obtain ⟨p, q, hA0, hV, rfl, hfz, hnd⟩ := hW
  have hA : DataW.TrodAll enc Tryz.prog W 0 (fun _ => true) true Tryz.f10.params.toList args.toList ds p := hA0
  rw [Tryz.params10] at hA hval
  obtain ⟨v0, v1, v2, d0, d1, d2, p0, p1, p2, rfl, rfl, rfl, h0, h1, h2⟩ := trodAll_three hA
  obtain ⟨rfl, rfl⟩ := trodVars_none hV
  obtain ⟨x0, rfl, _, _, w0⟩ := open_int Tryz.underlying3 (hval 0 _ v0 rfl rfl) h0
  obtain ⟨x1, a1, c1, S1, rfl, k1, w1⟩ := conds_openZ (hval 1 _ v1 rfl rfl) h1
  obtain ⟨s2, rfl, e2, _, _⟩ := Go.ChangeMaps.open_string Tryz.underlying9 (hval 2 _ v2 rfl rfl) h2
  have w2 := sized_string hz (j := 2) rfl (congrArg some e2)
  clear hA0 hval0
  have hT := SX.tabsIn_row hL rfl hSh (List.mem_of_getElem? (i := 0) rfl) (List.mem_of_getElem? (i := 1) rfl) (List.mem_of_getElem? (i := 2) rfl) (List.mem_of_getElem? (i := 3) rfl) (List.mem_of_getElem? (i := 4) rfl) (List.mem_of_getElem? (i := 6) rfl) (by kernel_rfl) (by kernel_rfl) (by kernel_rfl) (by kernel_rfl) (by kernel_rfl) (by kernel_rfl)
  refine (SX.law_callsM (args := [.i .i64 x0, .imm SX.Cn SX.cn0 5 SX.cenc x1 a1 c1, .s s2.data.toList]) Tryz.func10 rfl rfl (SX.condBack_ok x0 x1 a1 c1 s2.data.toList (SX.wf64 w0) w1 (Nat.le_of_lt (Nat.lt_of_le_of_lt w2 reachBytes_lt))) W hT S1 ?_ (by simp [SX.den, SX.denL, SX.wrapV, SX.cells])).mono fun e W' ⟨he, hk, ho, hu⟩ => ?_
  · exact ⟨⟨rfl, trivial⟩, ⟨rfl, k1⟩, ⟨rfl, trivial⟩, trivial⟩
  subst he
  exact ⟨_, rfl, SX.post_kept hk compsOk params_in (fun n hn => by cases hn) hW' ho hu rfl rfl rfl (fun _ _ _ => trodAll_mk1 (shut_bool Tryz.underlying4 _)) (ok_one (by kernel_rfl) rfl (okWide_bool_mk Tryz.underlying4 _))⟩
theorem fact0 : (fun (P : Program) (f : FuncId) (fn : Func) (s : ChangeSpec) (c : OpenClaim) => c.wf (OpenSpec.ofChange s)) Tryz.prog 10 Tryz.f10 Rows.condBackSpec Rows.condBackRow = true := by kernel_rfl
theorem fact1 : (fun (P : Program) (f : FuncId) (fn : Func) (s : ChangeSpec) (c : OpenClaim) => laidOutB P) Tryz.prog 10 Tryz.f10 Rows.condBackSpec Rows.condBackRow = true := by kernel_rfl
theorem fact2 : (fun (P : Program) (f : FuncId) (fn : Func) (s : ChangeSpec) (c : OpenClaim) => mapsRowed P) Tryz.prog 10 Tryz.f10 Rows.condBackSpec Rows.condBackRow = true := by kernel_rfl
theorem fact3 : (fun (P : Program) (f : FuncId) (fn : Func) (s : ChangeSpec) (c : OpenClaim) => fn.params.all (P.readableRec ·)) Tryz.prog 10 Tryz.f10 Rows.condBackSpec Rows.condBackRow = true := by kernel_rfl
theorem fact4 : (fun (P : Program) (f : FuncId) (fn : Func) (s : ChangeSpec) (c : OpenClaim) => namedTie P c.named s.vars) Tryz.prog 10 Tryz.f10 Rows.condBackSpec Rows.condBackRow = true := by kernel_rfl
theorem fact5 : (fun (P : Program) (f : FuncId) (fn : Func) (s : ChangeSpec) (c : OpenClaim) => (c.stops == [])) Tryz.prog 10 Tryz.f10 Rows.condBackSpec Rows.condBackRow = true := by kernel_rfl
theorem fact6 : (fun (P : Program) (f : FuncId) (fn : Func) (s : ChangeSpec) (c : OpenClaim) => (P.stops == [])) Tryz.prog 10 Tryz.f10 Rows.condBackSpec Rows.condBackRow = true := by kernel_rfl
theorem fact7 : (fun (P : Program) (f : FuncId) (fn : Func) (s : ChangeSpec) (c : OpenClaim) => (c.knobs == [])) Tryz.prog 10 Tryz.f10 Rows.condBackSpec Rows.condBackRow = true := by kernel_rfl
theorem fact8 : (fun (P : Program) (f : FuncId) (fn : Func) (s : ChangeSpec) (c : OpenClaim) => (P.stopKnobs == [])) Tryz.prog 10 Tryz.f10 Rows.condBackSpec Rows.condBackRow = true := by kernel_rfl
theorem fact9 : (fun (P : Program) (f : FuncId) (fn : Func) (s : ChangeSpec) (c : OpenClaim) => (c.inPlace == P.inPlace f)) Tryz.prog 10 Tryz.f10 Rows.condBackSpec Rows.condBackRow = true := by kernel_rfl
theorem fact10 : (fun (P : Program) (f : FuncId) (fn : Func) (s : ChangeSpec) (c : OpenClaim) => (c.unfollowed == P.unfollowed f)) Tryz.prog 10 Tryz.f10 Rows.condBackSpec Rows.condBackRow = true := by kernel_rfl
theorem fact11 : (fun (P : Program) (f : FuncId) (fn : Func) (s : ChangeSpec) (c : OpenClaim) => (c.recurses == P.recurses f)) Tryz.prog 10 Tryz.f10 Rows.condBackSpec Rows.condBackRow = true := by kernel_rfl
theorem fact12 : (fun (P : Program) (f : FuncId) (fn : Func) (s : ChangeSpec) (c : OpenClaim) => (c.named == P.varsNamed f)) Tryz.prog 10 Tryz.f10 Rows.condBackSpec Rows.condBackRow = true := by kernel_rfl
theorem fact13 : (fun (P : Program) (f : FuncId) (fn : Func) (s : ChangeSpec) (c : OpenClaim) => (c.maps == (fn.params.toList ++ s.plain.varTypes P).any (P.mapsRec ·))) Tryz.prog 10 Tryz.f10 Rows.condBackSpec Rows.condBackRow = true := by kernel_rfl
theorem fact14 : (fun (P : Program) (f : FuncId) (fn : Func) (s : ChangeSpec) (c : OpenClaim) => (c.ifaces == (fn.params.toList ++ s.plain.varTypes P).any (P.ifacesRec ·))) Tryz.prog 10 Tryz.f10 Rows.condBackSpec Rows.condBackRow = true := by kernel_rfl
theorem fact15 : (fun (P : Program) (f : FuncId) (fn : Func) (s : ChangeSpec) (c : OpenClaim) => (c.mapsOut == P.mapsAmong fn.resultTypes.toList)) Tryz.prog 10 Tryz.f10 Rows.condBackSpec Rows.condBackRow = true := by kernel_rfl
theorem fact16 : (fun (P : Program) (f : FuncId) (fn : Func) (s : ChangeSpec) (c : OpenClaim) => (c.loops == (fn.params.toList ++ s.plain.varTypes P).any (P.loopsFrom ·))) Tryz.prog 10 Tryz.f10 Rows.condBackSpec Rows.condBackRow = true := by kernel_rfl
theorem fact17 : (fun (P : Program) (f : FuncId) (fn : Func) (s : ChangeSpec) (c : OpenClaim) => (c.wideKeys == (fn.params.toList ++ s.plain.varTypes P ++ fn.resultTypes.toList).any (P.wideKeysFrom ·))) Tryz.prog 10 Tryz.f10 Rows.condBackSpec Rows.condBackRow = true := by kernel_rfl
theorem fact18 : (fun (P : Program) (f : FuncId) (fn : Func) (s : ChangeSpec) (c : OpenClaim) => s.vars.all (P.varReadable ·)) Tryz.prog 10 Tryz.f10 Rows.condBackSpec Rows.condBackRow = true := by kernel_rfl
theorem fact19 : (fun (P : Program) (f : FuncId) (fn : Func) (s : ChangeSpec) (c : OpenClaim) => fn.resultTypes.all (fun t => P.readableRec t && decide (t < P.types.size))) Tryz.prog 10 Tryz.f10 Rows.condBackSpec Rows.condBackRow = true := by kernel_rfl
theorem fact20 : (fun (P : Program) (f : FuncId) (fn : Func) (s : ChangeSpec) (c : OpenClaim) => (c.ifacesOut == fn.resultTypes.toList.any (P.ifacesRec ·))) Tryz.prog 10 Tryz.f10 Rows.condBackSpec Rows.condBackRow = true := by kernel_rfl
theorem fact21 : (fun (P : Program) (f : FuncId) (fn : Func) (s : ChangeSpec) (c : OpenClaim) => (c.loopsOut == fn.resultTypes.toList.any (P.loopsFrom ·))) Tryz.prog 10 Tryz.f10 Rows.condBackSpec Rows.condBackRow = true := by kernel_rfl
theorem fact22 : (fun (P : Program) (f : FuncId) (fn : Func) (s : ChangeSpec) (c : OpenClaim) => (c.plainKeys == P.plainKeys)) Tryz.prog 10 Tryz.f10 Rows.condBackSpec Rows.condBackRow = true := by kernel_rfl
theorem fact23 : (fun (P : Program) (f : FuncId) (fn : Func) (s : ChangeSpec) (c : OpenClaim) => c.shortTexts.isNone) Tryz.prog 10 Tryz.f10 Rows.condBackSpec Rows.condBackRow = true := by kernel_rfl
theorem fact24 : (fun (P : Program) (f : FuncId) (fn : Func) (s : ChangeSpec) (c : OpenClaim) => P.stopsHeard) Tryz.prog 10 Tryz.f10 Rows.condBackSpec Rows.condBackRow = true := by kernel_rfl
theorem fact25 : (fun (P : Program) (f : FuncId) (fn : Func) (s : ChangeSpec) (c : OpenClaim) => P.mayEnter) Tryz.prog 10 Tryz.f10 Rows.condBackSpec Rows.condBackRow = true := by kernel_rfl
theorem fact26 : (fun (P : Program) (f : FuncId) (fn : Func) (s : ChangeSpec) (c : OpenClaim) => (c.lifted == P.liftsFinal)) Tryz.prog 10 Tryz.f10 Rows.condBackSpec Rows.condBackRow = true := by kernel_rfl
theorem fact27 : (fun (P : Program) (f : FuncId) (fn : Func) (s : ChangeSpec) (c : OpenClaim) => (P.make == some c.make)) Tryz.prog 10 Tryz.f10 Rows.condBackSpec Rows.condBackRow = true := by kernel_rfl
theorem fact28 : (fun (P : Program) (f : FuncId) (fn : Func) (s : ChangeSpec) (c : OpenClaim) => (c.kinds == (if c.domain.isEmpty then [] else fn.params.toList.map fun t => match P.underlying t with | some (.int k) => some k | _ => none))) Tryz.prog 10 Tryz.f10 Rows.condBackSpec Rows.condBackRow = true := by kernel_rfl
theorem fact29 : (fun (P : Program) (f : FuncId) (fn : Func) (s : ChangeSpec) (c : OpenClaim) => (c.pinned == c.pinnedBy)) Tryz.prog 10 Tryz.f10 Rows.condBackSpec Rows.condBackRow = true := by kernel_rfl
theorem fact30 : (fun (P : Program) (f : FuncId) (fn : Func) (s : ChangeSpec) (c : OpenClaim) => (c.veiled == (fn.params.toList ++ s.plain.varTypes P ++ fn.resultTypes.toList).any (P.veiledRec ·))) Tryz.prog 10 Tryz.f10 Rows.condBackSpec Rows.condBackRow = true := by kernel_rfl
theorem fact31 : (fun (P : Program) (f : FuncId) (fn : Func) (s : ChangeSpec) (c : OpenClaim) => c.veiledFits P fn.params.toList (fn.params.toList ++ s.plain.varTypes P ++ fn.resultTypes.toList)) Tryz.prog 10 Tryz.f10 Rows.condBackSpec Rows.condBackRow = true := by kernel_rfl
theorem facts : joinedFacts Tryz.prog 10 Tryz.f10 Rows.condBackSpec Rows.condBackRow = true := facts_of fact0 fact1 fact2 fact3 fact4 fact5 fact6 fact7 fact8 fact9 fact10 fact11 fact12 fact13 fact14 fact15 fact16 fact17 fact18 fact19 fact20 fact21 fact22 fact23 fact24 fact25 fact26 fact27 fact28 fact29 fact30 fact31
theorem fnamed : Tryz.prog.funcNamed "belated/belatedlaw8.CondBack" = some 10 := by kernel_rfl
theorem instOk : Tryz.f10.isInstance Tryz.prog Rows.condBackRow.origin Rows.condBackRow.targs := of_decide_eq_true (by kernel_rfl)
theorem wrapOk : Tryz.f10.isWrapper Tryz.prog Rows.condBackRow.wrapper Rows.condBackRow.mainSum := by
  unfold Func.isWrapper; first | (rw [if_pos (by decide +kernel)]; kernel_rfl) | (rw [if_neg (by decide +kernel)]; exact ⟨rfl, rfl⟩)
theorem condBack_holds : Rows.CondBackSaid :=
  OpenClaim.holds_of_wide 10 Tryz.f10 rfl rfl rfl rfl rfl rfl rfl ⟨rfl, rfl, rfl, rfl, rfl⟩ rfl rfl rfl rfl rfl fnamed Tryz.func10 facts instOk wrapOk
    (fun os started H enc _ => lifted os started H enc)
theorem wfText : Rows.condBackRow.wfByText (OpenSpec.ofChange Rows.condBackSpec) = true := by kernel_rfl
theorem mainOk : Tryz.prog.mainIs = some (true, "ee5e4f0b19a504e36959d0abf6e8593140e78c9cabcc708e7bd1f2ba571561a3".toList) := by kernel_rfl
theorem looksOk : true = Tryz.prog.looks [] := by kernel_rfl
theorem standOk : ([3, 46, 9].all fun u => !Tryz.prog.wantsStandIn u) = true := by kernel_rfl
theorem goesOk : false = Rows.condBackRow.goesBy Tryz.prog := by kernel_rfl
theorem condBack_card : Rows.CondBackCardSaid :=
  Claim7.holds_tied_plain_at .later [] [.data, .data, .data, .sentinel, .sentinel, .listed, .data] true (true, "ee5e4f0b19a504e36959d0abf6e8593140e78c9cabcc708e7bd1f2ba571561a3") true
    condBack_holds (fun _ h => by cases h) wfText (fun _ h => by cases h) condBack_row_tie rfl ⟨rfl, rfl⟩ mainOk rfl
    (fun f fn hf hfn => by
      obtain rfl : f = 10 := Option.some.inj (fnamed.symm.trans hf) |>.symm
      obtain rfl : fn = Tryz.f10 := (Option.some.inj (Tryz.func10.symm.trans hfn)).symm
      exact ⟨looksOk, fun j t ht => by
        have ht : [3, 46, 9].toArray[j]? = some t := by rw [Tryz.params10] at ht; exact ht
        have hm : t ∈ [3, 46, 9] := by simpa using Array.mem_of_getElem? ht
        exact (show Tryz.prog.wantsStandIn t = false by simpa using List.all_eq_true.1 standOk t hm)⟩)
    goesOk
#print axioms condBack_card
end Go.Proofs.YthkedcneehdinaaGreatDoor
