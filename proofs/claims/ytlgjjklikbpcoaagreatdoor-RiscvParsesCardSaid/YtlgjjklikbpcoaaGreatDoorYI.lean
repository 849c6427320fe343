/- A part of SX: symbolic and concrete runs of the program, with contracts of functions; lemmas without further conditions. -/
import Derived.ChangeSame
import Derived.ChangeReads
import Derived.ProofKit
import Derived.Deep.Fields
import Derived.Test.YtlgjjklikbpcoaaGreatDoorYH
set_option linter.unusedVariables false
set_option linter.unusedSimpArgs false
set_option linter.unusedSectionVars false
/- SX: rows: what was read is read again when no old block has changed. -/
set_option linter.unusedVariables false
set_option linter.unusedSimpArgs false
namespace Go.Proofs.YtlgjjklikbpcoaaGreatDoor
namespace SX
open Go Go.ChangeShapes Go.WideShapes
theorem mapM_to {α β : Type} {f g : α → Option β} : ∀ {l : List α} {r : List β}, l.mapM f = some r → (∀ x ∈ l, ∀ y, f x = some y → g x = some y) → l.mapM g = some r
  | [], r, h, hr => by simpa using h
  | a :: as1, r, h, hr => by
    rw [List.mapM_cons] at h ⊢
    cases ha : f a with
    | none => simp [ha] at h
    | some b =>
      cases has : as1.mapM f with
      | none => simp [ha, has] at h
      | some bs =>
        simp [ha, has] at h
        subst h
        rw [hr a (by simp) b ha, mapM_to has fun x hx y hy => hr x (by simp [hx]) y hy]
        rfl
theorem mapM_at {α β : Type} {f : α → Option β} : ∀ {l : List α} {r : List β}, l.mapM f = some r → ∀ {x}, x ∈ l → ∃ y, f x = some y
  | [], r, h, x, hx => by simp at hx
  | a :: as1, r, h, x, hx => by
    rw [List.mapM_cons] at h
    cases ha : f a with
    | none => simp [ha] at h
    | some b =>
      cases has : as1.mapM f with
      | none => simp [ha, has] at h
      | some bs =>
        rcases List.mem_cons.1 hx with rfl | hx
        · exact ⟨b, ha⟩
        · exact mapM_at has hx
def Kept (w w' : World) : Prop := ∀ b, b < w.heap.size → w'.heap[b]? = w.heap[b]?
section
variable {H : Type} {enc : TypeId × Value → H} {P : Program} {w w' : World} {base : Nat} {sp sp' : Nat → Bool} {held : Bool}
theorem Kept.cell (hk : Kept w w') {a : Addr} {v : Value} (h : w.cell? a = some v) : w'.cell? a = some v := by
  have hb := World.block_lt_of_cell? w _ h
  have := hk a.block hb
  unfold World.cell? at h ⊢
  rw [this]
  exact h
theorem Kept.cells (hk : Kept w w') {a : Addr} {n : Nat} {cs : List Value} (h : w.cells? base a n = some cs) : w'.cells? base a n = some cs := by
  unfold World.cells? at h ⊢
  split at h
  · rename_i hb
    rw [if_pos hb]
    exact mapM_to h fun i _ y hy => hk.cell hy
  · cases h
def CompsOk (P : Program) (S : TypeId → Prop) (t : TypeId) : Prop := match P.underlying t with
  | some (.pointer e) => S e
  | some (.slice e) => S e ∧ 0 < P.cellsOf e
  | some (.struct fs) => ∀ f ∈ fs.toList, S f.type
  | some (.array _ e) => S e
  | some (.map _ e) => S e
  | _ => True
def compsB (P : Program) (n : Nat) (t : TypeId) : Bool := match P.underlying t with
  | some (.pointer e) => Nat.blt e n
  | some (.slice e) => Nat.blt e n && Nat.blt 0 (P.cellsOf e)
  | some (.struct fs) => fs.toList.all fun f => Nat.blt f.type n
  | some (.array _ e) => Nat.blt e n
  | some (.map _ e) => Nat.blt e n
  | _ => true
theorem compsOk_of {P : Program} {n : Nat} (h : ((List.range n).all (compsB P n)) = true) : ∀ t, t < n → CompsOk P (· < n) t := by
  intro t ht
  have := List.all_eq_true.1 h t (List.mem_range.2 ht)
  unfold compsB at this
  unfold CompsOk
  split <;> rename_i hu <;> first | trivial | (rw [hu] at this; simp only at this)
  · exact Nat.le_of_ble_eq_true this
  · rw [Bool.and_eq_true] at this
    exact ⟨Nat.le_of_ble_eq_true this.1, Nat.le_of_ble_eq_true this.2⟩
  · intro f hf
    exact Nat.le_of_ble_eq_true (List.all_eq_true.1 this f hf)
  · exact Nat.le_of_ble_eq_true this
  · exact Nat.le_of_ble_eq_true this
theorem trodStep_grow {S : TypeId → Prop} {r r' : TypeId → List Value → Option (DataW H × List MemPlace)} (hk : Kept w w') (hsp : ∀ b, b < w.heap.size → sp' b = true) (hz : ∀ t, S t → CompsOk P S t)
    (hr : ∀ t, S t → ∀ cs x, r t cs = some x → r' t cs = some x) {t : TypeId} (hS : S t) {cs : List Value} {x : DataW H × List MemPlace}
    (h : DataW.trodStep enc P w base (fun _ => true) true r t cs = some x) : DataW.trodStep enc P w' base sp' true r' t cs = some x := by
  have hcp := hz t hS
  unfold CompsOk at hcp
  unfold DataW.trodStep at h ⊢
  split at h
  case h_1 => exact h
  case h_2 => exact h
  case h_3 => exact h
  case h_4 => exact h
  case h_5 => exact h
  case h_6 e a ht =>
    rw [ht] at hcp
    simp only [Option.map_eq_some_iff, Option.bind_eq_some_iff] at h ⊢
    obtain ⟨y, ⟨cs', hc, hy⟩, rfl⟩ := h
    exact ⟨y, ⟨cs', hk.cells hc, hr _ hcp _ _ hy⟩, rfl⟩
  case h_7 => exact h
  case h_8 e a len cap ht =>
    rw [ht] at hcp
    simp only at h ⊢
    split at h
    · rename_i hc
      rw [if_pos hc]
      simp only [Option.map_eq_some_iff, Option.bind_eq_some_iff] at h ⊢
      obtain ⟨elems, he, rest, hrest, rfl⟩ := h
      have one : ∀ i y, (w.cells? base (a.add (i * P.cellsOf e)) (P.cellsOf e)).bind (r e) = some y → (w'.cells? base (a.add (i * P.cellsOf e)) (P.cellsOf e)).bind (r' e) = some y := fun i y hy => by
        simp only [Option.bind_eq_some_iff] at hy ⊢
        obtain ⟨cs', hc', hy'⟩ := hy
        exact ⟨cs', hk.cells hc', hr _ hcp.1 _ _ hy'⟩
      refine ⟨elems, mapM_to he fun i _ y hy => one i y hy, rest, ?_, rfl⟩
      by_cases hcap : cap - len = 0
      · rw [hcap] at hrest ⊢
        simp only [List.range_zero, List.mapM_nil] at hrest ⊢
        revert hrest
        cases sp' a.block <;> simp
      · rw [if_pos trivial] at hrest
        obtain ⟨y, hy⟩ := mapM_at hrest (List.mem_range.2 (Nat.pos_of_ne_zero hcap))
        simp only [Option.bind_eq_some_iff] at hy
        obtain ⟨cs', hc', _⟩ := hy
        have hb : (a.add ((len + 0) * P.cellsOf e)).block < w.heap.size := World.cells?_block hc' hcp.2
        have hb : a.block < w.heap.size := by
          have e1 : (a.add ((len + 0) * P.cellsOf e)).block = a.block := by unfold Addr.add; split <;> rfl
          rw [← e1]; exact hb
        rw [if_pos (hsp _ hb)]
        exact mapM_to hrest fun i _ y hy => one _ y hy
    · cases h
  case h_9 fs ht =>
    rw [ht] at hcp
    split at h
    · rename_i hc
      rw [if_pos hc]
      simp only [Option.map_eq_some_iff] at h ⊢
      obtain ⟨xs, hx, rfl⟩ := h
      exact ⟨xs, mapM_to hx fun f hf y hy => hr _ (hcp f hf) _ _ hy, rfl⟩
    · cases h
  case h_10 n e ht =>
    rw [ht] at hcp
    split at h
    · rename_i hc
      rw [if_pos hc]
      simp only [Option.map_eq_some_iff] at h ⊢
      obtain ⟨xs, hx, rfl⟩ := h
      exact ⟨xs, mapM_to hx fun f _ y hy => hr _ hcp _ _ hy, rfl⟩
    · cases h
  case h_11 => exact h
  case h_12 => exact h
  case h_13 => exact h
  case h_14 k e b ht =>
    rw [ht] at hcp
    split at h
    · rename_i es clock hb
      have hlt : b < w.heap.size := by
        rcases Nat.lt_or_ge b w.heap.size with h1 | h1
        · exact h1
        · rw [Array.getElem?_eq_none h1] at hb; cases hb
      have hb' : w'.heap[b]? = some (.map es clock) := by rw [hk b hlt]; exact hb
      rw [hb']
      simp only
      split at h
      · rename_i hc
        rw [if_pos hc]
        simp only [Option.bind_eq_some_iff] at h ⊢
        obtain ⟨entries, he, hd⟩ := h
        refine ⟨entries, mapM_to he fun x _ y hy => ?_, hd⟩
        simp only [Option.bind_eq_some_iff] at hy ⊢
        obtain ⟨key, hk, hz⟩ := hy
        refine ⟨key, hk, ?_⟩
        split at hz
        · rename_i hf
          rw [if_pos hf]
          simp only [Option.map_eq_some_iff] at hz ⊢
          obtain ⟨q, hq, rfl⟩ := hz
          exact ⟨q, hr _ hcp _ _ hq, rfl⟩
        · cases hz
      · cases h
    · cases h
  all_goals exact h
variable {S : TypeId → Prop} (hk : Kept w w') (hz : ∀ t, S t → CompsOk P S t)
include hk hz
theorem trod_grow (hsp : ∀ b, b < w.heap.size → sp' b = true) : ∀ (n : Nat) (t : TypeId), S t → ∀ (cs : List Value) (x : DataW H × List MemPlace), DataW.trod enc P w base (fun _ => true) true n t cs = some x → DataW.trod enc P w' base sp' true n t cs = some x := by
  intro n
  induction n with
  | zero => intro t _ cs x h; simp [DataW.trod] at h
  | succ n ih =>
    intro t hS cs x h
    rw [DataW.trod_step] at h ⊢
    exact trodStep_grow hk hsp hz ih hS h
theorem trodAll_grow (hsp : ∀ b, b < w.heap.size → sp' b = true) : ∀ {ts : List TypeId} {vs : List Value} {ds : List (DataW H)} {ps : List MemPlace}, (∀ t ∈ ts, S t) →
    DataW.TrodAll enc P w base (fun _ => true) true ts vs ds ps → DataW.TrodAll enc P w' base sp' true ts vs ds ps
  | [], [], [], _, _, h => h
  | _ :: _, _ :: _, _ :: _, _, hS, ⟨p, q, ⟨n, h⟩, hs, e⟩ => ⟨p, q, ⟨n, trod_grow hk hz hsp n _ (hS _ (List.mem_cons_self ..)) _ _ h⟩, trodAll_grow hsp (fun t ht => hS t (List.mem_cons_of_mem _ ht)) hs, e⟩
theorem trodVars_grow (hsp : ∀ b, b < w.heap.size → sp' b = true) (hv : ∀ n cs, w.var? P n = some cs → w'.var? P n = some cs) : ∀ {ns : List String} {ds : List (DataW H)} {ps : List MemPlace}, (∀ n ∈ ns, ∀ g t, P.globalNamed n = some g → (P.globals[g]?).map (·.type) = some t → S t) →
    DataW.TrodVars enc P w (fun _ => true) ns ds ps → DataW.TrodVars enc P w' sp' ns ds ps
  | [], [], _, _, h => h
  | n :: _, _ :: _, _, hS, ⟨g, t, cs, fuel, p, q, h1, h2, h3, h4, hs, e⟩ =>
    ⟨g, t, cs, fuel, p, q, h1, h2, hv _ _ h3, trod_grow hk hz hsp _ _ (hS n (List.mem_cons_self ..) g t h1 h2) _ _ h4, trodVars_grow hsp hv (fun n hn => hS n (List.mem_cons_of_mem _ hn)) hs, e⟩
omit hz in
theorem Kept.var {n : String} {cs : Array Value} (h : w.var? P n = some cs) : w'.var? P n = some cs := by
  unfold World.var? at h ⊢
  cases hg : P.globalNamed n with
  | none => rw [hg] at h; cases h
  | some g =>
    rw [hg] at h
    simp only [Option.bind_some] at h ⊢
    rcases Nat.lt_or_ge g w.heap.size with h1 | h1
    · rw [hk g h1]; exact h
    · rw [Array.getElem?_eq_none h1] at h; cases h
omit hz in
theorem Kept.noneFrozen {ps : List MemPlace} (hl : ∀ p ∈ ps, p.block < w.heap.size) (h : w.noneFrozen ps) : w'.noneFrozen ps := by
  intro b off hp
  have h1 := h b off hp
  have h2 := hl _ hp
  unfold World.frozen? at h1 ⊢
  rw [hk b h2]
  exact h1
theorem post_kept {f : Func} {s : ChangeSpec} {apart fresh handsOn again : Bool} {args : Array Value} {v : Value} {ds gs : List (DataW H)} {before : List MemPlace} {res : List (DataW H)}
    (hS : ∀ t ∈ f.params.toList, S t) (hSv : ∀ n ∈ s.vars, ∀ g t, P.globalNamed n = some g → (P.globals[g]?).map (·.type) = some t → S t)
    (hW : DataW.Whole enc P f.params.toList s.vars apart w args.toList ds gs before) (hos : w'.os = w.os) (hout : w'.output = w.output)
    (hr : (s.fn H (ds ++ gs)).results = res) (ha : (s.fn H (ds ++ gs)).args = ds) (hvv : (s.fn H (ds ++ gs)).vars = gs)
    (hres : ∀ (b : Nat) (sp : Nat → Bool) (hd : Bool), DataW.TrodAll enc P w' b sp hd f.resultTypes.toList (v.resultList f.resultTypes.size) res [])
    (hok : ∀ (j : Nat) (t : TypeId) (r : Value), f.resultTypes[j]? = some t → (v.resultList f.resultTypes.size)[j]? = some r → Value.okWide P w' .any 0 t r) :
    s.post enc P f apart fresh handsOn again w args v w' := by
  have hlt := hW.lt
  have hW0 := hW
  obtain ⟨p, q, h1, h2, rfl, h4, h5⟩ := hW
  have hsp : ∀ b, b < w.heap.size → (fun b => decide (b < w.heap.size)) b = true := fun b hb => by simpa using hb
  refine ⟨ds, gs, p ++ q, [], p, q, hW0, by rw [hr]; exact hres _ _ _, by rw [ha]; exact trodAll_grow hk hz hsp hS h1, by rw [hvv]; exact trodVars_grow hk hz hsp (fun n cs => hk.var) hSv h2, ⟨hos, hout, fun i hi => ?_⟩, fun _ => ⟨hok, _, _, ([] ++ p) ++ q, ⟨[] ++ p, q, trodAll_append (trodAll_grow hk hz (fun _ _ => rfl) hS h1) (hres _ _ _), trodVars_grow hk hz (fun _ _ => rfl) (fun n cs => hk.var) hSv h2, rfl, ?_, ?_⟩, ?_⟩⟩
  · rw [hk i hi]
    cases w.heap[i]? with
    | none => rfl
    | some o => cases o <;> simp
  · simpa using hk.noneFrozen hlt h4
  · simpa using h5
  · intro p hp _
    simpa using hp
end
end SX
end Go.Proofs.YtlgjjklikbpcoaaGreatDoor

/- SX: rows: from a contract to the law's call. -/
set_option linter.unusedVariables false
set_option linter.unusedSimpArgs false
namespace Go.Proofs.YtlgjjklikbpcoaaGreatDoor
namespace SX
open Go Go.ChangeShapes Go.WideShapes Go.Deep
section
variable {P : Program}
theorem Ctr.calls {f : FuncId} {fn : Func} {c : Code} (hf : P.funcs[f]? = some fn) (hb : fn.body = some c) (hnm : (fn.name == "runtime.NumGoroutine") = false) {args : List SV} {H : List SB} {K : SV → List SB → Prop} (h : Ctr P f args H K)
    {C : Fr} {E : Env} {m : Mem} {w : World} (hr : Rel E C m H w) (ho : OkA m (vers H) args) :
    Calls P f (denL E args).toArray w (fun e w' => ∃ v, e = .returned v ∧ ∃ r H' E' m', v = den E' r ∧ K r H' ∧ (Ok m' (vers H') r ∧ live r = true) ∧ Ext E m (vers H) E' m' (vers H') ∧ Rel E' C m' H' w') := by
  have h1 := h.out C E m w hr ho
  have hrun : (callFunc f (denL E args).toArray).run P w = .ok (.enter f (denL E args).toArray) w := by
    have h1 : fn.name ≠ "runtime.NumGoroutine" := by simpa using hnm
    simp [callFunc, hf, h1, hb]
  unfold callX at h1
  rw [hrun] at h1
  exact h1
def memOf (w : World) (S : Nat → Bool) : Mem := fun b => if S b then w.heap[b]? else none
def frOf (w : World) (S : Nat → Bool) : Fr := ⟨w.os, w.tape, w.output, fun b => if S b then none else w.heap[b]?, w.drawn⟩
def TabsIn (w : World) : Prop := TbOk fun b => w.heap[b]?
def isTab (b : Nat) : Bool := (tabs b).isSome
theorem TabsIn.mem {w : World} (hT : TabsIn w) {S : Nat → Bool} (hS : ∀ b, isTab b = true → S b = true) : TbOk (memOf w S) := fun g v hg => by
  have := hT g v hg
  have hs : S g = true := hS g (by simp [isTab, hg])
  cases v with
  | ints k zs => obtain ⟨t, fr, h1⟩ := this; exact ⟨t, fr, by unfold memOf; rw [hs]; exact h1⟩
  | ifc => obtain ⟨tt, v, t, fr, h1⟩ := this; exact ⟨tt, v, t, fr, by unfold memOf; rw [hs]; exact h1⟩
  | anyI k => obtain ⟨n, arr, t, fr, h1, h2⟩ := this; exact ⟨n, arr, t, fr, by unfold memOf; rw [hs]; exact h1, h2⟩
theorem memOf_mono {w : World} {S S' : Nat → Bool} (h : ∀ b, S b = true → S' b = true) : ∀ b o, memOf w S b = some o → memOf w S' b = some o := fun b o hb => by
  unfold memOf at hb ⊢
  split at hb
  · rename_i hs; rw [if_pos (h b hs)]; exact hb
  · cases hb
theorem rel_of (w : World) (S : Nat → Bool) (E : Env) (hT : TabsIn w) (hS : ∀ b, isTab b = true → S b = true) : Rel E (frOf w S) (memOf w S) [] w := {
  os := rfl
  tape := rfl
  output := ⟨rfl, DrOk.refl _⟩
  im := fun b o h => by
    unfold memOf at h
    split at h
    · exact h
    · cases h
  fr := fun b o h => by
    simp only [frOf] at h
    split at h
    · cases h
    · exact h
  mf := ⟨fun b o h => by
    simp only [frOf] at h
    unfold memOf
    split at h
    · cases h
    · rename_i hs; rw [if_neg hs], hT.mem hS⟩
  bl := fun k B h => by simp at h
  nn := fun k v h hv => by
    exfalso
    unfold Vle at h
    simp [vers] at h
  sp := fun k b ⟨B, h, _⟩ => by simp at h
  inj := fun j k b ⟨B, h, _⟩ => by simp at h }
theorem Rel.keptOf {w w' : World} {S : Nat → Bool} {E : Env} {m : Mem} {H : List SB} (hm : ∀ b o, memOf w S b = some o → m b = some o) (h : Rel E (frOf w S) m H w') : Kept w w' ∧ w'.os = w.os ∧ w'.output = w.output := by
  refine ⟨fun b hb => ?_, h.os, h.output.1⟩
  have hg : w.heap[b]? = some w.heap[b] := Array.getElem?_eq_getElem hb
  cases hs : S b with
  | true =>
    have := h.im b _ (hm b w.heap[b] (by unfold memOf; rw [hs]; exact hg))
    rw [this, hg]
  | false =>
    have := h.fr b w.heap[b] (by simp only [frOf, hs]; exact hg)
    rw [this, hg]
theorem law_callsM {f : FuncId} {fn : Func} {c : Code} (hf : P.funcs[f]? = some fn) (hb : fn.body = some c) (hnm : (fn.name == "runtime.NumGoroutine") = false) {args : List SV} (h : CtrV P f args (.b true))
    (w : World) (hT : TabsIn w) (S : Nat → Bool) (ho : OkA (memOf w S) [] args) {vs : Array Value} (hvs : vs = (denL (fun _ _ => none) args).toArray) :
    Calls P f vs w (fun e w' => e = .returned (.bool true) ∧ Kept w w' ∧ w'.os = w.os ∧ w'.output = w.output) := by
  subst hvs
  refine (h.calls hf hb hnm (rel_of w (fun b => S b || isTab b) _ hT (fun b h => by simp [h])) (OkA.mono (memOf_mono fun b h => by simp [h]) _ _ _ (fun _ _ h => h) ho)).mono fun e w' he => ?_
  obtain ⟨v, rfl, r, H', E', m', rfl, ⟨rfl, rfl⟩, _, hx, hrel⟩ := he
  exact ⟨rfl, hrel.keptOf hx.mm⟩
end
section
variable {H : Type} {enc : TypeId × Value → H} {P : Program} {w : World} {base : Nat} {spare : Nat → Bool} {held : Bool}
end
end SX
end Go.Proofs.YtlgjjklikbpcoaaGreatDoor
