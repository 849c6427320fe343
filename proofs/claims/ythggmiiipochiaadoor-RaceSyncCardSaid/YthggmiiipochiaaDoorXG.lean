/- Proved: for every architecture number and every instruction, belatedlaw20.RaceSync returns true and leaves its arguments as they were; condition: the three listed package variables start as the program's text lays them (the card ties them). -/
import Derived.ChangeSame
import Derived.ChangeReads
import Derived.ProofKit
import Derived.Deep.Fields
import Derived.Test.YthggmiiipochiaaDoorRows
import Derived.Test.YthggmiiipochiaaDoorCards
import Derived.Test.YthggmiiipochiaaDoorTie
import Derived.LaidMore
import Derived.OpenShut
import Derived.Stop.Joined
import Derived.SevenTiedAt
import Derived.Test.YthggmiiipochiaaDoorXF
set_option linter.unusedVariables false
set_option linter.unusedSimpArgs false
set_option linter.unusedSectionVars false
set_option linter.unusedVariables false
set_option maxRecDepth 100000
namespace Go.Proofs.YthggmiiipochiaaDoor
namespace SX
open Go Go.Proofs
structure Ins where
  op : Int
  dst : Int
  a : Int
  b : Int
  imm : Int
  loc : Int
  off : Int
  index : Int
  size : Int
  fn : Int
  acq : Bool
  weak : Bool
  rel : Bool
  pred : Int
  succ : Int
  to : Int
  zero : Bool
def Ins.enc (x : Ins) : List SV := [.i .i64 x.op, .i .i64 x.dst, .i .i64 x.a, .i .i64 x.b, .i .i64 x.imm, .i .i64 x.loc, .i .i64 x.off, .i .i64 x.index, .i .i64 x.size, .i .i64 x.fn, .b x.acq, .b x.weak, .b x.rel, .i .i64 x.pred, .i .i64 x.succ, .i .i64 x.to, .b x.zero]
structure Acc where
  th : Int
  ins : Ins
  loc : Int
  mask : Int
def Acc.enc (x : Acc) : List SV := .i .i64 x.th :: (x.ins.enc ++ [.i .i64 x.loc, .i .i64 x.mask])
def writes (i : Ins) : Bool := decide (i.op = 5) || decide (i.op = 6)
theorem writes_ok (i : Ins) : CtrV Tryd.prog 26 [.agg i.enc] (.b (writes i)) := by
  refine Ctr.enterV tabOk (fn := Tryd.f26) rfl rfl rfl rfl rfl rfl ?_
  exact rfl
def syncs (arch : Int) (i : Ins) : Bool :=
  if (decide (arch < 1) || decide (3 < arch)) = true then false else if i.op = 4 then i.acq else if i.op = 5 then i.rel else if i.op = 6 then (i.acq && i.rel) else false
theorem sync_ok (arch : Int) (i : Ins) : CtrV Tryd.prog 5 [.i .i64 arch, .agg i.enc] (.b (syncs arch i)) := by
  refine Ctr.enterV tabOk (fn := Tryd.f5) rfl rfl rfl rfl rfl rfl ?_
  refine ⟨fun h1 => ?_, fun h1 => ⟨fun h2 => ?_, fun h2 => ⟨fun h3 => ?_, fun h3 => ⟨fun h4 => ?_, fun h4 => ?_⟩⟩⟩⟩
  all_goals (refine congrArg SV.b ?_; simp_all [syncs])
def raceB (arch : Int) (a b : Acc) : Bool :=
  !decide (a.th = b.th) && (decide (a.loc = b.loc) && !decide (bits .and .i64 a.mask b.mask = 0)) && (writes a.ins || writes b.ins) && !(syncs arch a.ins && syncs arch b.ins)
theorem race_ok (arch : Int) (a b : Acc) : CtrV Tryd.prog 14 [.i .i64 arch, .agg a.enc, .agg b.enc] (.b (raceB arch a b)) := by
  refine Ctr.enterV tabOk (fn := Tryd.f14) rfl rfl rfl rfl rfl rfl ?_
  refine OpC.callV rfl rfl rfl rfl rfl rfl rfl (fun _ => writes_ok _) ?_
  refine OpC.callV rfl rfl rfl rfl rfl rfl rfl (fun _ => writes_ok _) ?_
  refine OpC.callV rfl rfl rfl rfl rfl rfl rfl (fun _ => sync_ok _ _) ?_
  refine OpC.callV rfl rfl rfl rfl rfl rfl rfl (fun _ => sync_ok _ _) ?_
  exact rfl
end SX
end Go.Proofs.YthggmiiipochiaaDoor

/- RaceSync: the three contracts and the law's own. -/
set_option linter.unusedVariables false
set_option maxRecDepth 100000
namespace Go.Proofs.YthggmiiipochiaaDoor
namespace SX
open Go Go.Proofs
theorem able_ok : CtrV Tryd.prog 4 [] (.b true) := by
  have h := fin_ok callX_m true MmAble_ok
  have e : fin true MmAble.H MmAble.r MmAble.H' = (.b true, []) := by kernel_rfl
  rw [e] at h
  exact h
end SX
end Go.Proofs.YthggmiiipochiaaDoor

/- RaceSync: the law's own contract. -/
set_option linter.unusedVariables false
set_option maxRecDepth 100000
namespace Go.Proofs.YthggmiiipochiaaDoor
namespace SX
open Go Go.Proofs
theorem lsync_ok (arch : Int) (i : Ins) : CtrV Tryd.prog 6 [.i .i64 arch, .agg i.enc] (.b (syncs arch i)) := by
  refine Ctr.enterV tabOk (fn := Tryd.f6) rfl rfl rfl rfl rfl rfl ?_
  refine ⟨fun h1 => ?_, fun h1 => ?_⟩
  · refine congrArg SV.b ?_
    simp only [syncs, h1, if_true]
  · refine congrArg SV.b ?_
    simp only [syncs, h1]
    by_cases h4 : i.op = 4
    · simp [h4]
    · by_cases h5 : i.op = 5
      · simp [h5]
      · by_cases h6 : i.op = 6 <;> simp [h4, h5, h6]
theorem law_ok (arch : Int) (i : Ins) : CtrV Tryd.prog 3 [.i .i64 arch, .agg i.enc] (.b true) := by
  refine Ctr.enterV tabOk (fn := Tryd.f3) rfl rfl rfl rfl rfl rfl ?_
  refine WpC.dr tabOk mixed 0 ?_
  refine OpD.callV rfl rfl rfl rfl rfl rfl rfl (fun _ => able_ok) ?_
  refine OpD.callV rfl rfl rfl rfl rfl rfl rfl (fun _ => sync_ok _ _) ?_
  refine OpD.callV rfl rfl rfl rfl rfl rfl rfl (fun _ => lsync_ok _ _) ?_
  refine ⟨by kernel_rfl, ?_⟩
  have e : (true && bif false then syncs arch i != syncs arch i else syncs arch i == syncs arch i) = true := by simp
  exact congrArg SV.b e
end SX
end Go.Proofs.YthggmiiipochiaaDoor

/- SX: rows: what was read is read again when no old block has changed. -/
set_option linter.unusedVariables false
set_option linter.unusedSimpArgs false
namespace Go.Proofs.YthggmiiipochiaaDoor
namespace SX
open Go Go.ChangeShapes Go.WideShapes
theorem mapM_to {α β : Type} {f g : α → Option β} : ∀ {l : List α} {r : List β}, l.mapM f = some r → (∀ x ∈ l, ∀ y, f x = some y → g x = some y) → l.mapM g = some r
  | [], r, h, hr => by simpa using h
  | a :: as1, r, h, hr => by
    rw [List.mapM_cons] at h ⊢
    cases ha : f a with
    | none => simp [ha] at h
    | some b =>
      cases has : as1.mapM f with
      | none => simp [ha, has] at h
      | some bs =>
        simp [ha, has] at h
        subst h
        rw [hr a (by simp) b ha, mapM_to has fun x hx y hy => hr x (by simp [hx]) y hy]
        rfl
theorem mapM_at {α β : Type} {f : α → Option β} : ∀ {l : List α} {r : List β}, l.mapM f = some r → ∀ {x}, x ∈ l → ∃ y, f x = some y
  | [], r, h, x, hx => by simp at hx
  | a :: as1, r, h, x, hx => by
    rw [List.mapM_cons] at h
    cases ha : f a with
    | none => simp [ha] at h
    | some b =>
      cases has : as1.mapM f with
      | none => simp [ha, has] at h
      | some bs =>
        rcases List.mem_cons.1 hx with rfl | hx
        · exact ⟨b, ha⟩
        · exact mapM_at has hx
/-- No block of the first world has changed in the second one. -/
def Kept (w w' : World) : Prop := ∀ b, b < w.heap.size → w'.heap[b]? = w.heap[b]?
section
variable {H : Type} {enc : TypeId × Value → H} {P : Program} {w w' : World} {base : Nat} {sp sp' : Nat → Bool} {held : Bool}
theorem Kept.cell (hk : Kept w w') {a : Addr} {v : Value} (h : w.cell? a = some v) : w'.cell? a = some v := by
  have hb := World.block_lt_of_cell? w _ h
  have := hk a.block hb
  unfold World.cell? at h ⊢
  rw [this]
  exact h
theorem Kept.cells (hk : Kept w w') {a : Addr} {n : Nat} {cs : List Value} (h : w.cells? base a n = some cs) : w'.cells? base a n = some cs := by
  unfold World.cells? at h ⊢
  split at h
  · rename_i hb
    rw [if_pos hb]
    exact mapM_to h fun i _ y hy => hk.cell hy
  · cases h
/-- What a type is made of is among these types; the elements of slices have cells. -/
def CompsOk (P : Program) (S : TypeId → Prop) (t : TypeId) : Prop := match P.underlying t with
  | some (.pointer e) => S e
  | some (.slice e) => S e ∧ 0 < P.cellsOf e
  | some (.struct fs) => ∀ f ∈ fs.toList, S f.type
  | some (.array _ e) => S e
  | some (.map _ e) => S e
  | _ => True
def compsB (P : Program) (n : Nat) (t : TypeId) : Bool := match P.underlying t with
  | some (.pointer e) => Nat.blt e n
  | some (.slice e) => Nat.blt e n && Nat.blt 0 (P.cellsOf e)
  | some (.struct fs) => fs.toList.all fun f => Nat.blt f.type n
  | some (.array _ e) => Nat.blt e n
  | some (.map _ e) => Nat.blt e n
  | _ => true
theorem compsOk_of {P : Program} {n : Nat} (h : ((List.range n).all (compsB P n)) = true) : ∀ t, t < n → CompsOk P (· < n) t := by
  intro t ht
  have := List.all_eq_true.1 h t (List.mem_range.2 ht)
  unfold compsB at this
  unfold CompsOk
  split <;> rename_i hu <;> first | trivial | (rw [hu] at this; simp only at this)
  · exact Nat.le_of_ble_eq_true this
  · rw [Bool.and_eq_true] at this
    exact ⟨Nat.le_of_ble_eq_true this.1, Nat.le_of_ble_eq_true this.2⟩
  · intro f hf
    exact Nat.le_of_ble_eq_true (List.all_eq_true.1 this f hf)
  · exact Nat.le_of_ble_eq_true this
  · exact Nat.le_of_ble_eq_true this
theorem trodStep_grow {S : TypeId → Prop} {r r' : TypeId → List Value → Option (DataW H × List MemPlace)} (hk : Kept w w') (hsp : ∀ b, b < w.heap.size → sp' b = true) (hz : ∀ t, S t → CompsOk P S t)
    (hr : ∀ t, S t → ∀ cs x, r t cs = some x → r' t cs = some x) {t : TypeId} (hS : S t) {cs : List Value} {x : DataW H × List MemPlace}
    (h : DataW.trodStep enc P w base (fun _ => true) true r t cs = some x) : DataW.trodStep enc P w' base sp' true r' t cs = some x := by
  have hcp := hz t hS
  unfold CompsOk at hcp
  unfold DataW.trodStep at h ⊢
  split at h
  case h_1 => exact h
  case h_2 => exact h
  case h_3 => exact h
  case h_4 => exact h
  case h_5 => exact h
  case h_6 e a ht =>
    rw [ht] at hcp
    simp only [Option.map_eq_some_iff, Option.bind_eq_some_iff] at h ⊢
    obtain ⟨y, ⟨cs', hc, hy⟩, rfl⟩ := h
    exact ⟨y, ⟨cs', hk.cells hc, hr _ hcp _ _ hy⟩, rfl⟩
  case h_7 => exact h
  case h_8 e a len cap ht =>
    rw [ht] at hcp
    simp only at h ⊢
    split at h
    · rename_i hc
      rw [if_pos hc]
      simp only [Option.map_eq_some_iff, Option.bind_eq_some_iff] at h ⊢
      obtain ⟨elems, he, rest, hrest, rfl⟩ := h
      have one : ∀ i y, (w.cells? base (a.add (i * P.cellsOf e)) (P.cellsOf e)).bind (r e) = some y → (w'.cells? base (a.add (i * P.cellsOf e)) (P.cellsOf e)).bind (r' e) = some y := fun i y hy => by
        simp only [Option.bind_eq_some_iff] at hy ⊢
        obtain ⟨cs', hc', hy'⟩ := hy
        exact ⟨cs', hk.cells hc', hr _ hcp.1 _ _ hy'⟩
      refine ⟨elems, mapM_to he fun i _ y hy => one i y hy, rest, ?_, rfl⟩
      by_cases hcap : cap - len = 0
      · rw [hcap] at hrest ⊢
        simp only [List.range_zero, List.mapM_nil] at hrest ⊢
        revert hrest
        cases sp' a.block <;> simp
      · rw [if_pos trivial] at hrest
        obtain ⟨y, hy⟩ := mapM_at hrest (List.mem_range.2 (Nat.pos_of_ne_zero hcap))
        simp only [Option.bind_eq_some_iff] at hy
        obtain ⟨cs', hc', _⟩ := hy
        have hb : (a.add ((len + 0) * P.cellsOf e)).block < w.heap.size := World.cells?_block hc' hcp.2
        have hb : a.block < w.heap.size := by
          have e1 : (a.add ((len + 0) * P.cellsOf e)).block = a.block := by unfold Addr.add; split <;> rfl
          rw [← e1]; exact hb
        rw [if_pos (hsp _ hb)]
        exact mapM_to hrest fun i _ y hy => one _ y hy
    · cases h
  case h_9 fs ht =>
    rw [ht] at hcp
    split at h
    · rename_i hc
      rw [if_pos hc]
      simp only [Option.map_eq_some_iff] at h ⊢
      obtain ⟨xs, hx, rfl⟩ := h
      exact ⟨xs, mapM_to hx fun f hf y hy => hr _ (hcp f hf) _ _ hy, rfl⟩
    · cases h
  case h_10 n e ht =>
    rw [ht] at hcp
    split at h
    · rename_i hc
      rw [if_pos hc]
      simp only [Option.map_eq_some_iff] at h ⊢
      obtain ⟨xs, hx, rfl⟩ := h
      exact ⟨xs, mapM_to hx fun f _ y hy => hr _ hcp _ _ hy, rfl⟩
    · cases h
  case h_11 => exact h
  case h_12 => exact h
  case h_13 => exact h
  case h_14 k e b ht =>
    rw [ht] at hcp
    split at h
    · rename_i es clock hb
      have hlt : b < w.heap.size := by
        rcases Nat.lt_or_ge b w.heap.size with h1 | h1
        · exact h1
        · rw [Array.getElem?_eq_none h1] at hb; cases hb
      have hb' : w'.heap[b]? = some (.map es clock) := by rw [hk b hlt]; exact hb
      rw [hb']
      simp only
      split at h
      · rename_i hc
        rw [if_pos hc]
        simp only [Option.bind_eq_some_iff] at h ⊢
        obtain ⟨entries, he, hd⟩ := h
        refine ⟨entries, mapM_to he fun x _ y hy => ?_, hd⟩
        simp only [Option.bind_eq_some_iff] at hy ⊢
        obtain ⟨key, hk, hz⟩ := hy
        refine ⟨key, hk, ?_⟩
        split at hz
        · rename_i hf
          rw [if_pos hf]
          simp only [Option.map_eq_some_iff] at hz ⊢
          obtain ⟨q, hq, rfl⟩ := hz
          exact ⟨q, hr _ hcp _ _ hq, rfl⟩
        · cases hz
      · cases h
    · cases h
  all_goals exact h
variable {S : TypeId → Prop} (hk : Kept w w') (hz : ∀ t, S t → CompsOk P S t)
include hk hz
theorem trod_grow (hsp : ∀ b, b < w.heap.size → sp' b = true) : ∀ (n : Nat) (t : TypeId), S t → ∀ (cs : List Value) (x : DataW H × List MemPlace), DataW.trod enc P w base (fun _ => true) true n t cs = some x → DataW.trod enc P w' base sp' true n t cs = some x := by
  intro n
  induction n with
  | zero => intro t _ cs x h; simp [DataW.trod] at h
  | succ n ih =>
    intro t hS cs x h
    rw [DataW.trod_step] at h ⊢
    exact trodStep_grow hk hsp hz ih hS h
theorem trodAll_grow (hsp : ∀ b, b < w.heap.size → sp' b = true) : ∀ {ts : List TypeId} {vs : List Value} {ds : List (DataW H)} {ps : List MemPlace}, (∀ t ∈ ts, S t) →
    DataW.TrodAll enc P w base (fun _ => true) true ts vs ds ps → DataW.TrodAll enc P w' base sp' true ts vs ds ps
  | [], [], [], _, _, h => h
  | _ :: _, _ :: _, _ :: _, _, hS, ⟨p, q, ⟨n, h⟩, hs, e⟩ => ⟨p, q, ⟨n, trod_grow hk hz hsp n _ (hS _ (List.mem_cons_self ..)) _ _ h⟩, trodAll_grow hsp (fun t ht => hS t (List.mem_cons_of_mem _ ht)) hs, e⟩
theorem trodVars_grow (hsp : ∀ b, b < w.heap.size → sp' b = true) (hv : ∀ n cs, w.var? P n = some cs → w'.var? P n = some cs) : ∀ {ns : List String} {ds : List (DataW H)} {ps : List MemPlace}, (∀ n ∈ ns, ∀ g t, P.globalNamed n = some g → (P.globals[g]?).map (·.type) = some t → S t) →
    DataW.TrodVars enc P w (fun _ => true) ns ds ps → DataW.TrodVars enc P w' sp' ns ds ps
  | [], [], _, _, h => h
  | n :: _, _ :: _, _, hS, ⟨g, t, cs, fuel, p, q, h1, h2, h3, h4, hs, e⟩ =>
    ⟨g, t, cs, fuel, p, q, h1, h2, hv _ _ h3, trod_grow hk hz hsp _ _ (hS n (List.mem_cons_self ..) g t h1 h2) _ _ h4, trodVars_grow hsp hv (fun n hn => hS n (List.mem_cons_of_mem _ hn)) hs, e⟩
omit hz in
theorem Kept.var {n : String} {cs : Array Value} (h : w.var? P n = some cs) : w'.var? P n = some cs := by
  unfold World.var? at h ⊢
  cases hg : P.globalNamed n with
  | none => rw [hg] at h; cases h
  | some g =>
    rw [hg] at h
    simp only [Option.bind_some] at h ⊢
    rcases Nat.lt_or_ge g w.heap.size with h1 | h1
    · rw [hk g h1]; exact h
    · rw [Array.getElem?_eq_none h1] at h; cases h
omit hz in
theorem Kept.noneFrozen {ps : List MemPlace} (hl : ∀ p ∈ ps, p.block < w.heap.size) (h : w.noneFrozen ps) : w'.noneFrozen ps := by
  intro b off hp
  have h1 := h b off hp
  have h2 := hl _ hp
  unfold World.frozen? at h1 ⊢
  rw [hk b h2]
  exact h1
/-- A law that keeps all old memory: what it hands back is what the row wants. -/
theorem post_kept {f : Func} {s : ChangeSpec} {apart fresh handsOn again : Bool} {args : Array Value} {v : Value} {ds gs : List (DataW H)} {before : List MemPlace} {res : List (DataW H)}
    (hS : ∀ t ∈ f.params.toList, S t) (hSv : ∀ n ∈ s.vars, ∀ g t, P.globalNamed n = some g → (P.globals[g]?).map (·.type) = some t → S t)
    (hW : DataW.Whole enc P f.params.toList s.vars apart w args.toList ds gs before) (hos : w'.os = w.os) (hout : w'.output = w.output)
    (hr : (s.fn H (ds ++ gs)).results = res) (ha : (s.fn H (ds ++ gs)).args = ds) (hvv : (s.fn H (ds ++ gs)).vars = gs)
    (hres : ∀ (b : Nat) (sp : Nat → Bool) (hd : Bool), DataW.TrodAll enc P w' b sp hd f.resultTypes.toList (v.resultList f.resultTypes.size) res [])
    (hok : ∀ (j : Nat) (t : TypeId) (r : Value), f.resultTypes[j]? = some t → (v.resultList f.resultTypes.size)[j]? = some r → Value.okWide P w' .any 0 t r) :
    s.post enc P f apart fresh handsOn again w args v w' := by
  have hlt := hW.lt
  have hW0 := hW
  obtain ⟨p, q, h1, h2, rfl, h4, h5⟩ := hW
  have hsp : ∀ b, b < w.heap.size → (fun b => decide (b < w.heap.size)) b = true := fun b hb => by simpa using hb
  refine ⟨ds, gs, p ++ q, [], p, q, hW0, by rw [hr]; exact hres _ _ _, by rw [ha]; exact trodAll_grow hk hz hsp hS h1, by rw [hvv]; exact trodVars_grow hk hz hsp (fun n cs => hk.var) hSv h2, ⟨hos, hout, fun i hi => ?_⟩, fun _ => ⟨hok, _, _, ([] ++ p) ++ q, ⟨[] ++ p, q, trodAll_append (trodAll_grow hk hz (fun _ _ => rfl) hS h1) (hres _ _ _), trodVars_grow hk hz (fun _ _ => rfl) (fun n cs => hk.var) hSv h2, rfl, ?_, ?_⟩, ?_⟩⟩
  · rw [hk i hi]
    cases w.heap[i]? with
    | none => rfl
    | some o => cases o <;> simp
  · simpa using hk.noneFrozen hlt h4
  · simpa using h5
  · intro p hp _
    simpa using hp
end
end SX
end Go.Proofs.YthggmiiipochiaaDoor

/- SX: rows: from a contract to the law's call. -/
set_option linter.unusedVariables false
set_option linter.unusedSimpArgs false
namespace Go.Proofs.YthggmiiipochiaaDoor
namespace SX
open Go Go.ChangeShapes Go.WideShapes Go.Deep
section
variable {P : Program}
/-- A contract, as a call. -/
theorem Ctr.calls {f : FuncId} {fn : Func} {c : Code} (hf : P.funcs[f]? = some fn) (hb : fn.body = some c) (hnm : (fn.name == "runtime.NumGoroutine") = false) {args : List SV} {H : List SB} {K : SV → List SB → Prop} (h : Ctr P f args H K)
    {C : Fr} {E : Env} {m : Mem} {w : World} (hr : Rel E C m H w) (ho : OkA m (vers H) args) :
    Calls P f (denL E args).toArray w (fun e w' => ∃ v, e = .returned v ∧ ∃ r H' E' m', v = den E' r ∧ K r H' ∧ (Ok m' (vers H') r ∧ live r = true) ∧ Ext E m (vers H) E' m' (vers H') ∧ Rel E' C m' H' w') := by
  have h1 := h.out C E m w hr ho
  have hrun : (callFunc f (denL E args).toArray).run P w = .ok (.enter f (denL E args).toArray) w := by
    have h1 : fn.name ≠ "runtime.NumGoroutine" := by simpa using hnm
    simp [callFunc, hf, h1, hb]
  unfold callX at h1
  rw [hrun] at h1
  exact h1
/-- The frame that holds all that is there. -/
def frAll (w : World) : Fr := ⟨w.os, w.tape, w.output, fun b => w.heap[b]?⟩
theorem rel_all (w : World) (E : Env) : Rel E (frAll w) (fun _ => none) [] w where
  os := rfl
  tape := rfl
  output := rfl
  im := fun b o h => by cases h
  fr := fun b o h => h
  mf := fun b o h => rfl
  bl := fun k B h => by simp at h
  nn := fun k v h hv => by
    exfalso
    unfold Vle at h
    simp [vers] at h
  sp := fun k b ⟨B, h, _⟩ => by simp at h
  inj := fun j k b ⟨B, h, _⟩ => by simp at h
theorem Rel.kept {w w' : World} {E : Env} {m : Mem} {H : List SB} (h : Rel E (frAll w) m H w') : Kept w w' ∧ w'.os = w.os ∧ w'.output = w.output := by
  refine ⟨fun b hb => ?_, h.os, h.output⟩
  have hg : w.heap[b]? = some w.heap[b] := Array.getElem?_eq_getElem hb
  rw [h.fr b _ hg, hg]
/-- A law of plain values. -/
theorem law_calls {f : FuncId} {fn : Func} {c : Code} (hf : P.funcs[f]? = some fn) (hb : fn.body = some c) (hnm : (fn.name == "runtime.NumGoroutine") = false) {args : List SV} (h : CtrV P f args (.b true))
    (ho : OkA (fun _ => none) [] args) (w : World) {vs : Array Value} (hvs : vs = (denL (fun _ _ => none) args).toArray) :
    Calls P f vs w (fun e w' => e = .returned (.bool true) ∧ Kept w w' ∧ w'.os = w.os ∧ w'.output = w.output) := by
  subst hvs
  refine (h.calls hf hb hnm (rel_all w _) ho).mono fun e w' he => ?_
  obtain ⟨v, rfl, r, H', E', m', rfl, ⟨rfl, rfl⟩, _, _, hrel⟩ := he
  exact ⟨rfl, hrel.kept⟩
end
section
variable {H : Type} {enc : TypeId × Value → H} {P : Program} {w : World} {base : Nat} {spare : Nat → Bool} {held : Bool}
/-- A struct of integers and bools, by value, opened. -/
theorem open_flat {r : Reach} {b0 : Nat} {t : TypeId} {fs : Array Field} {v : Value} {d : DataW H} {p : List MemPlace} (hs : P.underlying t = some (.struct fs)) (hone : oneCellFields P fs = true) (hC : P.cellsOf t = fs.size)
    (hv : Value.okWide P w r b0 t v) (h : DataW.Trod enc P w base spare held t v d p) :
    ∃ cs : List Value, v = .agg cs.toArray ∧ cs.length = fs.size ∧ ∀ (i : Nat) (f : Field), fs[i]? = some f → (∀ k, P.underlying f.type = some (.int k) → ∃ n, cs[i]? = some (.int k n)) ∧ (P.underlying f.type = some .bool → ∃ b, cs[i]? = some (.bool b)) := by
  obtain ⟨cs, rfl, hsz⟩ := okWide_struct hs hv
  obtain ⟨fuel, hf⟩ := h
  obtain ⟨xs, n, _, _, hl, hlen, hg⟩ := DataW.trod_struct hs hf
  refine ⟨cs.toList, by simp, by simpa [hC] using hsz, fun i f hi => ?_⟩
  obtain ⟨o0, k0⟩ := hone_of hone i f hi
  have h1 := hg i f hi
  rw [o0, k0] at h1
  have hilt : i < cs.size := by
    rw [hsz, hC]
    rcases Nat.lt_or_ge i fs.size with h | h
    · exact h
    · rw [Array.getElem?_eq_none h] at hi; cases hi
  have hcell : ((Value.agg cs).cells.toList.drop i).take 1 = [cs[i]] := by
    simp only [Value.cells]
    rw [List.drop_eq_getElem_cons (by simpa using hilt)]
    simp
  rw [hcell] at h1
  have hx : ∃ y, xs[i]? = some y := by
    have : i < xs.length := by rw [hlen]; rw [hsz, hC] at hilt; exact hilt
    exact ⟨_, List.getElem?_eq_getElem this⟩
  obtain ⟨y, hy⟩ := hx
  rw [hy] at h1
  have hci : cs.toList[i]? = some cs[i] := by simp [hilt]
  refine ⟨fun k hk => ?_, fun hk => ?_⟩
  · obtain ⟨n, e, _⟩ := DataW.trod_int hk h1
    simp only [List.cons.injEq, and_true] at e
    exact ⟨n, by rw [hci, e]⟩
  · obtain ⟨b, e, _⟩ := DataW.trod_bool hk h1
    simp only [List.cons.injEq, and_true] at e
    exact ⟨b, by rw [hci, e]⟩
end
end SX
end Go.Proofs.YthggmiiipochiaaDoor

/- RaceSync: the row and the card. -/
set_option linter.unusedVariables false
set_option maxRecDepth 100000
namespace Go.Proofs.YthggmiiipochiaaDoor
open Go Go.ChangeShapes Go.WideShapes Go.ChangeAt Go.RowKit
theorem own : ownKnob Tryd.prog.godebug = none := by kernel_rfl
theorem compsOk : ∀ t, t < Tryd.prog.types.size → SX.CompsOk Tryd.prog (· < Tryd.prog.types.size) t := SX.compsOk_of (by kernel_rfl)
theorem params_in : ∀ t ∈ Tryd.f3.params.toList, t < Tryd.prog.types.size := by
  have : (Tryd.f3.params.toList.all fun t => Nat.blt t Tryd.prog.types.size) = true := by kernel_rfl
  exact fun t ht => Nat.le_of_ble_eq_true (List.all_eq_true.1 this t ht)
theorem door_met (os : Os) (args : Array Value) : laidMetH Tryd.prog Rows.raceSyncRow.laid ((World.doorLaid Tryd.prog 400 os).forCall (fun _ _ => 0) ⟨#[], args, []⟩).memory :=
  laidMetH_of_parts3 (fuel := 8) (laidMet_of_run' 8 (by kernel_rfl) (by kernel_rfl)) (by kernel_rfl) (by kernel_rfl)
theorem ins_open {H : Type} {enc : TypeId × Value → H} {w : World} {base : Nat} {spare : Nat → Bool} {held : Bool} {b0 : Nat} {v : Value} {d : DataW H} {p : List MemPlace}
    (hv : Value.okWide Tryd.prog w .any b0 23 v) (h : DataW.Trod enc Tryd.prog w base spare held 23 v d p) : ∃ i : SX.Ins, v = .agg (SX.cellsL (fun _ _ => none) i.enc).toArray := by
  have hs : ∃ fs, Tryd.prog.underlying 23 = some (.struct fs) ∧ Go.Deep.oneCellFields Tryd.prog fs = true ∧ Tryd.prog.cellsOf 23 = fs.size ∧ fs.size = 17 ∧ (fs.toList.map fun f => Tryd.prog.underlying f.type) = [some (.int .i64), some (.int .i64), some (.int .i64), some (.int .i64), some (.int .i64), some (.int .i64), some (.int .i64), some (.int .i64), some (.int .i64), some (.int .i64), some .bool, some .bool, some .bool, some (.int .i64), some (.int .i64), some (.int .i64), some .bool] :=
    ⟨_, Tryd.underlying23, by kernel_rfl, by kernel_rfl, by kernel_rfl, by kernel_rfl⟩
  obtain ⟨fs, hs, hone, hC, hsz, hty⟩ := hs
  obtain ⟨cs, rfl, hl, hf⟩ := SX.open_flat hs hone hC hv h
  rw [hsz] at hl
  have hfi : ∀ i, i < 17 → ∃ f, fs[i]? = some f := fun i hi => ⟨_, Array.getElem?_eq_getElem (by omega)⟩
  have hti : ∀ (i : Nat) (f : Field), fs[i]? = some f → (fs.toList.map fun f => Tryd.prog.underlying f.type)[i]? = some (Tryd.prog.underlying f.type) := fun i f hi => by
    rw [List.getElem?_map, Array.getElem?_toList, hi]; rfl
  rw [hty] at hti
  obtain ⟨c0, c1, c2, c3, c4, c5, c6, c7, c8, c9, c10, c11, c12, c13, c14, c15, c16, rfl⟩ : ∃ c0 c1 c2 c3 c4 c5 c6 c7 c8 c9 c10 c11 c12 c13 c14 c15 c16, cs = [c0, c1, c2, c3, c4, c5, c6, c7, c8, c9, c10, c11, c12, c13, c14, c15, c16] := by
    match cs, hl with
    | [c0, c1, c2, c3, c4, c5, c6, c7, c8, c9, c10, c11, c12, c13, c14, c15, c16], _ => exact ⟨c0, c1, c2, c3, c4, c5, c6, c7, c8, c9, c10, c11, c12, c13, c14, c15, c16, rfl⟩
  obtain ⟨f0, g0⟩ := hfi 0 (by decide)
  obtain ⟨x0, e0⟩ := (hf 0 f0 g0).1 .i64 (Option.some.inj (hti 0 f0 g0)).symm
  obtain rfl : c0 = .int .i64 x0 := Option.some.inj e0
  obtain ⟨f1, g1⟩ := hfi 1 (by decide)
  obtain ⟨x1, e1⟩ := (hf 1 f1 g1).1 .i64 (Option.some.inj (hti 1 f1 g1)).symm
  obtain rfl : c1 = .int .i64 x1 := Option.some.inj e1
  obtain ⟨f2, g2⟩ := hfi 2 (by decide)
  obtain ⟨x2, e2⟩ := (hf 2 f2 g2).1 .i64 (Option.some.inj (hti 2 f2 g2)).symm
  obtain rfl : c2 = .int .i64 x2 := Option.some.inj e2
  obtain ⟨f3, g3⟩ := hfi 3 (by decide)
  obtain ⟨x3, e3⟩ := (hf 3 f3 g3).1 .i64 (Option.some.inj (hti 3 f3 g3)).symm
  obtain rfl : c3 = .int .i64 x3 := Option.some.inj e3
  obtain ⟨f4, g4⟩ := hfi 4 (by decide)
  obtain ⟨x4, e4⟩ := (hf 4 f4 g4).1 .i64 (Option.some.inj (hti 4 f4 g4)).symm
  obtain rfl : c4 = .int .i64 x4 := Option.some.inj e4
  obtain ⟨f5, g5⟩ := hfi 5 (by decide)
  obtain ⟨x5, e5⟩ := (hf 5 f5 g5).1 .i64 (Option.some.inj (hti 5 f5 g5)).symm
  obtain rfl : c5 = .int .i64 x5 := Option.some.inj e5
  obtain ⟨f6, g6⟩ := hfi 6 (by decide)
  obtain ⟨x6, e6⟩ := (hf 6 f6 g6).1 .i64 (Option.some.inj (hti 6 f6 g6)).symm
  obtain rfl : c6 = .int .i64 x6 := Option.some.inj e6
  obtain ⟨f7, g7⟩ := hfi 7 (by decide)
  obtain ⟨x7, e7⟩ := (hf 7 f7 g7).1 .i64 (Option.some.inj (hti 7 f7 g7)).symm
  obtain rfl : c7 = .int .i64 x7 := Option.some.inj e7
  obtain ⟨f8, g8⟩ := hfi 8 (by decide)
  obtain ⟨x8, e8⟩ := (hf 8 f8 g8).1 .i64 (Option.some.inj (hti 8 f8 g8)).symm
  obtain rfl : c8 = .int .i64 x8 := Option.some.inj e8
  obtain ⟨f9, g9⟩ := hfi 9 (by decide)
  obtain ⟨x9, e9⟩ := (hf 9 f9 g9).1 .i64 (Option.some.inj (hti 9 f9 g9)).symm
  obtain rfl : c9 = .int .i64 x9 := Option.some.inj e9
  obtain ⟨f10, g10⟩ := hfi 10 (by decide)
  obtain ⟨x10, e10⟩ := (hf 10 f10 g10).2 (Option.some.inj (hti 10 f10 g10)).symm
  obtain rfl : c10 = .bool x10 := Option.some.inj e10
  obtain ⟨f11, g11⟩ := hfi 11 (by decide)
  obtain ⟨x11, e11⟩ := (hf 11 f11 g11).2 (Option.some.inj (hti 11 f11 g11)).symm
  obtain rfl : c11 = .bool x11 := Option.some.inj e11
  obtain ⟨f12, g12⟩ := hfi 12 (by decide)
  obtain ⟨x12, e12⟩ := (hf 12 f12 g12).2 (Option.some.inj (hti 12 f12 g12)).symm
  obtain rfl : c12 = .bool x12 := Option.some.inj e12
  obtain ⟨f13, g13⟩ := hfi 13 (by decide)
  obtain ⟨x13, e13⟩ := (hf 13 f13 g13).1 .i64 (Option.some.inj (hti 13 f13 g13)).symm
  obtain rfl : c13 = .int .i64 x13 := Option.some.inj e13
  obtain ⟨f14, g14⟩ := hfi 14 (by decide)
  obtain ⟨x14, e14⟩ := (hf 14 f14 g14).1 .i64 (Option.some.inj (hti 14 f14 g14)).symm
  obtain rfl : c14 = .int .i64 x14 := Option.some.inj e14
  obtain ⟨f15, g15⟩ := hfi 15 (by decide)
  obtain ⟨x15, e15⟩ := (hf 15 f15 g15).1 .i64 (Option.some.inj (hti 15 f15 g15)).symm
  obtain rfl : c15 = .int .i64 x15 := Option.some.inj e15
  obtain ⟨f16, g16⟩ := hfi 16 (by decide)
  obtain ⟨x16, e16⟩ := (hf 16 f16 g16).2 (Option.some.inj (hti 16 f16 g16)).symm
  obtain rfl : c16 = .bool x16 := Option.some.inj e16
  exact ⟨⟨x0, x1, x2, x3, x4, x5, x6, x7, x8, x9, x10, x11, x12, x13, x14, x15, x16⟩, rfl⟩
theorem lifted (os : Os) (started : os.Started) (H : Type) (enc : TypeId × Value → H) :
    ReturnsInHanded {} Tryd.checked os 3 .any (fun w args => (Rows.raceSyncSpec.pre enc Tryd.prog Tryd.f3 [] false w args ∧ laidMetH Tryd.prog Rows.raceSyncRow.laid w) ∧ sizedMet enc Tryd.prog Tryd.f3 (OpenSpec.ofChange Rows.raceSyncSpec) false w args)
      (Rows.raceSyncSpec.post enc Tryd.prog Tryd.f3 false true false false) := by
  refine returnsInHanded_of_change_and (C := Tryd.checked) (X := fun w _ => laidMetH Tryd.prog Rows.raceSyncRow.laid w) (fun _ _ _ hh h => h.of_heap hh) own started (by kernel_rfl) Tryd.func3
    (ChangeSpec.witness_shaped (enc := enc) (C := Tryd.checked) (os := os) (X := fun w _ => laidMetH Tryd.prog Rows.raceSyncRow.laid w) false (World.doorLaid Tryd.prog 400 os) #[.int .i64 0, .agg #[.int .i64 0, .int .i64 0, .int .i64 0, .int .i64 0, .int .i64 0, .int .i64 0, .int .i64 0, .int .i64 0, .int .i64 0, .int .i64 0, .bool false, .bool false, .bool false, .int .i64 0, .int .i64 0, .int .i64 0, .bool false]] 8 rfl (World.shaped_of_RefB (by kernel_rfl) (by kernel_rfl)) (by kernel_rfl) (by kernel_rfl) (by kernel_rfl) (door_met os _)) ?_
  intro W base args ds gs before hval0 hW _ _ hL _
  have hval : ∀ (j : Nat) t v, Tryd.f3.params[j]? = some t → args[j]? = some v → Value.okWide Tryd.prog W .any base t v := hval0
  have hW' := hW
  obtain ⟨p, q, hA0, hV, rfl, hfz, hnd⟩ := hW
  have hA : DataW.TrodAll enc Tryd.prog W 0 (fun _ => true) true Tryd.f3.params.toList args.toList ds p := hA0
  rw [Tryd.params3] at hA hval
  obtain ⟨v0, v1, d0, d1, p0, p1, rfl, rfl, rfl, h0, h1⟩ := trodAll_two hA
  obtain ⟨rfl, rfl⟩ := trodVars_none hV
  obtain ⟨a, rfl, rfl, rfl, wa⟩ := open_int Tryd.underlying3 (hval 0 3 v0 rfl rfl) h0
  obtain ⟨i, rfl⟩ := ins_open (hval 1 23 v1 rfl rfl) h1
  clear hA0 hval0
  refine (SX.law_calls (args := [.i .i64 a, .agg i.enc]) Tryd.func3 rfl rfl (SX.law_ok a i) ?_ W rfl).mono fun e W' ⟨he, hk, ho, hu⟩ => ?_
  · exact ⟨⟨rfl, trivial⟩, ⟨rfl, by repeat first | exact trivial | refine ⟨⟨rfl, trivial⟩, ?_⟩⟩, trivial⟩
  subst he
  exact ⟨_, rfl, SX.post_kept hk compsOk params_in (fun n hn => by cases hn) hW' ho hu rfl rfl rfl (fun _ _ _ => trodAll_mk1 (shut_bool Tryd.underlying4 _)) (ok_one (by kernel_rfl) rfl (okWide_bool_mk Tryd.underlying4 _))⟩
theorem raceSync_holds : Rows.RaceSyncSaid :=
  OpenClaim.holds_of_wide 3 Tryd.f3 rfl rfl rfl rfl rfl rfl rfl ⟨rfl, rfl, rfl, rfl, rfl⟩ rfl rfl rfl rfl rfl (by kernel_rfl) Tryd.func3 (by kernel_rfl)
    (of_decide_eq_true (by kernel_rfl)) (by unfold Func.isWrapper; first | (rw [if_pos (by decide +kernel)]; kernel_rfl) | (rw [if_neg (by decide +kernel)]; exact ⟨rfl, rfl⟩))
    (fun os started H enc _ => lifted os started H enc)
end Go.Proofs.YthggmiiipochiaaDoor

/- RaceSync: the card. -/
set_option linter.unusedVariables false
set_option maxRecDepth 100000
namespace Go.Proofs.YthggmiiipochiaaDoor
open Go
theorem raceSync_card : Rows.RaceSyncCardSaid :=
  Claim7.holds_tied_plain_at .later [] [.data, .data, .data] true (true, "270b19e2eb04a48988b163d11cd0147038c38f1961c9794d5321cc81d59b6c75") true
    raceSync_holds (fun _ h => by cases h) (by kernel_rfl) (fun _ h => by cases h) raceSync_row_tie rfl ⟨rfl, rfl⟩ (by kernel_rfl) rfl
    (fun f fn hf hfn => by
      obtain rfl : f = 3 := Option.some.inj ((show Tryd.prog.funcNamed "belated/belatedlaw20.RaceSync" = some 3 by kernel_rfl).symm.trans hf) |>.symm
      obtain rfl : fn = Tryd.f3 := (Option.some.inj (Tryd.func3.symm.trans hfn)).symm
      exact ⟨by kernel_rfl, fun j t ht => by
        rw [Tryd.params3] at ht
        have hm : t ∈ [3, 23] := by simpa using Array.mem_of_getElem? ht
        have hall : ([3, 23].all fun u => !Tryd.prog.wantsStandIn u) = true := by kernel_rfl
        exact (show Tryd.prog.wantsStandIn t = false by simpa using List.all_eq_true.1 hall t hm)⟩)
    (by kernel_rfl)
#print axioms raceSync_card
end Go.Proofs.YthggmiiipochiaaDoor
