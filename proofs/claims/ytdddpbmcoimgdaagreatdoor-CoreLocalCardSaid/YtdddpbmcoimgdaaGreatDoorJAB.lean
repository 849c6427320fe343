/- A part of SX: symbolic and concrete runs of the program, with contracts of functions; lemmas without further conditions. Shortened by a tool (mini.py). -/
import Derived.IntWalk
import Derived.Deep.LoopGhost
import Derived.Laws.AppendOwn
import Derived.Deep.AppendSrc
import Derived.Test.YtdddpbmcoimgdaaGreatDoorJAA
set_option linter.unusedVariables false
set_option linter.unusedSimpArgs false
set_option linter.unusedSectionVars false
set_option maxRecDepth 100000
namespace Go.Proofs.YtdddpbmcoimgdaaGreatDoor
namespace SX
open Go Go.Proofs
section
theorem Z7R {P:Program} {f vs w} {Q Q':Value→World→Prop} (h:Z2T P f vs w Q) (hq:∀ v w,Q v w→Q' v w):Z2T P f vs w Q':=by
 unfold Z2T at *
 generalize (callFunc f vs.toArray).run P w=r at *
 cases r with
 | ok n w'=>
   cases n <;> simp only [ZcF] at h ⊢ <;> try exact h.elim
   ·exact hq _ _ h
   ·exact Calls.mono h fun e w'' ⟨v,he,hv⟩=>⟨v,he,hq _ _ hv⟩
   ·exact Rows.mono h hq
 | halt x w'=>exact h
def Z2A (X:List Value→World→(Value→World→Prop)→Prop):Prop:=∀ vs w Q Q',X vs w Q→(∀ v w,Q v w→Q' v w)→X vs w Q'
theorem ZK {P:Program} {f}:Z2A (Z2T P f):=fun _ _ _ _ h hq=>Z7R h hq
theorem Cp.mono {X:List Value→World→(Value→World→Prop)→Prop} (hX:Z2A X) {args H K K'} (h:Cp X args H K) (hk:∀ r h,K r h→K' r h):Cp X args H K':=
 ⟨fun C E m w hr ha=>hX _ _ _ _ (h.out C E m w hr ha) fun v w' ⟨r,H',E',m',h1,h2,h3⟩=>⟨r,H',E',m',h1,hk _ _ h2,h3⟩⟩
mutual
def nm:SV→Bool
 | .ptr _ _ _ _ | .sl _ _ _ _ _ _ | .map _ | .arr _ _ _ _ _ _=>false
 | .fn _ caps=>nmL caps
 | .iface _ x=>nm x
 | .bm _ x=>nm x
 | .agg cs=>nmL cs
 | .tup vs=>nmL vs
 | .grd _ _=>false
 | .dead=>false
 | _=>true
def nmL:List SV→Bool
 | []=>true
 | x::r=>nm x&&nmL r
end
mutual
theorem nm_ok {m:Mem} {V V':List Nat}:∀ x:SV,nm x=true→Ok m V x→Ok m V' x
 | .i _ _,_,_ | .b _,_,_ | .s _,_,_ | .raw _,_,_ | .nils,_,_=>by simp [Ok]
 | .ptr _ _ _ _,h,_ | .sl _ _ _ _ _ _,h,_ | .map _,h,_ | .arr _ _ _ _ _ _,h,_ | .grd _ _,h,_ | .dead,h,_=>by simp [nm] at h
 | .ipt _ _ _ _ _ _ _ _ _,_,h | .imm _ _ _ _ _ _ _,_,h | .ints _ _ _,_,h=>by simpa only [Ok] using h
 | .fn _ caps,hn,h=>by simp only [nm] at hn;simp only [Ok] at h ⊢;exact nm_okA caps hn h
 | .iface _ x,hn,h=>by simp only [nm] at hn;simp only [Ok] at h ⊢;exact ⟨nm_ok x hn h.1,h.2⟩
 | .bm _ x,hn,h=>by simp only [nm] at hn;simp only [Ok] at h ⊢;exact ⟨nm_ok x hn h.1,h.2⟩
 | .agg cs,hn,h=>by simp only [nm] at hn;simp only [Ok] at h ⊢;exact nm_okL cs hn h
 | .tup vs,hn,h=>by simp only [nm] at hn;simp only [Ok] at h ⊢;exact nm_okA vs hn h
theorem nm_okL {m:Mem} {V V':List Nat}:∀ l:List SV,nmL l=true→OkL m V l→OkL m V' l
 | [],_,_=>by simp [OkL]
 | x::r,hn,h=>by
   simp only [nmL,Bool.and_eq_true] at hn
   simp only [OkL] at h ⊢
   exact ⟨⟨h.1.1,nm_ok x hn.1 h.1.2⟩,nm_okL r hn.2 h.2⟩
theorem nm_okA {m:Mem} {V V':List Nat}:∀ l:List SV,nmL l=true→OkA m V l→OkA m V' l
 | [],_,_=>by simp [OkA]
 | x::r,hn,h=>by
   simp only [nmL,Bool.and_eq_true] at hn
   simp only [OkA] at h ⊢
   exact ⟨⟨h.1.1,nm_ok x hn.1 h.1.2⟩,nm_okA r hn.2 h.2⟩
end
theorem Z1I {k v:Nat} (h:Vle [] k v):False:=by obtain ⟨n,hn,_⟩:=h;simp at hn
theorem Z64 {m:Mem} {E E':Env}:∀ {l:List SV},OkA m [] l→denL E' l=denL E l
 | [],_=>rfl
 | x::r,h=>by
   simp only [OkA] at h
   simp only [denL]
   rw [Z64 h.2]
   have:=Z2u (m:=m) (V:=[]) (E:=E) (E':=E') (fun k v hv=>(Z1I hv).elim) x h.1.2
   unfold den at this
   rw [this]
open Classical in
noncomputable def Fr.park (C:Fr) (E:Env) (H:List SB) (w:World):Fr:=
 { C with F:=fun b=>match C.F b with | some o=>some o | none=>if ∃ k,Zk E H k b then w.heap[b]? else none }
theorem ZfF {E C m H w} (h:Rel E C m H w):Rel E0 (C.park E H w) m [] w:=by
 refine ⟨h.os,h.tape,h.output,h.im,?_,⟨?_,h.mf.2⟩,?_,?_,?_,?_⟩
 ·intro b o hb
  simp only [Fr.park] at hb
  cases hf:C.F b with
  | some o'=>rw [hf] at hb;cases hb;exact h.fr b _ hf
  | none=>
    rw [hf] at hb
    simp only at hb
    split at hb
    ·exact hb
    ·cases hb
 ·intro b o hb
  simp only [Fr.park] at hb
  cases hf:C.F b with
  | some o'=>exact h.mf.1 b _ hf
  | none=>
    rw [hf] at hb
    simp only at hb
    split at hb
    ·rename_i hk
     obtain ⟨k,hk⟩:=hk
     exact (h.sp k b hk).1
    ·cases hb
 ·intro k B hk;simp at hk
 ·intro k v hv;exact (Z1I hv).elim
 ·rintro k b ⟨B,hB,_⟩;simp at hB
 ·rintro j k b ⟨B,hB,_⟩;simp at hB
theorem ZcM {E E' C m m' H H' w w'} (h:Rel E C m H w) (hm:∀ b o,m b=some o→m' b=some o) (h':Rel E' (C.park E H w) m' H' w'):Rel E C m' H w':=by
 have hblk:∀ k b,Zk E H k b→∃ o,w.heap[b]?=some o∧(C.park E H w).F b=some o:=by
  intro k b hb
  obtain ⟨B,hB,hk⟩:=id hb
  obtain ⟨o,ho⟩:=(h.bl k B hB).block hB b hb
  refine ⟨o,ho,?_⟩
  simp only [Fr.park,(h.sp k b hb).2]
  rw [if_pos ⟨k,hb⟩,ho]
 have hF:∀ b o,C.F b=some o→(C.park E H w).F b=some o:=by
  intro b o hb;simp only [Fr.park,hb]
 refine ⟨h'.os,h'.tape,h'.output,h'.im,fun b o hb=>h'.fr b o (hF b o hb),⟨fun b o hb=>h'.mf.1 b o (hF b o hb),h'.mf.2⟩,?_,h.nn,?_,h.inj⟩
 ·intro k B hB
  refine (h.bl k B hB).mono ⟨hm,fun _ _ h=>h,fun _ _ _=>rfl⟩ (fun _ _=>rfl) fun b hb=>?_
  obtain ⟨o,ho,hf⟩:=hblk k b ⟨B,hB,hb⟩
  rw [ho,h'.fr b o hf]
 ·intro k b hb
  obtain ⟨o,ho,hf⟩:=hblk k b hb
  exact ⟨h'.mf.1 b o hf,(h.sp k b hb).2⟩
theorem Z6Y {X:List Value→World→(Value→World→Prop)→Prop} (hX:Z2A X) {args:List SV} {r:SV} (hc:Cp X args [] (fun r' h=>r'=r∧h=[])) (hn:nmL args=true) (H:List SB) :
 Cp X args H (fun r' h=>r'=r∧h=H):=by
 refine ⟨fun C E m w hr ha=>?_⟩
 have ha':OkA m [] args:=nm_okA args hn ha
 have h1:=hc.out (C.park E H w) E0 m w (ZfF hr) ha'
 rw [Z64 (E:=E) (E':=E0) ha'] at h1
 refine hX _ _ _ _ h1 ?_
 rintro v w' ⟨r',H',E',m',hv,⟨rfl,rfl⟩,⟨hok,hl⟩,hx,hrel⟩
 refine ⟨r',H,E,m',?_,⟨rfl,rfl⟩,⟨Ok.mono (fun _ _ h=>h) r' [] (vers H) (fun k v hv=>(Z1I hv).elim) hok,hl⟩,⟨hx.mm,fun _ _ h=>h,fun _ _ _=>rfl⟩,ZcM hr hx.mm hrel⟩
 rw [hv]
 exact Z2u (m:=m') (V:=[]) (fun k v hv=>(Z1I hv).elim) r' hok
section
variable {P:Program} {T:Tb} {ops:Array Oper} {o:Oper}
theorem Z8 (hT:TabOk P T) {f:FuncId} {fn:Func} {c:Code} {n:Nat} (hf:P.funcs[f]?=some fn) (hb:fn.body=some c) (hn:fn.ntmps=n) (hnm:(fn.name == "runtime.NumGoroutine")=false) {args:List SV} {r:SV}
 (hl:Nat.ble args.length n=true) (hr:nm r=true) (h:sx P T c (retK T fn.results.toList (fun r' _=>r'=r)) ⟨args++List.replicate (n - args.length) .dead,[]⟩):CtrV P f args r:=by
 have h1:=Ctr.enter hT hf hb hn hnm hl h
 refine ⟨fun C E m w hrel ha=>Z7R (h1.out C E m w hrel ha) ?_⟩
 rintro v w' ⟨r',H',E',m',hv,rfl,⟨hok,hlv⟩,hx,hrel'⟩
 refine ⟨r',[],E',m',hv,⟨rfl,rfl⟩,⟨nm_ok r' hr hok,hlv⟩,⟨hx.mm,fun _ _ h=>(Z1I h).elim,fun _ _ h=>(Z1I h).elim⟩,?_⟩
 refine ⟨hrel'.os,hrel'.tape,hrel'.output,hrel'.im,hrel'.fr,hrel'.mf,?_,?_,?_,?_⟩
 ·intro k B hk;simp at hk
 ·intro k v hv;exact (Z1I hv).elim
 ·rintro k b ⟨B,hB,_⟩;simp at hB
 ·rintro j k b ⟨B,hB,_⟩;simp at hB
theorem Zav {E:Env} {m:Mem} {V:List Nat} {ev:Operand→SV} {f:Operand→Value} (h:Evs E m V ev f):∀ {l:List Operand},(∀ x ∈ l.map ev,live x=true)→OkA m V (l.map ev)∧l.map f=denL E (l.map ev)
 | [],_=>by simp [OkA,denL]
 | x::l,hl=>by
   obtain ⟨h1,h2⟩:=h.live (o:=x) (hl _ (by simp))
   obtain ⟨h3,h4⟩:=Zav h (l:=l) (fun y hy=>hl y (by simp only [List.map_cons,List.mem_cons];exact .inr hy))
   simp only [List.map_cons,OkA,denL]
   refine ⟨⟨⟨h1.2,h1.1⟩,h3⟩,?_⟩
   rw [h2,h4];rfl
theorem Z3U {m:Mem} {V:List Nat}:∀ {a b:List SV},OkA m V a→OkA m V b→OkA m V (a++b)
 | [],b,_,h=>h
 | x::a,b,h,h'=>by simp only [List.cons_append,OkA] at h ⊢;exact ⟨h.1,Z3U h.2 h'⟩
theorem Z3y {E:Env}:∀ {a b:List SV},denL E (a++b)=denL E a++denL E b
 | [],b=>rfl
 | x::a,b=>by simp only [List.cons_append,denL,Z3y]
theorem ZgL {x:SV} {f:FuncId} {fst caps:List SV} (h:calB x=some (f,fst,caps)) :
 live x=true∧(∀ E,den E x=.func (.func f) (denL E fst).toArray (denL E caps).toArray)∧∀ m V,Ok m V x→OkA m V fst∧OkA m V caps:=by
 cases x <;> simp only [calB,reduceCtorEq,Option.some.injEq,Prod.mk.injEq] at h
 ·obtain ⟨rfl,rfl,rfl⟩:=h
  exact ⟨rfl,fun E=>by simp [den,wrapV,cells,denL],fun m V g=>by simp only [Ok] at g;exact ⟨by simp [OkA],g⟩⟩
 ·obtain ⟨rfl,rfl,rfl⟩:=h
  exact ⟨rfl,fun E=>by simp [den,wrapV,cells,denL],fun m V g=>by simp only [Ok] at g;exact ⟨by simp only [OkA];exact ⟨⟨g.2,g.1⟩,trivial⟩,by simp [OkA]⟩⟩
theorem Z8E {c:Call} (hop:o.op=.call c) {fo:Operand} (hcal:c.callee=.value fo) {S:St} {C E m a w} (hr:Rep E C m S a w) {p:List (Nat×Bool)} (hp:GV S.t p true) {f:FuncId} {fst caps:List SV} (hf:calB (evG p S.t fo)=some (f,fst,caps))
 (hl:(c.args.toList.map (evG p S.t)).all live=true) {H:List SB} (hH:S.h=H) {K:SV→List SB→Prop} (hc:Ctr P f (fst++(c.args.toList.map (evG p S.t)++caps)) H K) {K':Act→World→Prop} {Q:Exit→Act→World→Prop}
 (hK:∀ r H' E' m' w',K r H'→Gd m' (vers H') r→Ext E m (vers S.h) E' m' (vers H')→Rel E' C m' H' w'→K' (a.put o.dst (den E' r)) w'):o.wp P a w K' Q:=by
 subst hH
 have hevs:=hr.evs hp
 obtain ⟨hb1,hb2,hb3⟩:=ZgL hf
 obtain ⟨g1,g2⟩:=hevs.live (o:=fo) hb1
 rw [hb2 E] at g2
 obtain ⟨o1,o2⟩:=Zav hevs (l:=c.args.toList) (fun x hx=>List.all_eq_true.1 hl x hx)
 obtain ⟨og,oc⟩:=hb3 _ _ g1.1
 have h1:=hc.out C E m w hr.rel (Z3U og (Z3U o1 oc))
 have hrun:(execOp a.eval o).run P w=(callFunc f (denL E (fst++(c.args.toList.map (evG p S.t)++caps))).toArray).run P w:=by
  simp only [execOp,hop,resolve,hcal,g2,Deferred.ofValue,Sem.run_bind,Sem.run_pure,Result.andThen_ok,invoke]
  congr 2
  apply Array.ext'
  simp only [Array.toList_append,Array.toList_map,Z3y,o2,List.append_assoc]
 unfold Oper.wp
 unfold Z2T at h1
 rw [hrun]
 generalize (callFunc f (denL E (fst++(c.args.toList.map (evG p S.t)++caps))).toArray).run P w=res at *
 cases res with
 | ok n w'=>
   cases n <;> simp only [ZcF] at h1 <;> try exact h1.elim
   ·obtain ⟨r,H',E',m',rfl,k1,k2,k3,k4⟩:=h1
    exact hK r H' E' m' _ k1 k2 k3 k4
   ·refine Calls.mono h1 ?_
    rintro e w'' ⟨v,rfl,r,H',E',m',rfl,k1,k2,k3,k4⟩
    exact hK r H' E' m' _ k1 k2 k3 k4
   ·refine Rows.mono h1 ?_
    rintro v w'' ⟨r,H',E',m',rfl,k1,k2,k3,k4⟩
    exact hK r H' E' m' _ k1 k2 k3 k4
 | halt x w'=>exact h1.elim
theorem OpC.call {K:St→Prop} {t:List SV} {h:List SB} {c:Call} (hop:o.op=.call c) {fo:Operand} (hcal:c.callee=.value fo) (hg:Zt ops t o=some []) {f:FuncId} {fst caps:List SV} (hf:calB (evG [] t fo)=some (f,fst,caps))
 {args:List SV} (ha:fst++(c.args.toList.map (evG [] t)++caps)=args) (hl:(c.args.toList.map (evG [] t)).all live=true) {K':SV→List SB→Prop} (hc:Ctr P f args h K') (hK:∀ r h',K' r h'→putK t h' o.dst r K):OpC P T ops o K ⟨t,h⟩:=by
 subst ha
 refine ⟨fun C E m a w hr=>?_⟩
 unfold opW
 rw [show Region.wanted o (yielded ops a.tmps)=true by simp [Region.wanted,Z1f hg],if_pos rfl]
 refine Z8E hop hcal hr .nil hf hl rfl hc ?_
 intro r H' E' m' w' k1 k2 k3 k4
 have:=hK r H' k1
 rw [ZV] at this
 exact ⟨E',m',_,this,k3,(hr.up k3 k4).put o.dst fun d hd=>Z1p k2⟩
theorem Z4 {K:St→Prop} {t:List SV} {h:List SB} {c:Call} (hop:o.op=.call c) {fo:Operand} (hcal:c.callee=.value fo) {p:List (Nat×Bool)} (hg:Zt ops t o=some p) {f:FuncId} {fst caps:List SV} (hf:calB (evG p t fo)=some (f,fst,caps))
 {args:List SV} (ha:fst++(c.args.toList.map (evG p t)++caps)=args) (hl:(c.args.toList.map (evG p t)).all live=true) (hn:nmL args=true) {r:SV} (hc:(gB t p=true→CtrV P f args r)) (hK:putK t h o.dst (Zz p o.dst r) K):OpC P T ops o K ⟨t,h⟩:=by
 subst ha
 rw [ZV] at hK
 refine ⟨fun C E m a w hr=>?_⟩
 obtain ⟨g,hgv,hw⟩:=Z3d hr hg
 unfold opW
 rw [hw]
 cases g with
 | true=>
   simp only [if_true]
   refine Z8E hop hcal hr hgv hf hl rfl (Z6Y ZK (hc (Z7N hgv)) hn h) ?_
   rintro r' H' E' m' w' ⟨rfl,rfl⟩ k2 k3 k4
   have:=(hr.up k3 k4).putG (o:=o) hgv (x:=r') (v:=den E' r') (fun _=>.inr ⟨k2,rfl⟩) (fun h=>by cases h)
   exact ⟨E',m',_,hK,k3,this⟩
 | false=>
   simp only [Bool.false_eq_true,if_false]
   exact ⟨E,m,_,hK,.refl ..,hr.putG (x:=r) hgv (fun h=>by cases h) (fun _=>rfl)⟩
end
end
section
theorem Zaw {H:List SB} {k:Nat}:(vers H)[k]?=(H[k]?).map SB.lim:=by simp [vers]
theorem Vle_iff {H:List SB} {k v:Nat}:Vle (vers H) k v ↔ ∃ B,H[k]?=some B∧v < B.lim:=by
 constructor
 ·rintro ⟨n,hn,hl⟩
  rw [Zaw] at hn
  cases h:H[k]? with
  | none=>rw [h] at hn;simp at hn
  | some B=>rw [h] at hn;simp at hn;subst hn;exact ⟨B,rfl,hl⟩
 ·rintro ⟨B,hB,hl⟩
  exact ⟨B.lim,by rw [Zaw,hB];rfl,hl⟩
theorem Rel.allocAt {E C m H w} (h:Rel E C m H w) {n:Nat} (hn:H[n]?=some .fresh) (B:SB) (o:Obj) (hB:B.lim=2)
 (hh:∀ E' V',(∀ k v,Vle (vers H) k v→E' k v=E k v)→(∀ k v,Vle (vers H) k v→Vle V' k v)→E' n 1=some (w.heap.size,0)→Holds E' m V' (w.alloc o) n B) :
 ∃ E',E' n 1=some (w.heap.size,0)∧Ext E m (vers H) E' m (vers (H.set n B))∧Rel E' C m (H.set n B) (w.alloc o):=by
 have hlen:n < H.length:=(List.getElem?_eq_some_iff.1 hn).1
 have hnv:∀ v,¬ Vle (vers H) n v:=fun v hv=>by
  obtain ⟨B',hB',hl⟩:=Vle_iff.1 hv
  rw [hn] at hB';cases hB';simp [SB.lim] at hl
 have hge:∀ k,k≠n→(H.set n B)[k]?=H[k]?:=fun k hk=>List.getElem?_set_ne (Ne.symm hk)
 have hgn:(H.set n B)[n]?=some B:=by simp [List.getElem?_set,hlen]
 have hx:Ext E m (vers H) (E.upd n 1 (w.heap.size,0)) m (vers (H.set n B)):=by
  refine ⟨fun _ _ h=>h,fun k v hv=>?_,fun k v hv=>Zo _ _ fun e=>hnv v (e.1 ▸ hv)⟩
  have hk:k≠n:=fun e=>hnv v (e ▸ hv)
  obtain ⟨B',hB',hl⟩:=Vle_iff.1 hv
  exact Vle_iff.2 ⟨B',by rw [hge k hk];exact hB',hl⟩
 refine ⟨E.upd n 1 (w.heap.size,0),Zn ..,hx,?_⟩
 have hold:∀ i,i < w.heap.size→(w.alloc o).heap[i]?=w.heap[i]?:=fun i hi=>by
  show (w.heap.push o)[i]?=_
  rw [Array.getElem?_push,if_neg (by omega)]
 have hfresh:∀ b o',w.heap[b]?=some o'→b < w.heap.size:=fun b o' hb=>Zw hb
 have hbl:∀ k b,Zk (E.upd n 1 (w.heap.size,0)) (H.set n B) k b→(k≠n∧Zk E H k b)∨(k=n∧b=w.heap.size):=by
  rintro k b ⟨B',hB',hb⟩
  by_cases hk:k=n
  ·right
   subst hk
   rw [hgn] at hB';cases hB'
   refine ⟨rfl,?_⟩
   cases B with
   | mem t segs ver gr=>
     simp [SB.lim] at hB
     subst hB
     obtain ⟨_,c,he⟩:=hb
     rw [Zn] at he;cases he;rfl
   | mp kv ver=>
     simp [SB.lim] at hB
     subst hB
     obtain ⟨c,he⟩:=hb
     rw [Zn] at he;cases he;rfl
   | gone v=>exact hb.elim
   | fresh=>exact hb.elim
  ·left
   rw [hge k hk] at hB'
   refine ⟨hk,B',hB',?_⟩
   cases B' with
   | mem t segs ver gr=>
     obtain ⟨h0,c,he⟩:=hb
     rw [Zo _ _ (fun e=>hk e.1)] at he
     exact ⟨h0,c,he⟩
   | mp kv ver=>
     obtain ⟨c,he⟩:=hb
     rw [Zo _ _ (fun e=>hk e.1)] at he
     exact ⟨c,he⟩
   | gone v=>exact hb
   | fresh=>exact hb
 have hsm:m w.heap.size=none:=by
  cases hm:m w.heap.size with
  | none=>rfl
  | some o'=>have:=hfresh _ _ (h.im _ _ hm);omega
 have hsf:C.F w.heap.size=none:=by
  cases hm:C.F w.heap.size with
  | none=>rfl
  | some o'=>have:=hfresh _ _ (h.fr _ _ hm);omega
 have hlt:∀ k b,Zk E H k b→b < w.heap.size:=fun k b hb=>by
  obtain ⟨B',hB',hb'⟩:=hb
  obtain ⟨o',ho'⟩:=(h.bl k B' hB').block hB' b ⟨B',hB',hb'⟩
  exact hfresh _ _ ho'
 refine ⟨h.os,h.tape,h.output,fun b o' hb=>?_,fun b o' hb=>?_,h.mf,fun k B' hB'=>?_,fun k v hv hv0=>?_,fun k b hb=>?_,fun j k b hj hk=>?_⟩
 ·have:=h.im b o' hb;rw [hold b (hfresh _ _ this)];exact this
 ·have:=h.fr b o' hb;rw [hold b (hfresh _ _ this)];exact this
 ·by_cases hk:k=n
  ·subst hk
   rw [hgn] at hB';cases hB'
   exact hh _ _ hx.ee hx.vv (Zn ..)
  ·rw [hge k hk] at hB'
   have hh':=h.bl k B' hB'
   exact hh'.mono hx (fun v hv=>Zo _ _ (fun e=>hk e.1)) (fun b hb=>hold b (hlt k b ⟨B',hB',hb⟩))
 ·by_cases hk:k=n
  ·subst hk
   obtain ⟨B',hB',hl⟩:=Vle_iff.1 hv
   rw [hgn] at hB';cases hB'
   have:v=1:=by omega
   subst this
   exact ⟨_,_,Zn ..⟩
  ·rw [Zo _ _ (fun e=>hk e.1)]
   obtain ⟨B',hB',hl⟩:=Vle_iff.1 hv
   rw [hge k hk] at hB'
   exact h.nn k v (Vle_iff.2 ⟨B',hB',hl⟩) hv0
 ·rcases hbl k b hb with ⟨_,hb'⟩ | ⟨_,rfl⟩
  ·exact h.sp k b hb'
  ·exact ⟨hsm,hsf⟩
 ·rcases hbl j b hj with ⟨_,hj'⟩ | ⟨rfl,hbs⟩ <;> rcases hbl k b hk with ⟨_,hk'⟩ | ⟨rfl,hbs'⟩
  ·exact h.inj j k b hj' hk'
  ·have:=hlt j b hj';omega
  ·have:=hlt k b hk';omega
  ·rfl
structure Makes (P:Program) (o:Oper) (S:St) (B:SB) (mk:Nat→SV):Prop where
 lim:B.lim=2
 ok:∀ m V k,Vle V k 1→Gd m V (mk k)
 run:∀ C E m a w,Rep E C m S a w→∃ ob v,(execOp a.eval o).run P w=.ok (.value v) (w.alloc ob) ∧
  (∀ k E' V',(∀ k v,Vle (vers S.h) k v→E' k v=E k v)→(∀ k v,Vle (vers S.h) k v→Vle V' k v)→E' k 1=some (w.heap.size,0)→Holds E' m V' (w.alloc ob) k B) ∧
  (∀ k E',E' k 1=some (w.heap.size,0)→v=den E' (mk k))
section
variable {P:Program} {T:Tb} {ops:Array Oper} {o:Oper}
theorem Z9d {S:St} {ty:TypeId} {x:Operand} (hop:o.op=.box ty x) (hc:Zs (evG [] S.t x)=true):Makes P o S (.mem ty (Zj (evG [] S.t x)) 1 0) (fun k=>.ptr k 1 0 []):=by
 refine ⟨rfl,fun m V k hk=>⟨by simp only [Ok];exact ⟨hk,by omega⟩,rfl⟩,fun C E m a w hr=>?_⟩
 obtain ⟨hgd,hev⟩:=(hr.evs .nil).live (Z1q hc)
 obtain ⟨h1,h2⟩:=Z1R (E:=E) hgd hc
 have h1':(a.eval x).cells=(cellsL E (Zj (evG [] S.t x))).toArray:=by rw [hev,← h1]
 refine ⟨.cells (cellsL E (Zj (evG [] S.t x))).toArray ty,.pointer (some ⟨w.heap.size,0,none⟩),?_,fun k E' V' hE hV hlen=>?_,fun k E' he=>by simp [den,wrapV,cells,Env.blk,he,ofs]⟩
 ·simp only [execOp,hop,Instr.box,newVar,newRow,Sem.run_bind,run_newObj,Result.andThen_ok,Sem.run_pure,h1']
  rfl
 ·refine ⟨rfl,_,_,hlen,?_,OkL.mono (fun _ _ h=>h) _ _ _ hV h2⟩
  rw [cellsL_stable hE _ h2]
  exact heap_alloc_new w _
theorem Z6Z (hT:TabOk P T) {S:St} {ty:TypeId} {ti:TI} (hop:o.op=.alloc ty) (ht:T ty=some ti):Makes P o S (.mem ty ti.zero 1 0) (fun k=>.ptr k 1 0 []):=by
 refine ⟨rfl,fun m V k hk=>⟨by simp only [Ok];exact ⟨hk,by omega⟩,rfl⟩,fun C E m a w hr=>?_⟩
 have hti:=hT.ti ty ti ht
 obtain ⟨z,hz,hzc⟩:=hti.run_zero (P:=P) w
 obtain ⟨zo,zc⟩:=hT.zeroOk (m:=m) (V:=vers S.h) (E:=E) ht
 have h1':z.cells=(cellsL E ti.zero).toArray:=by rw [zc,← hzc]
 refine ⟨.cells (cellsL E ti.zero).toArray ty,.pointer (some ⟨w.heap.size,0,none⟩),?_,fun k E' V' hE hV hlen=>?_,fun k E' he=>by simp [den,wrapV,cells,Env.blk,he,ofs]⟩
 ·simp only [execOp,hop,Instr.alloc,newVar,newRow,Sem.run_bind,hz,run_newObj,Result.andThen_ok,Sem.run_pure,h1']
  rfl
 ·refine ⟨rfl,_,_,hlen,?_,OkL.mono (fun _ _ h=>h) _ _ _ hV zo⟩
  rw [cellsL_stable hE _ zo]
  exact heap_alloc_new w _
theorem Z4h (hT:TabOk P T) {S:St} {ty:TypeId} {len:Nat} {parts:Array (Nat×Operand)} {ti te:TI} {e:TypeId} {segs:List SV} (hop:o.op=.buildSlice ty len parts) (ht:T ty=some ti) (hk:ti.k=.slice e) (hte:T e=some te)
 (hbn:(!(Nat.ble (len * te.size) 16777216)||Nat.beq te.size 0)=false) (hb:ZZ te.size (parts.toList.map fun q=>(q.1,evG [] S.t q.2)) (ZF len te.zero)=some segs) :
 Makes P o S (.mem e (Z2s ti.flat te len segs) 1 0) (fun k=>.sl k 1 0 len (some len) 0):=by
 refine ⟨rfl,fun m V k hk=>⟨by simp only [Ok];exact ⟨hk,by omega⟩,rfl⟩,fun C E m a w hr=>?_⟩
 simp only [Bool.or_eq_false_iff,Bool.not_eq_false'] at hbn
 have hle:=Nat.le_of_ble_eq_true hbn.1
 have hsz0:te.size≠0:=fun e=>by rw [e] at hbn;simp at hbn
 have hti:=hT.ti ty ti ht
 have hti':=hT.ti e te hte
 obtain ⟨z,hz,hzc⟩:=hti'.run_zero (P:=P) w
 obtain ⟨zo,zc⟩:=hT.zeroOk (m:=m) (V:=vers S.h) (E:=E) hte
 have h1':z.cells=(cellsL E te.zero).toArray:=by rw [zc,← hzc]
 have hevs:=hr.evs .nil
 obtain ⟨q1,q2⟩:=Z3u (E:=E) (m:=m) (V:=vers S.h) (parts.toList.map fun q=>(q.1,evG [] S.t q.2)) (ZF len te.zero) segs (fun p hp hok=>by
  obtain ⟨q,_,rfl⟩:=List.mem_map.1 hp
  exact (hevs.live (Z1q hok)).1) (Z2Z zo len) hb
 obtain ⟨p1,p2⟩:=Z5x (E:=E) (f:=ti.flat) (te:=te) (n:=len) q1
 have hcs:=Z2w _ _ segs hb
 have hvs:(parts.map fun x:Nat×Operand=>match x with | (i,x)=>(i,a.eval x)).toList=(parts.toList.map fun q=>(q.1,evG [] S.t q.2)).map fun p=>(p.1,den E p.2):=by
  simp only [Array.toList_map,List.map_map]
  apply List.map_congr_left
  intro q hq
  simp only [Function.comp]
  rw [(hevs.live (Z1q (hcs (q.1,evG [] S.t q.2) (List.mem_map.2 ⟨q,hq,rfl⟩)))).2]
 have hzl:(cellsL E te.zero).length=te.size:=by rw [length_cellsL E _ _ zo];exact hti'.zw
 have hrz:=Z4T (z:=cellsL E te.zero) (by omega) len
 rw [hzl] at hrz
 rw [← Z3w] at hrz
 have hne:¬ (len * te.size > 2 ^ 24):=by omega
 refine ⟨.cells (cellsL E segs).toArray e,.slice (some ⟨w.heap.size,0,none⟩) len len,?_,fun k E' V' hE hV hlen=>?_,fun k E' he=>by simp [den,wrapV,cells,he]⟩
 ·simp only [execOp,hop,Instr.buildSlice,Sem.run_bind,Z6 (hti.slice hk),Result.andThen_ok,hti'.run_sizeOf,if_neg hne]
  by_cases hl0:len * te.size=0
  ·have hl:len=0:=by rcases Nat.mul_eq_zero.1 hl0 with h | h;exact h;exact absurd h hsz0
   subst hl
   have hc0:cellsL E (ZF 0 te.zero)=[]:=by simp [ZF,cellsL]
   rw [hc0] at q2
   have hr0:Array.range 0 = #[]:=rfl
   simp only [Nat.zero_mul,if_true,Sem.run_pure,Sem.run_bind,Result.andThen_ok,hvs,hr0,Array.map_empty]
   simp only [q2]
   simp only [Sem.run_bind,newRow,run_newObj,Result.andThen_ok,Sem.run_pure]
   rfl
  ·simp only [if_neg hl0,Sem.run_bind,hz,Result.andThen_ok,Sem.run_pure,h1',hvs,hrz,q2,newRow,run_newObj]
   rfl
 ·refine ⟨rfl,_,_,hlen,?_,OkL.mono (fun _ _ h=>h) _ _ _ hV p1⟩
  rw [cellsL_stable hE _ p1,p2]
  exact heap_alloc_new w _
theorem Z4z (hT:TabOk P T) {S:St} {ty:TypeId} {l c:Operand} {n:Nat} {k1 k2:IntKind} {ti te:TI} {e:TypeId} (hop:o.op=.makeSlice ty l c) (ht:T ty=some ti) (hk:ti.k=.slice e) (hte:T e=some te)
 (hl:evG [] S.t l=.i k1 n) (hc:evG [] S.t c=.i k2 n) (hb:n * te.bytes≤16777216) (hs:n * te.size≤16777216) (h0:te.size≠0) :
 Makes P o S (.mem e (Z2s ti.flat te n (ZF n te.zero)) 1 0) (fun k=>.sl k 1 0 n (some n) 0):=by
 refine ⟨rfl,fun m V k hk=>⟨by simp only [Ok];exact ⟨hk,by omega⟩,rfl⟩,fun C E m a w hr=>?_⟩
 have hnn:n≤16777216:=Nat.le_trans (Nat.le_mul_of_pos_right n (Nat.pos_of_ne_zero h0)) hs
 have hti:=hT.ti ty ti ht
 have hti':=hT.ti e te hte
 obtain ⟨z,hz,hzc⟩:=hti'.run_zero (P:=P) w
 obtain ⟨i,hi,hib⟩:=hti'.run_typeInfo (P:=P) w
 obtain ⟨zo,zc⟩:=hT.zeroOk (m:=m) (V:=vers S.h) (E:=E) hte
 have h1':z.cells=(cellsL E te.zero).toArray:=by rw [zc,← hzc]
 have hevs:=hr.evs .nil
 obtain ⟨p1,p2⟩:=Z5x (E:=E) (f:=ti.flat) (te:=te) (n:=n) (Z2Z zo n)
 have hzl:(cellsL E te.zero).length=te.size:=by rw [length_cellsL E _ _ zo];exact hti'.zw
 have hrz:=Z4T (z:=cellsL E te.zero) (by omega) n
 rw [hzl] at hrz
 rw [← Z3w] at hrz
 have el:a.eval l=.int k1 n:=by rw [(hevs.live (o:=l) (by rw [hl];rfl)).2,hl];simp [den_v]
 have ec:a.eval c=.int k2 n:=by rw [(hevs.live (o:=c) (by rw [hc];rfl)).2,hc];simp [den_v]
 have hw:IntKind.i64.wrap (n:Int)=n:=IntWalk.i64_in _ ⟨by omega,by omega⟩
 have hby:¬ ((te.bytes:Int) * n > 2 ^ 48):=by
  have h1:(te.bytes:Int) * n=((n * te.bytes:Nat):Int):=by rw [Int.natCast_mul,Int.mul_comm]
  have h2:((n * te.bytes:Nat):Int)≤16777216:=by omega
  have h3:(16777216:Int)≤2 ^ 48:=by decide
  rw [h1];omega
 have hroom:¬ (n * te.bytes > roomBytes):=fun h=>absurd (Nat.lt_of_lt_of_le h hb) (by decide)
 refine ⟨.cells (cellsL E (ZF n te.zero)).toArray e,.slice (some ⟨w.heap.size,0,none⟩) n n,?_,fun k E' V' hE hV hlen=>?_,fun k E' he=>by simp [den,wrapV,cells,he]⟩
 ·have hn0:¬ ((n:Int) < 0):=by omega
  simp only [execOp,hop,Instr.makeSlice,Sem.run_bind,Z6 (hti.slice hk),Result.andThen_ok,el,ec,asInt,asIntOf,Sem.run_pure,hi,hib,hw,hby,hn0,decide_false,Bool.or_false,Bool.false_eq_true,if_false,Int.lt_irrefl,askRoom,Int.toNat_natCast,hroom,hti'.run_sizeOf]
  by_cases hl0:n * te.size=0
  ·have hl:n=0:=by rcases Nat.mul_eq_zero.1 hl0 with h | h;exact h;exact absurd h h0
   subst hl
   have hc0:cellsL E (ZF 0 te.zero)=[]:=by simp [ZF,cellsL]
   have hr0:Array.range 0 = #[]:=rfl
   simp only [Nat.zero_mul,if_true,Sem.run_pure,Sem.run_bind,Result.andThen_ok,hr0,Array.map_empty,newRow,run_newObj,hc0]
   rfl
  ·simp only [if_neg hl0,Sem.run_bind,hz,Result.andThen_ok,Sem.run_pure,h1',hrz,newRow,run_newObj]
   rfl
 ·refine ⟨rfl,_,_,hlen,?_,OkL.mono (fun _ _ h=>h) _ _ _ hV p1⟩
  rw [cellsL_stable hE _ p1,p2]
  exact heap_alloc_new w _
end
end
def Z5c:List Operand→List Nat
 | []=>[]
 | .tmp n::r=>n::Z5c r
 | _::r=>Z5c r
def setP:List SV→Nat→SV→(List SV→Prop)→Prop
 | x::xs,n+1,v,K=>setP xs n v (fun ys=>K (x::ys))
 | _::xs,0,v,K=>K (v::xs)
 | [],_,_,K=>K []
def setD (t:List SV) (d:Option Nat) (v:SV) (K:List SV→Prop):Prop:=match d with | some d=>setP t d v K | none=>K t
def Zc (o:Oper) (p:List (Nat×Bool)):List Nat:=Z5c o.op.operands.toList++p.map (·.1)
def Z2B (ev:Operand→SV):Op→List Nat
 | .load _ x=>(match ev x with | .ptr k _ _ _=>[k] | _=>[])
 | .slice _ x _ _ none=>(match ev x with | .sl k _ _ _ none _=>[k] | _=>[])
 | _=>[]
structure OpD (P:Program) (ops:Array Oper) (o:Oper) (n:Nat) (K:Eff→Nat→St→Prop) (S:St):Prop where
 out:∃ e n',e.d=o.dst∧Yld P ops o e S∧(∀ n ∈ hang e.v,n ∈ e.rs)∧(∀ k ∈ wN e.wb,k ∈ e.rb)∧K e n' (e.put S)
def putD (t:List SV) (h:List SB) (d:Option Nat) (x:SV) (rs rb:List Nat) (n:Nat) (K:Eff→Nat→St→Prop):Prop:=
 Z2U x fun x=>setD t d x fun t'=>K ⟨d,x,hang x++rs,rb,[]⟩ n ⟨t',h⟩
def newD (t:List SV) (h:List SB) (d:Option Nat) (B:SB) (x:SV) (rs:List Nat) (n:Nat) (K:Eff→Nat→St→Prop):Prop:=
 match h.getD n (.gone 0) with
 | .fresh=>setH h n B fun h'=>setD t d x fun t'=>K ⟨d,x,rs,[n],[(n,B)]⟩ (n+1) ⟨t',h'⟩
 | _=>False
def dop (P:Program) (T:Tb) (ops:Array Oper) (o:Oper) (n:Nat) (K:Eff→Nat→St→Prop) (S:St):Prop:=
 match S with
 | ⟨t,h⟩=>
 match Zt ops t o with
 | none=>OpD P ops o n K ⟨t,h⟩
 | some p=>
   match o.op,p with
   | .pick c a b,p=>match Z5u p t c a b with
     | .v x=>putD t h o.dst (Zz p o.dst x) (Zc o p) [] n K
     | _=>OpD P ops o n K ⟨t,h⟩
   | .box ty x,[]=>Z2U (evG [] t x) fun v=>bif Zs v then newD t h o.dst (.mem ty (Zj v) 1 0) (.ptr n 1 0 []) (Zc o []) n K else False
   | .alloc ty,[]=>match T ty with
     | some ti=>newD t h o.dst (.mem ty ti.zero 1 0) (.ptr n 1 0 []) (Zc o []) n K
     | none=>False
   | .buildSlice ty len parts,[]=>match T ty with
     | some ti=>match ti.k with
       | .slice e=>match T e with
         | some te=>bif !(Nat.ble (len * te.size) 16777216)||Nat.beq te.size 0 then False else match ZZ te.size (parts.toList.map fun q=>(q.1,evG [] t q.2)) (ZF len te.zero) with
           | some segs=>newD t h o.dst (.mem e (Z2s ti.flat te len segs) 1 0) (.sl n 1 0 len (some len) 0) (Zc o []) n K
           | none=>False
         | none=>False
       | _=>False
     | none=>False
   | .store ty x v,[]=>match T ty,evG [] t x with
     | some ti,.ptr k ver off ix=>match h.getD k .fresh with
       | .mem ty' segs ver' gr=>Z2U (evG [] t v) fun v=>bif Zs v&&wdB (Zj v) ti.size then
        (match gr with
        | 0=>updK segs off ix (Zj v) fun segs'=>setH h k (.mem ty' segs' ver' gr) fun h'=>setD t o.dst .dead fun t'=>K ⟨o.dst,.dead,Zc o [],[k],[(k,.mem ty' segs' ver' gr)]⟩ n ⟨t',h'⟩
        | _+1=>Ob (ver=ver') (updK segs off ix (Zj v) fun segs'=>setH h k (.mem ty' segs' ver' gr) fun h'=>setD t o.dst .dead fun t'=>K ⟨o.dst,.dead,Zc o [],[k],[(k,.mem ty' segs' ver' gr)]⟩ n ⟨t',h'⟩)) else False
       | _=>False
     | _,_=>OpD P ops o n K ⟨t,h⟩
   | op,p=>match Zx T h (evG p t) op with
     | .v x=>putD t h o.dst (Zz p o.dst x) (Zc o p) (Z2B (evG p t) op) n K
     | @R.ob pr _ x=>Ob (gB t p=true→pr) (putD t h o.dst (Zz p o.dst x) (Zc o p) (Z2B (evG p t) op) n K)
     | .no=>OpD P ops o n K ⟨t,h⟩
def ancB (acc:List Nat):List Nat→Nat
 | []=>0
 | p::r=>(1 <<< p ||| acc.getD p 0) ||| ancB acc r
def ancs:List Oper→List Nat→List Nat
 | [],acc=>acc
 | o::r,acc=>ancs r (acc++[ancB acc (par o)])
def Z9V:List Oper→Nat→Bool
 | [],_=>true
 | o::r,i=>(par o).all (fun p=>Nat.blt p i)&&Z9V r (i+1)
def chkJ (a:Nat) (f:Eff):List Eff→Nat→Bool
 | [],_=>true
 | e::r,i=>(!Z1d e f||Nat.testBit a i)&&!hasO f.d (hang e.v)&&chkJ a f r (i+1)
def Z65 (as:List Nat):List Eff→List Eff→Nat→Bool
 | [],_,_=>true
 | f::r,pre,j=>chkJ (as.getD j 0) f pre 0&&Z65 as r (pre++[f]) (j+1)
def chk (ops:Array Oper) (es:List Eff):Bool:=Z9V ops.toList 0&&Z65 (ancs ops.toList []) es [] 0
def dreg (P:Program) (T:Tb) (ops:Array Oper):List Oper→Nat→List Eff→(St→Prop)→St→Prop
 | [],_,acc,K,S=>Ob (chk ops acc.reverse=true) (K S)
 | o::r,n,acc,K,S=>dop P T ops o n (fun e n' S'=>dreg P T ops r n' (e::acc) K S') S
def Z2k (ds:List Nat):List (Nat×Bool)→Bool
 | []=>false
 | (j,_)::r=>hasN j ds||Z2k ds r
def clrG (ds:List Nat) (x:SV):SV:=
 match x with
 | .grd q y=>bif Z2k ds q then .dead else .grd q y
 | x=>x
def Zax (ds:List Nat) (x:SV) (K:SV→Prop):Prop:=
 match x with
 | .grd q y=>bif Z2k ds q then K .dead else K (.grd q y)
 | x=>K x
def clrK (ds:List Nat):List SV→(List SV→Prop)→Prop
 | [],K=>K []
 | x::r,K=>Zax ds x fun x=>clrK ds r fun l=>K (x::l)
def Z1S:List Oper→List Nat
 | []=>[]
 | o::r=>match o.dst with | some d=>d::Z1S r | none=>Z1S r
def ZdI (P:Program) (T:Tb) (ops:Array Oper) (n:Nat) (K:St→Prop) (S:St):Prop:=
 match S with
 | ⟨t,h⟩=>clrK (Z1S ops.toList) t fun t'=>appH h (List.replicate n .fresh) fun h'=>dreg P T ops ops.toList h.length [] K ⟨t',h'⟩
theorem Z8F:∀ (l:List SV) (n:Nat) (v:SV) (K:List SV→Prop),setP l n v K=K (l.set n v)
 | [],n,v,K=>by cases n <;> rfl
 | x::l,0,v,K=>rfl
 | x::l,n+1,v,K=>by simp only [setP,Z8F l n v,List.set_cons_succ]
theorem Z2C (t:List SV) (d:Option Nat) (v:SV) (K:List SV→Prop):setD t d v K=K (setT t d v):=by
 cases d <;> simp only [setD,setT,Z8F]
theorem Z5B {n:Nat}:∀ {l:List Operand},.tmp n ∈ l→n ∈ Z5c l
 | [],h=>by simp at h
 | x::r,h=>by
   rcases List.mem_cons.1 h with rfl | h
   ·simp [Z5c]
   ·have:=Z5B h
    cases x <;> simp [Z5c,this]
def Like (rs:List Nat) (t t':List SV):Prop:=∀ n ∈ rs,t'[n]?=t[n]?
theorem Like.getD {rs t t'} (h:Like rs t t') {n:Nat} (hn:n ∈ rs):t'.getD n .dead=t.getD n .dead:=by
 simp only [List.getD_eq_getElem?_getD,h n hn]
theorem Z14 {ops:Array Oper} {o:Oper} {t t':List SV} {p:List (Nat×Bool)} (h:Zt ops t o=some p) (hl:Like (p.map (·.1)) t t'):Zt ops t' o=some p:=by
 unfold Zt at h ⊢
 cases ho:o.guard with
 | none=>rw [ho] at h;exact h
 | some jw=>
   obtain ⟨j,want⟩:=jw
   rw [ho] at h
   simp only at h ⊢
   cases hd:(ops[j]?).bind (·.dst) with
   | none=>rw [hd] at h;simp at h
   | some d=>
     rw [hd] at h
     simp only at h ⊢
     have key:d ∈ p.map (·.1):=by
      cases ht:t.getD d .dead <;> rw [ht] at h <;> try (simp at h;done)
      ·simp at h;subst h;simp
      ·rename_i q y
       cases y <;> simp at h
       subst h;simp
     rw [hl.getD key];exact h
theorem Zay {rs t t'} (h:Like rs t t') {x:Operand} (hx:∀ n,x=.tmp n→n ∈ rs):evO t' x=evO t x:=by
 cases x with
 | tmp n=>exact h.getD (hx n rfl)
 | _=>rfl
theorem Z6y {t t'}:∀ {p:List (Nat×Bool)},Like (p.map (·.1)) t t'→gB t' p=gB t p
 | [],_=>rfl
 | (d,w)::r,h=>by
   simp only [gB]
   rw [Like.getD h (by simp),Z6y (p:=r) (fun n hn=>h n (by simp only [List.map_cons,List.mem_cons];exact .inr hn))]
theorem ZO {o:Oper} {p:List (Nat×Bool)} {t t':List SV} (h:Like (Zc o p) t t'):∀ x ∈ o.op.operands.toList,evO t' x=evO t x:=
 fun x hx=>Zay h fun n e=>List.mem_append_left _ (Z5B (e ▸ hx))
theorem Z1j {o:Oper} {p:List (Nat×Bool)} {t t':List SV} (h:Like (Zc o p) t t'):Like (p.map (·.1)) t t':=fun n hn=>h n (List.mem_append_right _ hn)
theorem ZL {p:List (Nat×Bool)} {t t':List SV} {x:Operand} (h:evO t' x=evO t x):evG p t' x=evG p t x:=by simp only [evG,h]
theorem ZfG {p:List (Nat×Bool)} {t t':List SV} {c a b:Operand} (hc:evO t' c=evO t c) (ha:evO t' a=evO t a) (hb:evO t' b=evO t b):Z5u p t' c a b=Z5u p t c a b:=by
 simp only [Z5u,evG,Z21,hc,ha,hb]
theorem Zaz {T:Tb} {h h':List SB} {e e':Operand→SV} {op:Op} (he:∀ x ∈ op.operands.toList,e' x=e x) (hh:∀ k ∈ Z2B e op,h'.getD k .fresh=h.getD k .fresh):Zx T h' e' op=Zx T h e op:=by
 cases op <;> simp only [Zx] <;> try rfl
 all_goals simp only [Op.operands] at he
 case load t x=>
  have h1:e' x=e x:=he x (by simp)
  rw [h1]
  unfold Z20
  cases T t with
  | none=>rfl
  | some ti=>
    simp only
    cases hx:e x <;> try rfl
    simp only
    rw [hh _ (by simp [Z2B,hx])]
 case build t ps=>
  congr 1
  apply List.map_congr_left
  intro q hq
  rw [he q.2 (by simp;exact ⟨q.1,by simpa using hq⟩)]
 case makeFunc f first caps=>
  cases f <;> try rfl
  simp only
  cases hf:first.toList with
  | cons o1 ol=>
    cases ol with
    | cons=>rfl
    | nil=>simp only;rw [he o1 (by simp;exact .inl (by have:o1 ∈ first.toList:=by rw [hf];simp
                                                       simpa using this))]
  | nil=>
    simp only
    have:caps.toList.map e'=caps.toList.map e:=List.map_congr_left fun x hx=>he x (by simp;exact .inr (by simpa using hx))
    rw [this]
 case call c=>
  have hm:∀ x ∈ c.args.toList,e' x=e x:=fun x hx=>he x (by simp [Call.operands];exact .inr (by simpa using hx))
  cases c.callee <;> try rfl
  rename_i b
  cases b <;> try rfl
  ·simp only
   cases hl:c.args.toList with
   | nil=>rfl
   | cons x r=>
     cases r with
     | cons=>rfl
     | nil=>
       rw [hl] at hm
       have h1:=hm x (by simp)
       rcases c.argTypes.toList with _ | ⟨t,_ | ⟨t2,r⟩⟩ <;> first | rfl | (show lenR T t (e' x)=lenR T t (e x);rw [h1])
  all_goals
   have:c.args.toList.map e'=c.args.toList.map e:=List.map_congr_left hm
   simp only [this]
 case slice t x lo hi mx=>
  have h1:e' x=e x:=he x (by simp)
  have hlo:∀ y,lo=some y→e' y=e y:=fun y hy=>he y (by simp [hy])
  have hhi:∀ y,hi=some y→e' y=e y:=fun y hy=>he y (by simp [hy])
  have hmo:∀ q:Option Operand,(∀ y,q=some y→e' y=e y)→q.map e'=q.map e∧Z2S e' q=Z2S e q:=fun q hq=>by
   cases q with
   | none=>exact ⟨rfl,rfl⟩
   | some y=>simp [Z2S,hq y rfl]
  cases mx with
  | some mx=>simp only [h1,(hmo lo hlo).1,(hmo hi hhi).1,(hmo lo hlo).2,(hmo hi hhi).2,he mx (by simp)]
  | none=>
    have hv:∀ l g,Z54 T h' t (e x) l g=Z54 T h t (e x) l g:=fun l g=>by
     unfold Z54
     split
     ·rename_i k ver off len dc hx
      unfold Z7C
      rw [hh k (by simp [Z2B,hx])]
     ·rfl
    simp only [h1,(hmo lo hlo).1,(hmo hi hhi).1,(hmo lo hlo).2,(hmo hi hhi).2,hv]
 case unOp u t x=>
  have h1:e' x=e x:=he x (by simp)
  cases u <;> first | rfl | (simp only [h1];done) | (rw [h1])
 case binOp op t x y z=>rw [he x (by simp),he y (by simp)]
 case indexAddr t x ix=>rw [he x (by simp),he ix (by simp)]
 case index t x ix=>rw [he x (by simp),he ix (by simp)]
 all_goals rw [he _ (by simp)]
section
section
variable {P:Program} {T:Tb} {ops:Array Oper} {o:Oper}
theorem ZQ {t:List SV} {d:Option Nat} {v:SV} (h:∀ d',d=some d'→Z1n d' t=t):putF t d v=setT t d v:=by
 cases d with
 | none=>rfl
 | some d=>
   have:=h d rfl
   unfold Z1n at this
   simp only [putF,setF,setT,this]
theorem Z66 {S:St} {p:List (Nat×Bool)} (hg:Zt ops S.t o=some p) {x:SV} {rs rb:List Nat} (hrs:∀ n ∈ p.map (·.1),n ∈ rs)
 (hv:∀ S':St,Like rs S.t S'.t→(∀ k ∈ rb,S'.h[k]?=S.h[k]?)→∀ C E m a w,Rep E C m S' a w→GV S'.t p true→∃ v,(execOp a.eval o).run P w=.ok (.value v) w∧(x=.dead∨Gd m (vers S'.h) x∧v=den E x)) :
 Yld P ops o ⟨o.dst,Zz p o.dst x,rs,rb,[]⟩ S:=by
 refine ⟨fun S' _ _ h1 h2 h3 C E m a w hr=>?_⟩
 have hl:Like rs S.t S'.t:=h1
 have h:=(OpC.value (P:=P) (T:=fun _=>none) (ops:=ops) (o:=o) (K:=fun S''=>S''=⟨putF S'.t o.dst (Zz p o.dst x),S'.h⟩) (Z14 hg fun n hn=>hl n (hrs n hn)) (fun E C=>hv S' hl h2 C E) rfl).out C E m a w hr
 unfold opW at h ⊢
 have next:∀ a' w',(∃ E' m' S'',S''=(⟨putF S'.t o.dst (Zz p o.dst x),S'.h⟩:St)∧Ext E m (vers S'.h) E' m' (vers S''.h)∧Rep E' C m' S'' a' w') →
  ∃ E' m',Ext E m (vers S'.h) E' m' (vers ((⟨o.dst,Zz p o.dst x,rs,rb,[]⟩:Eff).put S').h)∧Rep E' C m' ((⟨o.dst,Zz p o.dst x,rs,rb,[]⟩:Eff).put S') a' w':=by
  rintro a' w' ⟨E',m',S'',rfl,k1,k2⟩
  rw [ZQ h3] at k2
  exact ⟨E',m',k1,k2⟩
 split
 ·rename_i hw
  rw [if_pos hw] at h
  exact ZU h next
 ·rename_i hw
  rw [if_neg hw] at h
  exact next _ _ h
theorem Z3H {S:St} (hg:Zt ops S.t o=some []) {B:SB} {mk:Nat→SV} {n:Nat} {rs:List Nat} (hn:S.h[n]?=some .fresh) (hv:∀ S':St,Like rs S.t S'.t→Makes P o S' B mk):Yld P ops o ⟨o.dst,mk n,rs,[n],[(n,B)]⟩ S:=by
 refine ⟨fun S' _ _ h1 h2 h3 C E m a w hr=>?_⟩
 have hm:=hv S' h1
 have hn':S'.h[n]?=some .fresh:=by rw [h2 n (by simp)];exact hn
 obtain ⟨ob,v,hrun,hh,hval⟩:=hm.run C E m a w hr
 have hgn:=Z1f hg
 obtain ⟨E',e1,e2,e3⟩:=hr.rel.allocAt hn' B ob hm.lim (fun E' V'=>hh n E' V')
 unfold opW
 rw [show Region.wanted o (yielded ops a.tmps)=true by simp [Region.wanted,hgn],if_pos rfl]
 simp only [Oper.wp,hrun,Oper.upon]
 refine ⟨E',m,e2,?_⟩
 have hlen:n < S'.h.length:=(List.getElem?_eq_some_iff.1 hn').1
 have hg1:Gd m (vers (S'.h.set n B)) (mk n):=hm.ok _ _ _ (Vle_iff.2 ⟨B,by simp [List.getElem?_set,hlen],by rw [hm.lim];omega⟩)
 have:=(hr.up e2 e3).put o.dst (x:=mk n) (v:=v) fun d hd=>by rw [hval n E' e1];exact Z1p hg1
 rw [ZQ h3] at this
 exact this
theorem ZgM {u:SV} {x:Ix} {r:List Ix} {new:List SV} {rec:List SV→(List SV→Prop)→Prop} {K:SV→Prop} (hrec:∀ e K,rec e K→∃ s,K s∧∀ K',K' s→rec e K') (h:updU u x r new rec K):∃ s,K s∧∀ K',K' s→updU u x r new rec K':=by
 cases u <;> simp only [updU] at h ⊢ <;> try exact h.elim
 ·rename_i k n xs
  split at h <;> try exact h.elim
  rename_i k' v
  cases hc:(k == k'&&Nat.beq x.sz 1&&Nat.beq x.sub 0) <;> rw [hc] at h <;> simp only [cond_true,cond_false] at h ⊢ <;> try exact h.elim
  cases hx:x.c <;> rw [hx] at h <;> simp only [cond_true,cond_false] at h ⊢
  ·exact ⟨_,h.k,fun K' hK=>⟨h.ob,hK⟩⟩
  ·cases hb:Nat.blt x.i n <;> rw [hb] at h <;> simp only [cond_true,cond_false] at h ⊢
   ·exact ⟨_,h,fun K' hK=>hK⟩
 ·rename_i N α d n enc xs
  cases hc:Nat.beq x.sz n <;> rw [hc] at h <;> simp only [cond_true,cond_false] at h ⊢ <;> try exact h.elim
  cases hx:x.c <;> rw [hx] at h <;> simp only [cond_true,cond_false] at h ⊢
  ·obtain ⟨e,⟨y,hy,hK⟩,hr⟩:=hrec _ _ h.k
   exact ⟨_,hK,fun K' hK'=>⟨h.ob,hr _ ⟨y,hy,hK'⟩⟩⟩
  ·cases hb:Nat.blt x.i N <;> rw [hb] at h <;> simp only [cond_true,cond_false] at h ⊢ <;> try exact h.elim
   obtain ⟨e,⟨y,hy,hK⟩,hr⟩:=hrec _ _ h
   exact ⟨_,hK,fun K' hK'=>hr _ ⟨y,hy,hK'⟩⟩
theorem Zc4 {new:List SV}:∀ (ix:List Ix) (segs:List SV) (off:Nat) (K:List SV→Prop),updK segs off ix new K→∃ s,K s∧∀ K',K' s→updK segs off ix new K'
 | [],segs,off,K,h=>by
   simp only [updK] at h ⊢
   cases hs:Z1i segs off new with
   | none=>rw [hs] at h;exact h.elim
   | some s=>rw [hs] at h;exact ⟨s,h,fun K' hK=>hK⟩
 | x::r,segs,off,K,h=>by
   simp only [updK] at h ⊢
   cases ht:Z17 segs off with
   | none=>rw [ht] at h;exact h.elim
   | some pre=>
     cases hd:ZI segs off with
     | none=>rw [ht,hd] at h;exact h.elim
     | some l=>
       cases l with
       | nil=>rw [ht,hd] at h;exact h.elim
       | cons u post=>
         rw [ht,hd] at h
         simp only at h ⊢
         obtain ⟨s,h1,h2⟩:=ZgM (fun e K hk=>Zc4 r e x.sub K hk) h
         exact ⟨_,h1,fun K' hK=>h2 _ hK⟩
theorem Z9e (hT:TabOk P T) {S:St} (hg:Zt ops S.t o=some []) {ty:TypeId} {x v:Operand} (hop:o.op=.store ty x v) {ti:TI} (ht:T ty=some ti) {k ver off:Nat} {ix:List Ix} (hx:evG [] S.t x=.ptr k ver off ix)
 {ty':TypeId} {segs segs':List SV} {ver':Nat} {gr:Nat} (hb:S.h.getD k .fresh=.mem ty' segs ver' gr) (hc:(Zs (evG [] S.t v)&&Nat.beq (wdL (Zj (evG [] S.t v))) ti.size)=true) (hgr:gr≠0→ver=ver')
 (hu:∀ K',K' segs'→updK segs off ix (Zj (evG [] S.t v)) K'):Yld P ops o ⟨o.dst,.dead,Zc o [],[k],[(k,.mem ty' segs' ver' gr)]⟩ S:=by
 refine ⟨fun S' _ _ h1 h2 h3 C E m a w hr=>?_⟩
 have hl:Like (Zc o []) S.t S'.t:=h1
 have hops:=ZO hl
 rw [hop] at hops
 have ex:evG [] S'.t x=.ptr k ver off ix:=by rw [ZL (hops x (by simp [Op.operands])),hx]
 have ev:evG [] S'.t v=evG [] S.t v:=ZL (hops v (by simp [Op.operands]))
 have eb:S'.h.getD k .fresh=.mem ty' segs ver' gr:=by simp only [List.getD_eq_getElem?_getD,h2 k (by simp)];simpa only [List.getD_eq_getElem?_getD] using hb
 have hsop:sop P T ops o (fun S''=>S''=⟨putF S'.t o.dst .dead,S'.h.set k (.mem ty' segs' ver' gr)⟩) S':=by
  obtain ⟨t',h'⟩:=S'
  unfold sop
  simp only [Z14 hg (Z1j hl),hop,ht,ex,eb,Z1e,ev,Z2K,hc,cond_true,Z30,ZV]
  cases gr with
  | zero=>exact hu _ rfl
  | succ gr=>exact ⟨hgr (by omega),hu _ rfl⟩
 have h:=(Z4y hT hsop).out C E m a w hr
 unfold opW at h ⊢
 have next:∀ a' w',(∃ E' m' S'',S''=(⟨putF S'.t o.dst .dead,S'.h.set k (.mem ty' segs' ver' gr)⟩:St)∧Ext E m (vers S'.h) E' m' (vers S''.h)∧Rep E' C m' S'' a' w') →
  ∃ E' m',Ext E m (vers S'.h) E' m' (vers ((⟨o.dst,.dead,Zc o [],[k],[(k,.mem ty' segs' ver' gr)]⟩:Eff).put S').h)∧Rep E' C m' ((⟨o.dst,.dead,Zc o [],[k],[(k,.mem ty' segs' ver' gr)]⟩:Eff).put S') a' w':=by
  rintro a' w' ⟨E',m',S'',rfl,k1,k2⟩
  rw [ZQ h3] at k2
  exact ⟨E',m',k1,k2⟩
 split
 ·rename_i hw
  rw [if_pos hw] at h
  exact ZU h next
 ·rename_i hw
  rw [if_neg hw] at h
  exact next _ _ h
theorem Z8G {S:St} {B:SB} {x:SV} {rs:List Nat} {n:Nat} {K:Eff→Nat→St→Prop} (h:newD S.t S.h o.dst B x rs n K):S.h[n]?=some .fresh∧K ⟨o.dst,x,rs,[n],[(n,B)]⟩ (n+1) ((⟨o.dst,x,rs,[n],[(n,B)]⟩:Eff).put S):=by
 unfold newD at h
 cases hf:S.h.getD n (.gone 0) <;> rw [hf] at h <;> try exact h.elim
 simp only [Z30,Z2C] at h
 refine ⟨?_,h⟩
 simp only [List.getD_eq_getElem?_getD] at hf
 cases hs:S.h[n]? with
 | none=>rw [hs] at hf;simp at hf
 | some y=>rw [hs] at hf;simp at hf;rw [hf]
theorem Z9f (hT:TabOk P T) {n:Nat} {K:Eff→Nat→St→Prop} {S:St} (h:dop P T ops o n K S):OpD P ops o n K S:=by
 obtain ⟨t,hh⟩:=S
 unfold dop at h
 simp only at h
 cases hg:Zt ops t o with
 | none=>rw [hg] at h;exact h
 | some p=>
   rw [hg] at h
   simp only at h
   have val:∀ {x:SV} {rb:List Nat},putD t hh o.dst (Zz p o.dst x) (Zc o p) rb n K →
    (∀ S':St,Like (Zc o p) t S'.t→(∀ k ∈ rb,S'.h[k]?=hh[k]?)→∀ C E m a w,Rep E C m S' a w→GV S'.t p true→∃ v,(execOp a.eval o).run P w=.ok (.value v) w∧(x=.dead∨Gd m (vers S'.h) x∧v=den E x)) →
    OpD P ops o n K ⟨t,hh⟩:=by
    intro x rb hk hv
    unfold putD at hk
    simp only [Z1e,Z2C] at hk
    refine ⟨⟨⟨o.dst,Zz p o.dst x,hang (Zz p o.dst x)++Zc o p,rb,[]⟩,n,rfl,Z66 hg (fun n hn=>List.mem_append_right _ (List.mem_append_right _ hn)) (fun S' hl=>hv S' fun n hn=>hl n (List.mem_append_right _ hn)),fun n hn=>List.mem_append_left _ hn,fun k hk=>by simp [wN] at hk,hk⟩⟩
   split at h
   ·
    rename_i p' c x y hop
    split at h
    ·rename_i r hr
     refine val h (fun S' hl _ C E m a w hrep hp=>?_)
     have hops:=ZO hl
     rw [hop] at hops
     have hr':=(ZfG (hops c (by simp [Op.operands])) (hops x (by simp [Op.operands])) (hops y (by simp [Op.operands]))).trans hr
     obtain ⟨b,h1,h2,h3⟩:=Zau hrep hp hr'
     refine ⟨den E r,?_,.inr ⟨h3,rfl⟩⟩
     simp only [execOp,hop,h1,asBool,Sem.run_bind,Sem.run_pure,Result.andThen_ok]
     rw [← h2]
    ·exact h
   ·
    rename_i ty x hop
    rw [Z1e] at h
    cases hc:Zs (evG [] t x) with
    | false=>simp [hc] at h
    | true=>
      simp only [hc,cond_true] at h
      obtain ⟨h1,h2⟩:=Z8G (S:=⟨t,hh⟩) h
      refine ⟨⟨_,_,rfl,Z3H (mk:=fun k=>.ptr k 1 0 []) hg h1 (fun S' hl=>?_),fun n hn=>by simp [hang] at hn,fun k hk=>by simpa [wN] using hk,h2⟩⟩
      have hops:=ZO hl
      rw [hop] at hops
      have e:evG [] S'.t x=evG [] t x:=ZL (hops x (by simp [Op.operands]))
      rw [← e]
      exact Z9d hop (by rw [e];exact hc)
   ·
    rename_i ty hop
    cases ht:T ty with
    | none=>simp [ht] at h
    | some ti=>
      simp only [ht] at h
      obtain ⟨h1,h2⟩:=Z8G (S:=⟨t,hh⟩) h
      exact ⟨⟨_,_,rfl,Z3H (mk:=fun k=>.ptr k 1 0 []) hg h1 (fun S' hl=>Z6Z hT hop ht),fun n hn=>by simp [hang] at hn,fun k hk=>by simpa [wN] using hk,h2⟩⟩
   ·
    rename_i ty len parts hop
    cases ht:T ty with
    | none=>simp [ht] at h
    | some ti=>
      simp only [ht] at h
      cases hk:ti.k <;> rw [hk] at h <;> simp only at h <;> try exact h.elim
      rename_i e
      cases hte:T e with
      | none=>simp [hte] at h
      | some te=>
        simp only [hte] at h
        cases hbn:(!(Nat.ble (len * te.size) 16777216)||Nat.beq te.size 0) with
        | true=>rw [hbn] at h;exact h.elim
        | false=>
          rw [hbn] at h
          simp only [cond_false] at h
          cases hb:ZZ te.size (parts.toList.map fun q=>(q.1,evG [] t q.2)) (ZF len te.zero) with
          | none=>simp [hb] at h
          | some segs=>
            simp only [hb] at h
            obtain ⟨h1,h2⟩:=Z8G (S:=⟨t,hh⟩) h
            refine ⟨⟨_,_,rfl,Z3H (mk:=fun k=>.sl k 1 0 len (some len) 0) hg h1 (fun S' hl=>?_),fun n hn=>by simp [hang] at hn,fun k hk=>by simpa [wN] using hk,h2⟩⟩
            have hops:=ZO hl
            rw [hop] at hops
            refine Z4h hT hop ht hk hte hbn ?_
            rw [← hb]
            congr 1
            apply List.map_congr_left
            intro q hq
            rw [ZL (hops q.2 (by simp [Op.operands];exact ⟨q.1,by simpa using hq⟩))]
   ·
    rename_i ty x v hop
    cases ht:T ty with
    | none=>rw [ht] at h;exact h
    | some ti=>
      rw [ht] at h
      cases hx:evG [] t x <;> rw [hx] at h <;> simp only at h <;> try exact h
      rename_i k ver off ix
      cases hb:hh.getD k .fresh <;> rw [hb] at h <;> simp only at h <;> try exact h.elim
      rename_i ty' segs ver' gr
      rw [Z1e,Z2K] at h
      cases hc:(Zs (evG [] t v)&&Nat.beq (wdL (Zj (evG [] t v))) ti.size) with
      | false=>rw [hc] at h;exact h.elim
      | true=>
        rw [hc] at h
        simp only [cond_true] at h
        have key:(gr≠0→ver=ver')∧updK segs off ix (Zj (evG [] t v)) (fun segs'=>K ⟨o.dst,.dead,Zc o [],[k],[(k,.mem ty' segs' ver' gr)]⟩ n ⟨setT t o.dst .dead,hh.set k (.mem ty' segs' ver' gr)⟩):=by
         cases gr with
         | succ gr=>exact ⟨fun _=>h.ob,by simpa only [Z30,Z2C] using h.k⟩
         | zero=>simp only [Z30,Z2C] at h;exact ⟨(fun e=>absurd rfl e),h⟩
        obtain ⟨segs',k1,k2⟩:=Zc4 ix segs off _ key.2
        exact ⟨⟨_,_,rfl,Z9e hT (S:=⟨t,hh⟩) hg hop ht hx hb hc key.1 k2,fun n hn=>by simp [hang] at hn,fun k hk=>by simpa [wN] using hk,k1⟩⟩
   ·
    rename_i p op' p2 hn1 hn2 hn3 hn4 hn5
    have hpu:∀ S':St,Like (Zc o p) t S'.t→(∀ k ∈ Z2B (evG p t) o.op,S'.h[k]?=hh[k]?)→Zx T S'.h (evG p S'.t) o.op=Zx T hh (evG p t) o.op:=by
     intro S' hl hb
     refine Zaz (fun x hx=>ZL (ZO hl x hx)) fun k hk=>?_
     simp only [List.getD_eq_getElem?_getD]
     rw [hb k hk]
    cases hp:Zx T hh (evG p t) o.op with
    | no=>rw [hp] at h;exact h
    | v x=>rw [hp] at h;exact val h (fun S' hl hb C E m a w hr hgv=>Z4f hT hr.rel (hr.evs hgv) o (by rw [hpu S' hl hb,hp];simp))
    | ob pr x=>rw [hp] at h;exact val h.k (fun S' hl hb C E m a w hr hgv=>Z4f hT hr.rel (hr.evs hgv) o (by rw [hpu S' hl hb,hp];simp;exact h.ob (by rw [← Z6y (Z1j hl)];exact Z7N hgv)))
end
end
theorem Z9g {acc:List Nat} {i:Nat}:∀ {ps:List Nat},(ancB acc ps).testBit i=true→∃ p ∈ ps,i=p∨(acc.getD p 0).testBit i=true
 | [],h=>by simp [ancB] at h
 | p::r,h=>by
   simp only [ancB,Nat.testBit_or,Bool.or_eq_true] at h
   rcases h with (h | h) | h
   ·refine ⟨p,by simp,.inl ?_⟩
    rw [Nat.one_shiftLeft,Nat.testBit_two_pow] at h
    have h':p=i:=by simpa using h
    exact h'.symm
   ·exact ⟨p,by simp,.inr h⟩
   ·obtain ⟨q,hq,h⟩:=Z9g h
    exact ⟨q,List.mem_cons_of_mem _ hq,h⟩
theorem Z3I {ops:Array Oper}:∀ (l:List Oper) (acc:List Nat),(∀ x o,l[x]?=some o→ops[acc.length+x]?=some o)→(∀ j i,(acc.getD j 0).testBit i=true→AncR ops i j)→∀ j i,((ancs l acc).getD j 0).testBit i=true→AncR ops i j
 | [],acc,_,hg=>hg
 | o::r,acc,hl,hg=>by
   simp only [ancs]
   refine Z3I r (acc++[ancB acc (par o)]) (fun x o' hx=>by have:=hl (x+1) o' (by simpa using hx);simpa [Nat.add_assoc,Nat.add_comm 1 x] using this) (fun j i hb=>?_)
   by_cases hj:j < acc.length
   ·simp only [List.getD_eq_getElem?_getD,List.getElem?_append_left hj] at hb
    exact hg j i (by simpa only [List.getD_eq_getElem?_getD] using hb)
   ·by_cases hj':j=acc.length
    ·subst hj'
     simp only [List.getD_eq_getElem?_getD,List.getElem?_concat_length,Option.getD_some] at hb
     obtain ⟨p,hp,h⟩:=Z9g hb
     have ho:=hl 0 o rfl
     intro L hc hpar
     have hLp:=hpar o (by simpa using ho) p hp
     rcases h with rfl | h
     ·exact hLp
     ·exact hg p i h L hc (fun o' ho' q hq=>hc p o' hLp ho' q hq)
    ·have:(acc++[ancB acc (par o)])[j]?=none:=List.getElem?_eq_none (by simp;omega)
     simp [List.getD_eq_getElem?_getD,this] at hb
theorem Z3V:∀ {l:List Oper} {i:Nat},Z9V l i=true→∀ x o,l[x]?=some o→∀ p ∈ par o,p < i+x
 | [],i,_,x,o,hx=>by simp at hx
 | o::r,i,h,x,o',hx=>by
   simp only [Z9V,Bool.and_eq_true] at h
   intro p hp
   cases x with
   | zero=>
     simp at hx;subst hx
     have:=List.all_eq_true.1 h.1 p hp
     simp [Nat.blt] at this
     omega
   | succ x=>
     have:=Z3V h.2 x o' (by simpa using hx) p hp
     omega
theorem Z9h {a:Nat} {f:Eff}:∀ {l:List Eff} {i:Nat},chkJ a f l i=true→∀ x e,l[x]?=some e→(Z1d e f=true→a.testBit (i+x)=true)∧hasO f.d (hang e.v)=false
 | [],i,_,x,e,hx=>by simp at hx
 | g::r,i,h,x,e,hx=>by
   simp only [chkJ,Bool.and_eq_true,Bool.or_eq_true,Bool.not_eq_true'] at h
   cases x with
   | zero=>
     simp at hx;subst hx
     refine ⟨fun hc=>?_,h.1.2⟩
     rcases h.1.1 with h1 | h1
     ·rw [hc] at h1;cases h1
     ·exact h1
   | succ x=>
     have:=Z9h h.2 x e (by simpa using hx)
     rwa [show i+1+x=i+(x+1) by omega] at this
theorem Z3z {as:List Nat}:∀ {rest pre:List Eff},Z65 as rest pre pre.length=true→∀ a b e f,a < b→pre.length≤b→(pre++rest)[a]?=some e→(pre++rest)[b]?=some f→(Z1d e f=true→(as.getD b 0).testBit a=true)∧hasO f.d (hang e.v)=false
 | [],pre,_,a,b,e,f,hab,hb,he,hf=>by
   rw [List.append_nil] at hf
   have:=(List.getElem?_eq_some_iff.1 hf).1
   omega
 | g::r,pre,h,a,b,e,f,hab,hb,he,hf=>by
   simp only [Z65,Bool.and_eq_true] at h
   by_cases hbp:b=pre.length
   ·subst hbp
    rw [List.getElem?_append_right (Nat.le_refl _)] at hf
    simp at hf;subst hf
    rw [List.getElem?_append_left hab] at he
    have:=Z9h h.1 a e he
    simpa using this
   ·have h2:Z65 as r (pre++[g]) (pre++[g]).length=true:=by simpa using h.2
    exact Z3z h2 a b e f hab (by simp;omega) (by simpa using he) (by simpa using hf)
theorem Z22:∀ (es fs:List Eff) (i:Nat) (L:Nat→Bool) (S:St),stL (es++fs) i L S=stL fs (i+es.length) L (stL es i L S)
 | [],fs,i,L,S=>by simp [stL]
 | e::r,fs,i,L,S=>by
   simp only [List.cons_append,stL,List.length_cons]
   rw [Z22 r fs (i+1) L _,show i+1+r.length=i+(r.length+1) by omega]
structure Pre (P:Program) (ops:Array Oper) (S0:St) (es:List Eff) (S:St):Prop where
 st:S=stL es 0 (fun _=>true) S0
 each:∀ i o e,ops[i]?=some o→es[i]?=some e→e.d=o.dst∧Yld P ops o e (stL es 0 (fun j=>decide (j < i)) S0)∧(∀ n ∈ hang e.v,n ∈ e.rs)∧(∀ k ∈ wN e.wb,k ∈ e.rb)
theorem Z7S {P:Program} {T:Tb} (hT:TabOk P T) {ops:Array Oper} {S0:St} (hcl:∀ (i:Nat) (o:Oper) (d:Nat),ops[i]?=some o→o.dst=some d→Z1n d S0.t=S0.t) :
 ∀ (l:List Oper) (n:Nat) (acc:List Eff) (K:St→Prop) (S:St),(∀ x:Nat,l[x]?=ops[acc.length+x]?)→acc.length+l.length=ops.size→Pre P ops S0 acc.reverse S→dreg P T ops l n acc K S→∃ es,Plan P ops es S0∧K (stL es 0 (fun _=>true) S0)
 | [],n,acc,K,S,hl,hsz,hp,h=>by
   have hlen:acc.length=ops.size:=by simpa using hsz
   refine ⟨acc.reverse,?_,by rw [← hp.st];exact h.k⟩
   have hck:=h.ob
   simp only [chk,Bool.and_eq_true] at hck
   have hca:=Z3z (pre:=[]) hck.2
   have has:=Z3I (ops:=ops) ops.toList [] (fun x o hx=>by simpa using hx) (fun j i hb=>by simp at hb)
   have get:∀ i e,acc.reverse[i]?=some e→∃ o,ops[i]?=some o:=fun i e he=>by
    have:=(List.getElem?_eq_some_iff.1 he).1
    exact ⟨ops[i]'(by simpa [hlen] using this),Array.getElem?_eq_getElem _⟩
   refine ⟨by simp [hlen],fun i o e ho he=>(hp.each i o e ho he).2.1,fun i o ho p hp'=>?_,fun i j e f hij he hf hcf=>?_,fun i j e f hij he hf=>(hca i j e f hij (by simp) (by simpa using he) (by simpa using hf)).2,fun i e he=>?_,fun i e d he hd=>?_,fun i e he=>?_⟩
   ·have:=Z3V hck.1 i o (by simpa using ho) p hp'
    omega
   ·exact has j i ((hca i j e f hij (by simp) (by simpa using he) (by simpa using hf)).1 hcf)
   ·obtain ⟨o,ho⟩:=get i e he
    exact (hp.each i o e ho he).2.2.1
   ·obtain ⟨o,ho⟩:=get i e he
    exact hcl i o d ho (by rw [← (hp.each i o e ho he).1];exact hd)
   ·obtain ⟨o,ho⟩:=get i e he
    exact (hp.each i o e ho he).2.2.2
 | o::r,n,acc,K,S,hl,hsz,hp,h=>by
   simp only [dreg] at h
   obtain ⟨e,n',h1,h2,h3,h4,h5⟩:=(Z9f hT h).out
   have ho:ops[acc.length]?=some o:=by have:=hl 0;simpa using this.symm
   refine Z7S hT hcl r n' (e::acc) K _ (fun x=>by have:=hl (x+1);simpa [Nat.add_assoc,Nat.add_comm 1 x] using this) (by simp at hsz ⊢;omega) ?_ h5
   have hst:=hp.st
   refine ⟨?_,fun i o' e' ho' he'=>?_⟩
   ·rw [List.reverse_cons,Z22,← hst];rfl
   ·rw [List.reverse_cons] at he'
    rw [List.reverse_cons,Z22]
    by_cases hi:i < acc.length
    ·rw [List.getElem?_append_left (by simpa using hi)] at he'
     have:=hp.each i o' e' ho' he'
     refine ⟨this.1,?_,this.2.2⟩
     have hf:decide (0+acc.reverse.length < i)=false:=by simp;omega
     simp only [stL,hf,cond_false]
     exact this.2.1
    ·have hi':i=acc.length:=by
      have:=(List.getElem?_eq_some_iff.1 he').1
      simp at this;omega
     subst hi'
     rw [List.getElem?_append_right (by simp)] at he'
     simp at he';subst he'
     rw [ho] at ho';cases ho'
     refine ⟨h1,?_,h3,h4⟩
     have hf:decide (0+acc.reverse.length < acc.length)=false:=by simp
     simp only [stL,hf,cond_false]
     rw [Z2z acc.reverse 0 (fun j=>decide (j < acc.length)) (fun _=>true) S0 (fun j hj=>by simp at hj ⊢;omega),← hst]
     exact h2
theorem meetsG_iff {ds:List Nat}:∀ {q:List (Nat×Bool)},Z2k ds q=true ↔ ∃ j,inG j q=true∧hasN j ds=true
 | []=>by simp [Z2k,inG]
 | (j,b)::r=>by
   simp only [Z2k,inG,Bool.or_eq_true,meetsG_iff (q:=r)]
   constructor
   ·rintro (h | ⟨i,h1,h2⟩)
    ·exact ⟨j,.inl (Nat.beq_refl j),h⟩
    ·exact ⟨i,.inr h1,h2⟩
   ·rintro ⟨i,h1 | h1,h2⟩
    ·have:=Nat.eq_of_beq_eq_true h1
     subst this;exact .inl h2
    ·exact .inr ⟨i,h1,h2⟩
theorem ZgN (ds:List Nat) (x:SV) (K:SV→Prop):Zax ds x K=K (clrG ds x):=by
 cases x <;> simp only [Zax,clrG]
 rename_i q y
 cases Z2k ds q <;> rfl
theorem Z8H (ds:List Nat):∀ (l:List SV) (K:List SV→Prop),clrK ds l K=K (l.map (clrG ds))
 | [],K=>rfl
 | x::l,K=>by simp only [clrK,ZgN,Z8H ds l,List.map_cons]
theorem GV_clr {t:List SV} {q:List (Nat×Bool)} {g:Bool} (h:GV t q g) (ds:List Nat) (hd:Z2k ds q=false):GV (t.map (clrG ds)) q g:=by
 refine Z4g h fun n y hn hy hf=>?_
 have hm:(t.map (clrG ds)).getD n .dead=clrG ds (t.getD n .dead):=by
  simp only [List.getD_eq_getElem?_getD,List.getElem?_map]
  cases t[n]? <;> rfl
 rw [hm,hy]
 rcases hf with ⟨v,rfl⟩ | ⟨q',v,rfl⟩
 ·rfl
 ·simp only [clrG]
  cases hi:Z2k ds q' with
  | false=>rfl
  | true=>
    obtain ⟨j,h1,h2⟩:=meetsG_iff.1 hi
    have h3:=ZcK h n q' v hn hy j h1
    rw [meetsG_iff.2 ⟨j,h3,h2⟩] at hd;cases hd
theorem SlotOk.clr {E m V t v x} (h:SlotOk E m V t v x) (ds:List Nat):SlotOk E m V (t.map (clrG ds)) v (clrG ds x):=by
 cases x <;> try exact h
 rename_i q z
 simp only [clrG]
 cases hi:Z2k ds q with
 | true=>exact trivial
 | false=>
   obtain ⟨g,hg,h1,h2⟩:=h
   exact ⟨g,GV_clr hg ds hi,h1,h2⟩
theorem Rep.clr {E C m S a w} (h:Rep E C m S a w) (ds:List Nat):Rep E C m ⟨S.t.map (clrG ds),S.h⟩ a w:=by
 refine ⟨by simp [h.sz],fun n x v hx hv=>?_,h.df,h.rel⟩
 simp only [List.getElem?_map] at hx
 cases hs:S.t[n]? with
 | none=>rw [hs] at hx;simp at hx
 | some y=>
   rw [hs] at hx;simp at hx;subst hx
   exact (h.sl n y v hs hv).clr ds
theorem ZaA {ds:List Nat} {d:Nat} (hd:hasN d ds=true) (t:List SV):Z1n d (t.map (clrG ds))=t.map (clrG ds):=by
 unfold Z1n
 rw [List.map_map]
 apply List.map_congr_left
 intro x hxm
 clear hxm
 simp only [Function.comp]
 cases x <;> try rfl
 rename_i q y
 simp only [clrG]
 cases hi:Z2k ds q with
 | true=>rfl
 | false=>
   simp only [cond_false,Z2t]
   cases hq:inG d q with
   | false=>rfl
   | true=>rw [meetsG_iff.2 ⟨d,hq,hd⟩] at hi;cases hi
theorem Z4V:∀ {l:List Oper} {x:Nat} {o:Oper} {d:Nat},l[x]?=some o→o.dst=some d→hasN d (Z1S l)=true
 | [],x,o,d,h,_=>by simp at h
 | p::r,0,o,d,h,hd=>by
   simp at h;subst h
   simp [Z1S,hd,hasN]
 | p::r,x+1,o,d,h,hd=>by
   have:=Z4V (l:=r) (x:=x) (by simpa using h) hd
   simp only [Z1S]
   cases p.dst with
   | none=>exact this
   | some e=>simp [hasN,this]
theorem Vle_pad {H:List SB} {n k v:Nat}:Vle (vers (H++List.replicate n .fresh)) k v ↔ Vle (vers H) k v:=by
 constructor
 ·intro h
  obtain ⟨B,hB,hl⟩:=Vle_iff.1 h
  by_cases hk:k < H.length
  ·rw [List.getElem?_append_left hk] at hB
   exact Vle_iff.2 ⟨B,hB,hl⟩
  ·rw [List.getElem?_append_right (by omega),List.getElem?_replicate] at hB
   split at hB
   ·cases hB;simp [SB.lim] at hl
   ·cases hB
 ·intro h
  rw [Z1O];exact Z3c h
theorem Z67 {E:Env} {H:List SB} {n k b:Nat} (h:Zk E (H++List.replicate n .fresh) k b):Zk E H k b:=by
 obtain ⟨B,hB,hk⟩:=h
 by_cases hl:k < H.length
 ·rw [List.getElem?_append_left hl] at hB
  exact ⟨B,hB,hk⟩
 ·rw [List.getElem?_append_right (by omega),List.getElem?_replicate] at hB
  split at hB
  ·cases hB;exact hk.elim
  ·cases hB
theorem Ext.pad (E:Env) (m:Mem) (H:List SB) (n:Nat):Ext E m (vers H) E m (vers (H++List.replicate n .fresh)):=⟨fun _ _ h=>h,fun _ _ h=>Vle_pad.2 h,fun _ _ _=>rfl⟩
theorem Rel.pad {E C m H w} (h:Rel E C m H w) (n:Nat):Rel E C m (H++List.replicate n .fresh) w:=by
 refine ⟨h.os,h.tape,h.output,h.im,h.fr,h.mf,fun k B hB=>?_,fun k v hv=>h.nn k v (Vle_pad.1 hv),fun k b hb=>h.sp k b (Z67 hb),fun j k b hj hk=>h.inj j k b (Z67 hj) (Z67 hk)⟩
 by_cases hl:k < H.length
 ·rw [List.getElem?_append_left hl] at hB
  exact (h.bl k B hB).mono (Ext.pad E m H n) (fun _ _=>rfl) (fun _ _=>rfl)
 ·rw [List.getElem?_append_right (by omega),List.getElem?_replicate] at hB
  split at hB
  ·cases hB;exact trivial
  ·cases hB
theorem WpC.dr {P:Program} {T:Tb} (hT:TabOk P T) (hm:P.follows .mixedOrders=true) (n:Nat) {id:Nat} {ops:Array Oper} {K:Exit→St→Prop} {S:St} (h:ZdI P T ops n (K .normal) S):WpC P (.region id ops true) K S:=by
 obtain ⟨t,hh⟩:=S
 unfold ZdI at h
 simp only [Z8H,Z47] at h
 refine ⟨fun C E m a w hr=>?_⟩
 obtain ⟨es,hp,hK⟩:=Z7S hT (S0:=⟨t.map (clrG (Z1S ops.toList)),hh++List.replicate n .fresh⟩) (fun i o d ho hd=>ZaA (Z4V (l:=ops.toList) (x:=i) (by simpa using ho) hd) t) ops.toList _ [] _ _ (fun x=>by simp) (by simp) ⟨rfl,fun i o e ho he=>by simp at he⟩ h
 have hr0:=hr.clr (Z1S ops.toList)
 have hr1:Rep E C m ⟨t.map (clrG (Z1S ops.toList)),hh++List.replicate n .fresh⟩ a w:=hr0.up (Ext.pad E m hh n) (hr0.rel.pad n)
 exact Zc3 hm hp hr1 fun E' m' a' w' k1 k2=>⟨E',m',_,hK,(Ext.pad E m hh n).trans k1,k2⟩
section
mutual
def nb (N:Nat):SV→Bool
 | .ptr k _ _ _=>Nat.blt k N
 | .sl k _ _ _ _ _=>Nat.blt k N
 | .map k=>Nat.blt k N
 | .arr _ _ _ _ _ _=>false
 | .fn _ caps=>nbL N caps
 | .iface _ x=>nb N x
 | .bm _ x=>nb N x
 | .agg cs=>nbL N cs
 | .tup vs=>nbL N vs
 | .grd _ _=>false
 | _=>true
def nbL (N:Nat):List SV→Bool
 | []=>true
 | x::r=>nb N x&&nbL N r
end
def Bnd (N:Nat) (x:SV):Prop:=
 match x with
 | .arr _ _ _ _ enc _=>∀ y,nbL N (enc y)=true
 | x=>nb N x=true
def BndL (N:Nat):List SV→Prop
 | []=>True
 | x::r=>Bnd N x∧BndL N r
def BndB (N:Nat):SB→Prop
 | .mem _ segs _ _=>BndL N segs
 | .mp kv _=>∀ p ∈ kv,nb N p.1=true∧nb N p.2=true
 | _=>True
def BndH (N:Nat):List SB→Prop
 | []=>True
 | B::r=>BndB N B∧BndH N r
section
variable {m:Mem} {V V':List Nat} {N:Nat} (hV:∀ k v,k < N→Vle V k v→Vle V' k v)
include hV
mutual
theorem nb_ok:∀ x:SV,nb N x=true→Ok m V x→Ok m V' x
 | .i _ _,_,_ | .b _,_,_ | .s _,_,_ | .raw _,_,_ | .nils,_,_ | .dead,_,_=>by simp [Ok]
 | .ptr k v _ _,hn,h=>by simp only [nb] at hn;simp only [Ok] at h ⊢;exact ⟨hV k v (by simp [Nat.blt] at hn;omega) h.1,h.2⟩
 | .sl k v _ _ _ _,hn,h=>by simp only [nb] at hn;simp only [Ok] at h ⊢;exact ⟨hV k v (by simp [Nat.blt] at hn;omega) h.1,h.2⟩
 | .map k,hn,h=>by simp only [nb] at hn;simp only [Ok] at h ⊢;exact hV k 1 (by simp [Nat.blt] at hn;omega) h
 | .arr _ _ _ _ _ _,hn,_ | .grd _ _,hn,_=>by simp [nb] at hn
 | .ipt _ _ _ _ _ _ _ _ _,_,h | .imm _ _ _ _ _ _ _,_,h | .ints _ _ _,_,h=>by simpa only [Ok] using h
 | .fn _ caps,hn,h=>by simp only [nb] at hn;simp only [Ok] at h ⊢;exact nb_okA caps hn h
 | .iface _ x,hn,h=>by simp only [nb] at hn;simp only [Ok] at h ⊢;exact ⟨nb_ok x hn h.1,h.2⟩
 | .bm _ x,hn,h=>by simp only [nb] at hn;simp only [Ok] at h ⊢;exact ⟨nb_ok x hn h.1,h.2⟩
 | .agg cs,hn,h=>by simp only [nb] at hn;simp only [Ok] at h ⊢;exact nb_okL cs hn h
 | .tup vs,hn,h=>by simp only [nb] at hn;simp only [Ok] at h ⊢;exact nb_okA vs hn h
theorem nb_okL:∀ l:List SV,nbL N l=true→OkL m V l→OkL m V' l
 | [],_,_=>by simp [OkL]
 | x::r,hn,h=>by
   simp only [nbL,Bool.and_eq_true] at hn
   simp only [OkL] at h ⊢
   exact ⟨⟨h.1.1,nb_ok x hn.1 h.1.2⟩,nb_okL r hn.2 h.2⟩
theorem nb_okA:∀ l:List SV,nbL N l=true→OkA m V l→OkA m V' l
 | [],_,_=>by simp [OkA]
 | x::r,hn,h=>by
   simp only [nbL,Bool.and_eq_true] at hn
   simp only [OkA] at h ⊢
   exact ⟨⟨h.1.1,nb_ok x hn.1 h.1.2⟩,nb_okA r hn.2 h.2⟩
end
theorem ZaB {x:SV} (hn:Bnd N x) (h:Ok m V x):Ok m V' x:=by
 cases x <;> try exact nb_ok hV _ hn h
 rename_i K α d n enc xs
 simp only [Bnd] at hn
 simp only [Ok] at h ⊢
 exact ⟨h.1,h.2.1,fun j hj=>nb_okL hV _ (hn _) (h.2.2 j hj)⟩
theorem Z8I:∀ {l:List SV},BndL N l→OkL m V l→OkL m V' l
 | [],_,_=>by simp [OkL]
 | x::r,hn,h=>by
   simp only [OkL] at h ⊢
   exact ⟨⟨h.1.1,ZaB hV hn.1 h.1.2⟩,Z8I hn.2 h.2⟩
theorem ZcN {E:Env} {w:World} {k:Nat} {B:SB} (hn:BndB N B) (h:Holds E m V w k B):Holds E m V' w k B:=by
 cases B with
 | mem t segs ver gr=>
   cases gr with
   | zero=>obtain ⟨h0,b,c,h1,h2,h3⟩:=h;exact ⟨h0,b,c,h1,h2,Z8I hV hn h3⟩
   | succ gr=>obtain ⟨h3,h4,h5⟩:=h;exact ⟨Z8I hV hn h3,h4,h5⟩
 | mp kv ver=>
   obtain ⟨h0,b,c,es,clock,h1,h2,h3,h4⟩:=h
   exact ⟨h0,b,c,es,clock,h1,h2,h3,fun p hp=>⟨⟨nb_ok hV _ (hn p hp).1 (h4 p hp).1.1,(h4 p hp).1.2⟩,nb_ok hV _ (hn p hp).2 (h4 p hp).2.1,(h4 p hp).2.2⟩⟩
 | gone v=>trivial
 | fresh=>trivial
end
theorem ZaC {N:Nat}:∀ {H:List SB},BndH N H→∀ (k:Nat) (B:SB),H[k]?=some B→BndB N B
 | [],_,k,B,h=>by simp at h
 | C::r,hn,0,B,h=>by simp at h;subst h;exact hn.1
 | C::r,hn,k+1,B,h=>ZaC hn.2 k B (by simpa using h)
theorem Z4i {H X:List SB} {k v:Nat} (hk:k < H.length) (h:Vle (vers (H++X)) k v):Vle (vers H) k v:=by
 obtain ⟨B,hB,hl⟩:=Vle_iff.1 h
 rw [List.getElem?_append_left hk] at hB
 exact Vle_iff.2 ⟨B,hB,hl⟩
theorem Z2D {E:Env} {H X:List SB} {k b:Nat} (h:Zk E H k b):Zk E (H++X) k b:=by
 obtain ⟨B,hB,hk⟩:=h
 exact ⟨B,by rw [List.getElem?_append_left (List.getElem?_eq_some_iff.1 hB).1];exact hB,hk⟩
theorem Rel.drop {E C m H X w} (h:Rel E C m (H++X) w) (hb:BndH H.length H):Rel E C m H w:=by
 refine ⟨h.os,h.tape,h.output,h.im,h.fr,h.mf,fun k B hB=>?_,fun k v hv=>h.nn k v (by rw [Z1O];exact Z3c hv),fun k b hk=>h.sp k b (Z2D hk),fun j k b hj hk=>h.inj j k b (Z2D hj) (Z2D hk)⟩
 have hk:=(List.getElem?_eq_some_iff.1 hB).1
 have h1:=h.bl k B (by rw [List.getElem?_append_left hk];exact hB)
 exact ZcN (fun k v hk=>Z4i hk) (ZaC hb k B hB) h1
theorem Cp.trim {X:List Value→World→(Value→World→Prop)→Prop} (hX:Z2A X) {args H K K'} (h:Cp X args H K)
 (hk:∀ r H1,K r H1→∃ H2 Y,H1=H2++Y∧H.length≤H2.length∧BndH H2.length H2∧Bnd H2.length r∧K' r H2):Cp X args H K':=by
 refine ⟨fun C E m w hr ha=>hX _ _ _ _ (h.out C E m w hr ha) ?_⟩
 rintro v w' ⟨r,H1,E',m',h1,h2,h3,h4,h5⟩
 obtain ⟨H2,Y,rfl,k1,k2,k3,k4⟩:=hk r H1 h2
 refine ⟨r,H2,E',m',h1,k4,⟨ZaB (fun k v hk=>Z4i hk) k3 h3.1,h3.2⟩,⟨h4.mm,fun k v hv=>?_,h4.ee⟩,h5.drop k2⟩
 have hk:k < H.length:=by have:=Z5a hv;simpa [vers] using this
 exact Z4i (by omega) (h4.vv k v hv)
def tb (m n:Nat):Bool:=Nat.beq (Nat.land (Nat.shiftRight m n) 1) 1
def tbG (mk:Nat):List (Nat×Bool)→Bool
 | []=>false
 | (j,_)::r=>tb mk j||tbG mk r
def ZaD (mk n:Nat) (x:SV) (K:SV→Prop):Prop:=
 bif tb mk n then K .dead else match x with
 | .grd q y=>bif tbG mk q then K .dead else K (.grd q y)
 | x=>K x
def Z2f (mk n:Nat) (x:SV):SV:=
 bif tb mk n then .dead else match x with
 | .grd q y=>bif tbG mk q then .dead else .grd q y
 | x=>x
def Z1K (mk:Nat):List SV→Nat→List SV
 | [],_=>[]
 | x::r,n=>Z2f mk n x::Z1K mk r (n+1)
def Z9W (mk:Nat):List SV→Nat→(List SV→Prop)→Prop
 | [],_,K=>K []
 | x::r,n,K=>ZaD mk n x fun x=>Z9W mk r (n+1) fun l=>K (x::l)
def Z1T:List SV→List (Nat×SV)→List SV
 | t,[]=>t
 | t,(n,x)::r=>Z1T (t.set n x) r
def Z6z:List SV→List (Nat×SV)→(List SV→Prop)→Prop
 | t,[],K=>K t
 | t,(n,x)::r,K=>Z2U x fun x=>setP t n x fun t=>Z6z t r K
theorem ZdJ (mk n:Nat) (x:SV) (K:SV→Prop):ZaD mk n x K=K (Z2f mk n x):=by
 unfold ZaD Z2f
 cases tb mk n
 ·simp only [cond_false]
  cases x <;> simp only
  rename_i q y
  cases tbG mk q <;> rfl
 ·rfl
theorem ZaE (mk:Nat):∀ (l:List SV) (n:Nat) (K:List SV→Prop),Z9W mk l n K=K (Z1K mk l n)
 | [],n,K=>rfl
 | x::l,n,K=>by simp only [Z9W,ZdJ,ZaE mk l,Z1K]
theorem Z7T:∀ (l:List (Nat×SV)) (t:List SV) (K:List SV→Prop),Z6z t l K=K (Z1T t l)
 | [],t,K=>rfl
 | (n,x)::r,t,K=>by simp only [Z6z,Z1e,Z8F,Z7T r,Z1T]
theorem Z4A {mk:Nat}:∀ {l:List SV} {n i:Nat},(Z1K mk l n)[i]?=(l[i]?).map (Z2f mk (n+i))
 | [],n,i=>by simp [Z1K]
 | x::l,n,0=>by simp [Z1K]
 | x::l,n,i+1=>by simp only [Z1K,List.getElem?_cons_succ,Z4A (l:=l)];rw [show n+1+i=n+(i+1) by omega]
theorem Z4j {mk:Nat}:∀ {l:List SV} {n:Nat},(Z1K mk l n).length=l.length
 | [],n=>rfl
 | x::l,n=>by simp [Z1K,Z4j (l:=l)]
theorem Z5V:∀ {l:List (Nat×SV)} {t:List SV},(Z1T t l).length=t.length
 | [],t=>rfl
 | (n,x)::r,t=>by simp [Z1T,Z5V (l:=r)]
def ZaF (mk N:Nat) (t:List SV):List (Nat×SV)→Prop
 | []=>True
 | (n,x)::r=>(t.getD n .dead=x∧(tb mk n&&live x)=true∧Bnd N x)∧ZaF mk N t r
theorem Z68 {n:Nat} {x:SV}:∀ {l:List (Nat×SV)} {t:List SV},(Z1T t l)[n]?=some x→t[n]?=some x∨(n,x) ∈ l
 | [],t,h=>.inl h
 | (i,y)::r,t,h=>by
   simp only [Z1T] at h
   rcases Z68 h with h | h
   ·by_cases hi:i=n
    ·subst hi
     rw [List.getElem?_set_self'] at h
     cases ht:t[i]? with
     | none=>rw [ht] at h;simp at h
     | some z=>rw [ht] at h;simp at h;subst h;exact .inr (by simp)
    ·rw [List.getElem?_set_ne hi] at h;exact .inl h
   ·exact .inr (List.mem_cons_of_mem _ h)
theorem Z69 {n:Nat}:∀ {l:List (Nat×SV)} {t:List SV},(∀ x,(n,x) ∉ l)→(Z1T t l)[n]?=t[n]?
 | [],t,_=>rfl
 | (i,y)::r,t,h=>by
   simp only [Z1T]
   rw [Z69 fun x hx=>h x (List.mem_cons_of_mem _ hx)]
   exact List.getElem?_set_ne (fun e=>h y (by subst e;simp))
theorem Z5C {mk N:Nat} {t:List SV}:∀ {l:List (Nat×SV)},ZaF mk N t l→∀ n x,(n,x) ∈ l→t.getD n .dead=x∧tb mk n=true∧live x=true∧Bnd N x
 | [],_,n,x,h=>by simp at h
 | (i,y)::r,hl,n,x,h=>by
   rcases List.mem_cons.1 h with h | h
   ·cases h
    have:=hl.1
    simp only [Bool.and_eq_true] at this
    exact ⟨this.1,this.2.1.1,this.2.1.2,this.2.2⟩
   ·exact Z5C hl.2 n x h
theorem tbG_iff {mk:Nat}:∀ {q:List (Nat×Bool)},tbG mk q=true ↔ ∃ j,inG j q=true∧tb mk j=true
 | []=>by simp [tbG,inG]
 | (j,b)::r=>by
   simp only [tbG,inG,Bool.or_eq_true,tbG_iff (q:=r)]
   constructor
   ·rintro (h | ⟨i,h1,h2⟩)
    ·exact ⟨j,.inl (Nat.beq_refl j),h⟩
    ·exact ⟨i,.inr h1,h2⟩
   ·rintro ⟨i,h1 | h1,h2⟩
    ·have:=Nat.eq_of_beq_eq_true h1
     subst this;exact .inl h2
    ·exact .inr ⟨i,h1,h2⟩
end
structure Into (mk:Nat) (t:List SV) (h:List SB) (l:List (Nat×SV)) (h':List SB) (S:St):Prop where
 rest:Z1K mk S.t 0=Z1K mk t 0
 ls:ZaF mk h'.length S.t l
 hx:∃ X,S.h=h'++X
 bd:BndH h'.length h'
 le:Nat.ble h.length h'.length=true
theorem ZbK {mk n:Nat} {x:SV} (h:tb mk n=false) (hq:∀ q y,x=.grd q y→tbG mk q=false):Z2f mk n x=x:=by
 unfold Z2f
 rw [h]
 simp only [cond_false]
 cases x <;> try rfl
 rename_i q y
 simp only [hq q y rfl,cond_false]
theorem Into.rep {mk:Nat} {t:List SV} {h:List SB} {l:List (Nat×SV)} {h':List SB} {S:St} (hi:Into mk t h l h' S) {E0:Env} {m0:Mem} (hent:∀ (n:Nat) (x:SV),t[n]?=some x→∃ v,SlotOk E0 m0 (vers h) t v x) {C E m a w} (hr:Rep E C m S a w) (hx:Ext E0 m0 (vers h) E m (vers S.h)) :
 Rep E C m ⟨Z1T (Z1K mk t 0) l,h'⟩ a w∧Ext E0 m0 (vers h) E m (vers h'):=by
 obtain ⟨X,hX⟩:=hi.hx
 have hle:=Nat.le_of_ble_eq_true hi.le
 have hx':Ext E0 m0 (vers h) E m (vers h'):=by
  refine ⟨hx.mm,fun k v hv=>?_,hx.ee⟩
  have hk:k < h.length:=by have:=Z5a hv;simpa [vers] using this
  have:=hx.vv k v hv
  rw [hX] at this
  exact Z4i (by omega) this
 have hlen:S.t.length=t.length:=by have:=congrArg List.length hi.rest;simpa [Z4j] using this
 have hget:∀ n,(S.t[n]?).map (Z2f mk n)=(t[n]?).map (Z2f mk n):=fun n=>by
  have:(Z1K mk S.t 0)[n]?=(Z1K mk t 0)[n]?:=by rw [hi.rest]
  simpa only [Z4A,Nat.zero_add] using this
 have hnl:∀ n,tb mk n=false→∀ x,(n,x) ∉ l:=fun n hn x hx=>by
  have:=(Z5C hi.ls n x hx).2.1
  rw [hn] at this;cases this
 have hval:∀ (k:Nat) (y:SV),Ok m0 (vers h) y→Ok m (vers h') y:=fun k y hy=>Ok.mono hx'.mm y _ _ hx'.vv hy
 have hgv:∀ q g,tbG mk q=false→GV S.t q g→GV (Z1T (Z1K mk t 0) l) q g∧GV t q g:=by
  intro q g hq hg
  have hn0:∀ d,inG d q=true→tb mk d=false:=fun d hd=>by
   cases hb:tb mk d with
   | false=>rfl
   | true=>rw [tbG_iff.2 ⟨d,hd,hb⟩] at hq;cases hq
  have key:∀ d y,inG d q=true→S.t.getD d .dead=y→((∃ v,y=.b v)∨∃ q' v,y=.grd q' (.b v))→∃ z,S.t[d]?=some y∧t[d]?=some z∧Z2f mk d z=y∧(z=y):=by
   intro d y hd hy hf
   have hys:S.t[d]?=some y:=by
    simp only [List.getD_eq_getElem?_getD] at hy
    cases hs:S.t[d]? with
    | none=>rw [hs] at hy;simp at hy;subst hy;rcases hf with ⟨v,hv⟩ | ⟨q',v,hv⟩ <;> cases hv
    | some u=>rw [hs] at hy;simp at hy;rw [hy]
   have hm:Z2f mk d y=y:=by
    refine ZbK (hn0 d hd) fun q' u hu=>?_
    rcases hf with ⟨v,hv⟩ | ⟨q2,v,hv⟩
    ·rw [hv] at hu;cases hu
    ·rw [hv] at hu;cases hu
     cases hb:tbG mk q' with
     | false=>rfl
     | true=>
       obtain ⟨j,h1,h2⟩:=tbG_iff.1 hb
       have:=ZcK hg d q' v hd (by rw [hy,hv]) j h1
       rw [hn0 j this] at h2;cases h2
   have h1:=hget d
   rw [hys] at h1
   cases ht:t[d]? with
   | none=>rw [ht] at h1;simp at h1
   | some z=>
     rw [ht] at h1
     simp only [Option.map_some,Option.some.injEq] at h1
     rw [hm] at h1
     refine ⟨z,hys,rfl,h1.symm,?_⟩
     unfold Z2f at h1
     rw [hn0 d hd] at h1
     simp only [cond_false] at h1
     cases z <;> try exact h1.symm
     rename_i q3 u3
     simp only at h1
     cases hb:tbG mk q3 with
     | false=>rw [hb] at h1;exact h1.symm
     | true=>rw [hb] at h1;simp only [cond_true] at h1;subst h1;rcases hf with ⟨v,hv⟩ | ⟨q',v,hv⟩ <;> cases hv
  constructor
  ·refine Z4g hg fun d y hd hy hf=>?_
   obtain ⟨z,h1,h2,h3,h4⟩:=key d y hd hy hf
   simp only [List.getD_eq_getElem?_getD]
   rw [Z69 (hnl d (hn0 d hd)),Z4A,h2]
   simp [h3]
  ·refine Z4g hg fun d y hd hy hf=>?_
   obtain ⟨z,h1,h2,h3,h4⟩:=key d y hd hy hf
   simp only [List.getD_eq_getElem?_getD,h2,h4]
   rfl
 refine ⟨⟨?_,?_,hr.df,?_⟩,hx'⟩
 ·show a.tmps.size=(Z1T (Z1K mk t 0) l).length
  rw [Z5V,Z4j,hr.sz,hlen]
 ·intro n x v hn hv
  rcases Z68 hn with hn | hn
  ·rw [Z4A] at hn
   cases ht:t[n]? with
   | none=>rw [ht] at hn;simp at hn
   | some z=>
     rw [ht] at hn
     simp only [Nat.zero_add,Option.map_some,Option.some.injEq] at hn
     cases htb:tb mk n with
     | true=>
       have:x=.dead:=by rw [← hn];unfold Z2f;rw [htb];rfl
       subst this;exact trivial
     | false=>
       obtain ⟨v0,hs0⟩:=hent n z ht
       have h1:=hget n
       rw [ht] at h1
       cases hs:S.t[n]? with
       | none=>rw [hs] at h1;simp at h1
       | some u=>
         rw [hs] at h1
         simp only [Option.map_some,Option.some.injEq] at h1
         have hsl:=hr.sl n u v hs hv
         rw [hn] at h1
         have hu:x=.dead∨(u=x∧z=x):=by
          unfold Z2f at h1 hn
          rw [htb] at h1 hn
          simp only [cond_false] at h1 hn
          cases u with
          | grd q y=>
            simp only at h1
            cases hb:tbG mk q with
            | true=>rw [hb] at h1;exact .inl h1.symm
            | false=>
              rw [hb] at h1
              simp only [cond_false] at h1
              right;refine ⟨h1,?_⟩
              cases z <;> try exact hn
              rename_i q3 u3
              simp only at hn
              cases hb3:tbG mk q3 with
              | true=>rw [hb3] at hn;simp only [cond_true] at hn;rw [← hn] at h1;cases h1
              | false=>rw [hb3] at hn;exact hn
          | _=>
            simp only at h1
            cases z <;> try exact .inr ⟨h1,hn⟩
            rename_i q3 u3
            simp only at hn
            cases hb3:tbG mk q3 with
            | true=>rw [hb3] at hn;exact .inl hn.symm
            | false=>rw [hb3] at hn;exact .inr ⟨h1,hn⟩
         rcases hu with rfl | ⟨rfl,rfl⟩
         ·exact trivial
         ·cases z with
          | dead=>exact trivial
          | grd q y=>
            have hq:tbG mk q=false:=by
             cases hb:tbG mk q with
             | false=>rfl
             | true=>unfold Z2f at hn;rw [htb] at hn;simp only [cond_false,hb,cond_true] at hn;cases hn
            obtain ⟨g,hg,k1,k2⟩:=hsl
            obtain ⟨g0,hg0,j1,j2⟩:=hs0
            obtain ⟨gv1,gv2⟩:=hgv q g hq hg
            have:g0=g:=hg0.fun gv2
            subst this
            exact ⟨g0,gv1,fun ht=>⟨hval 0 y (j1 ht).1,(k1 ht).2⟩,k2⟩
          | _=>exact ⟨hval 0 _ hs0.1,hsl.2⟩
  ·obtain ⟨e1,e2,e3,e4⟩:=Z5C hi.ls n x hn
   have hs:S.t[n]?=some x:=by
    simp only [List.getD_eq_getElem?_getD] at e1
    cases hs:S.t[n]? with
    | none=>rw [hs] at e1;simp at e1;subst e1;simp [live] at e3
    | some u=>rw [hs] at e1;simp at e1;rw [e1]
   have hsl:=hr.sl n x v hs hv
   obtain ⟨g1,g2⟩:=Z61 hsl e3
   have hok:Ok m (vers h') x:=ZaB (fun k v hk hv=>by rw [hX] at hv;exact Z4i hk hv) e4 g1.1
   rw [g2]
   exact Z1p ⟨hok,e3⟩
 ·have h2:=hr.rel
  rw [hX] at h2
  exact h2.drop hi.bd
theorem WpC.loop {P:Program} {T:Tb} (hT:TabOk P T) {c:Code} {K:Exit→St→Prop} {t:List SV} {h:List SB} {β:Type} (I:β→Prop) (sl:β→List (Nat×SV)) (hp:β→List SB) (μ:β→Nat) (b0:β) (mk:Nat)
 (i0:I b0) (h0:Into mk t h (sl b0) (hp b0) ⟨t,h⟩)
 (round:∀ b,I b→Z9W mk t 0 fun t1=>Z6z t1 (sl b) fun t2=>sx P T c (fun e S'=>match e with | .normal=>∃ b',I b'∧μ b' < μ b∧Into mk t h (sl b') (hp b') S' | e=>K e S') ⟨t2,hp b⟩) :
 WpC P (.loop c) K ⟨t,h⟩:=by
 refine ⟨fun C E m a w hr=>?_⟩
 have hent:∀ (n:Nat) (x:SV),t[n]?=some x→∃ v,SlotOk E m (vers h) t v x:=fun n x hn=>by
  have hlt:n < t.length:=(List.getElem?_eq_some_iff.1 hn).1
  exact ⟨_,hr.sl n x _ hn (Array.getElem?_eq_getElem (by rw [hr.sz];exact hlt))⟩
 refine wp_loop_ghost (fun n a w=>∃ b E' m',μ b=n∧I b∧Ext E m (vers h) E' m' (vers (hp b))∧Rep E' C m' ⟨Z1T (Z1K mk t 0) (sl b),hp b⟩ a w) (μ b0) ?_ ?_
 ·obtain ⟨r1,r2⟩:=h0.rep hent hr (.refl ..)
  exact ⟨b0,E,m,rfl,i0,r2,r1⟩
 ·rintro n a1 w1 ⟨b,E1,m1,rfl,hI,hx1,hr1⟩
  have h1:=round b hI
  rw [ZaE,Z7T] at h1
  refine wp_mono ((Z7d hT c _ _ h1).out C E1 m1 a1 w1 hr1) ?_
  rintro e a2 w2 ⟨E2,m2,S2,k1,k2,k3⟩
  cases e with
  | normal=>
    obtain ⟨b',j1,j2,j3⟩:=k1
    obtain ⟨r1,r2⟩:=j3.rep hent k3 (hx1.trans k2)
    exact ⟨μ b',j2,b',E2,m2,rfl,j1,r2,r1⟩
  | exit id=>exact ⟨E2,m2,S2,k1,hx1.trans k2,k3⟩
  | goto l=>exact ⟨E2,m2,S2,k1,hx1.trans k2,k3⟩
  | ret=>exact ⟨E2,m2,S2,k1,hx1.trans k2,k3⟩
  | panic ch=>exact ⟨E2,m2,S2,k1,hx1.trans k2,k3⟩
  | outgrown=>exact ⟨E2,m2,S2,k1,hx1.trans k2,k3⟩
section
section
variable {P:Program} {ops:Array Oper} {o:Oper}
theorem Zp {n:Nat} {K:Eff→Nat→St→Prop} {t:List SV} {h:List SB} {c:Call} (hop:o.op=.call c) {fo:Operand} (hcal:c.callee=.value fo) {p:List (Nat×Bool)} (hg:Zt ops t o=some p) {f:FuncId} {fst caps:List SV} (hf:calB (evG p t fo)=some (f,fst,caps))
 {args:List SV} (ha:fst++(c.args.toList.map (evG p t)++caps)=args) (hl:(c.args.toList.map (evG p t)).all live=true) (hn:nmL args=true) {r:SV} (hc:(gB t p=true→CtrV P f args r)) (hK:putD t h o.dst (Zz p o.dst r) (Zc o p) [] n K):OpD P ops o n K ⟨t,h⟩:=by
 subst ha
 unfold putD at hK
 simp only [Z1e,Z2C] at hK
 refine ⟨⟨⟨o.dst,Zz p o.dst r,hang (Zz p o.dst r)++Zc o p,[],[]⟩,n,rfl,⟨fun S' _ _ h1 h2 h3 C E m a w hr=>?_⟩,fun n hn=>List.mem_append_left _ hn,fun k hk=>by simp [wN] at hk,hK⟩⟩
 have hlk:Like (Zc o p) t S'.t:=fun n hn=>h1 n (List.mem_append_right _ hn)
 have hops:=ZO hlk
 rw [hop] at hops
 have e1:evG p S'.t fo=evG p t fo:=ZL (hops fo (by simp [Op.operands,Call.operands,hcal]))
 have e2:c.args.toList.map (evG p S'.t)=c.args.toList.map (evG p t):=List.map_congr_left fun x hx=>ZL (hops x (by simp [Op.operands,Call.operands];exact .inr (by simpa using hx)))
 obtain ⟨t',h'⟩:=S'
 have hh:=(Z4 (P:=P) (T:=fun _=>none) (ops:=ops) (o:=o) (t:=t') (h:=h') (K:=fun S''=>S''=⟨putF t' o.dst (Zz p o.dst r),h'⟩) hop hcal (Z14 hg (Z1j hlk)) (by rw [e1];exact hf) rfl (by rw [e2];exact hl) (by rw [e2];exact hn) (fun hgb=>by rw [e2];exact hc (by rw [← Z6y (Z1j hlk)];exact hgb)) (by rw [ZV])).out C E m a w hr
 unfold opW at hh ⊢
 have next:∀ a' w',(∃ E' m' S'',S''=(⟨putF t' o.dst (Zz p o.dst r),h'⟩:St)∧Ext E m (vers h') E' m' (vers S''.h)∧Rep E' C m' S'' a' w') →
  ∃ E' m',Ext E m (vers h') E' m' (vers ((⟨o.dst,Zz p o.dst r,hang (Zz p o.dst r)++Zc o p,[],[]⟩:Eff).put ⟨t',h'⟩).h)∧Rep E' C m' ((⟨o.dst,Zz p o.dst r,hang (Zz p o.dst r)++Zc o p,[],[]⟩:Eff).put ⟨t',h'⟩) a' w':=by
  rintro a' w' ⟨E',m',S'',rfl,k1,k2⟩
  rw [ZQ h3] at k2
  exact ⟨E',m',k1,k2⟩
 split
 ·rename_i hw
  rw [if_pos hw] at hh
  exact ZU hh next
 ·rename_i hw
  rw [if_neg hw] at hh
  exact next _ _ hh
end
mutual
def ren (ρ:Nat→Nat):SV→SV
 | .ptr k v off ix=>.ptr (ρ k) v off ix
 | .sl k v off len cap dc=>.sl (ρ k) v off len cap dc
 | .map k=>.map (ρ k)
 | .arr N α d n enc xs=>.arr N α d n (fun x=>renL ρ (enc x)) xs
 | .fn f caps=>.fn f (renL ρ caps)
 | .iface t x=>.iface t (ren ρ x)
 | .bm t x=>.bm t (ren ρ x)
 | .agg cs=>.agg (renL ρ cs)
 | .tup vs=>.tup (renL ρ vs)
 | .grd p x=>.grd p (ren ρ x)
 | .i k n=>.i k n
 | .b x=>.b x
 | .s l=>.s l
 | .raw v=>.raw v
 | .nils=>.nils
 | .ipt α d n enc xs a j sub ix=>.ipt α d n enc xs a j sub ix
 | .imm α d n enc xs a cap=>.imm α d n enc xs a cap
 | .ints k n xs=>.ints k n xs
 | .dead=>.dead
def renL (ρ:Nat→Nat):List SV→List SV
 | []=>[]
 | x::r=>ren ρ x::renL ρ r
end
def renB (ρ:Nat→Nat):SB→SB
 | .mem t segs v g=>.mem t (renL ρ segs) v g
 | .mp kv v=>.mp (kv.map fun p=>(ren ρ p.1,ren ρ p.2)) v
 | .gone v=>.gone v
 | .fresh=>.fresh
theorem Z5D (ρ:Nat→Nat) (B:SB):(renB ρ B).lim=B.lim:=by cases B <;> rfl
theorem Z1l {ρ:Nat→Nat} (x:SV):isUnit (ren ρ x)=isUnit x∧live (ren ρ x)=live x∧wd (ren ρ x)=wd x:=by cases x <;> simp [ren,isUnit,live,wd]
theorem Z8J {ρ:Nat→Nat}:∀ l:List SV,wdL (renL ρ l)=wdL l
 | []=>rfl
 | x::r=>by simp only [renL,wdL,Z8J r,(Z1l x).2.2]
theorem Z32 {ρ:Nat→Nat} (x:SV) (cs:List Value):wrapV (ren ρ x) cs=wrapV x cs:=by cases x <;> rfl
section
variable {m:Mem} {V V':List Nat} {ρ:Nat→Nat} {E E':Env} (hV:∀ k v,Vle V k v→Vle V' (ρ k) v∧E' (ρ k) v=E k v)
include hV
mutual
theorem ren_ok:∀ x:SV,Ok m V x→Ok m V' (ren ρ x)∧cells E' (ren ρ x)=cells E x
 | .i _ _,_ | .b _,_ | .s _,_ | .raw _,_ | .nils,_ | .dead,_=>by simp [Ok,ren,cells]
 | .grd p x,_=>by simp [Ok,ren,cells]
 | .ptr k v off ix,h=>by
   simp only [Ok] at h
   have:=hV k v h.1
   simp only [Ok,ren,cells,Env.blk,this.2]
   exact ⟨⟨this.1,h.2⟩,trivial⟩
 | .sl k v off len cap dc,h=>by
   simp only [Ok] at h
   have:=hV k v h.1
   simp only [Ok,ren,cells,this.2]
   exact ⟨⟨this.1,h.2⟩,trivial⟩
 | .map k,h=>by
   simp only [Ok] at h
   have:=hV k 1 h
   simp only [Ok,ren,cells,Env.blk,this.2]
   exact ⟨this.1,trivial⟩
 | .arr N α d n enc xs,h=>by
   simp only [Ok] at h
   simp only [Ok,ren,cells]
   refine ⟨⟨h.1,fun x=>by rw [Z8J];exact h.2.1 x,fun j hj=>(renL_ok _ (h.2.2 j hj)).1⟩,?_⟩
   rw [List.flatMap_def,List.flatMap_def]
   congr 1
   apply List.map_congr_left
   intro j hj
   exact (renL_ok _ (h.2.2 j (by simpa using hj))).2
 | .ipt _ _ _ _ _ _ _ _ _,h | .imm _ _ _ _ _ _ _,h | .ints _ _ _,h=>by simp only [ren];exact ⟨by simpa only [Ok] using h,by simp only [cells]⟩
 | .fn f caps,h=>by
   simp only [Ok] at h
   have:=renA_ok caps h
   simp only [Ok,ren,cells,this.2]
   exact ⟨this.1,trivial⟩
 | .iface t x,h=>by
   simp only [Ok] at h
   have:=ren_ok x h.1
   simp only [Ok,ren,cells,this.2,Z32,(Z1l x).2.1]
   exact ⟨⟨this.1,h.2⟩,trivial⟩
 | .bm t x,h=>by
   simp only [Ok] at h
   have:=ren_ok x h.1
   simp only [Ok,ren,cells,this.2,Z32,(Z1l x).2.1]
   exact ⟨⟨this.1,h.2⟩,trivial⟩
 | .agg cs,h=>by
   simp only [Ok] at h
   have:=renL_ok cs h
   simp only [Ok,ren,cells]
   exact this
 | .tup vs,h=>by
   simp only [Ok] at h
   have:=renA_ok vs h
   simp only [Ok,ren,cells,this.2]
   exact ⟨this.1,trivial⟩
theorem renL_ok:∀ l:List SV,OkL m V l→OkL m V' (renL ρ l)∧cellsL E' (renL ρ l)=cellsL E l
 | [],_=>by simp [OkL,renL,cellsL]
 | x::r,h=>by
   simp only [OkL] at h
   have h1:=ren_ok x h.1.2
   have h2:=renL_ok r h.2
   simp only [OkL,renL,cellsL,h1.2,h2.2,(Z1l x).1]
   exact ⟨⟨⟨h.1.1,h1.1⟩,h2.1⟩,trivial⟩
theorem renA_ok:∀ l:List SV,OkA m V l→OkA m V' (renL ρ l)∧denL E' (renL ρ l)=denL E l
 | [],_=>by simp [OkA,renL,denL]
 | x::r,h=>by
   simp only [OkA] at h
   have h1:=ren_ok x h.1.2
   have h2:=renA_ok r h.2
   simp only [OkA,renL,denL,h1.2,h2.2,Z32,(Z1l x).2.1]
   exact ⟨⟨⟨h.1.1,h1.1⟩,h2.1⟩,trivial⟩
end
end
section
variable {m:Mem} {V V':List Nat} {ρ:Nat→Nat} (hV:∀ k v,Vle V' (ρ k) v→Vle V k v)
include hV
mutual
theorem ren_back:∀ x:SV,Ok m V' (ren ρ x)→Ok m V x
 | .i _ _,_ | .b _,_ | .s _,_ | .raw _,_ | .nils,_ | .dead,_ | .grd _ _,_=>by simp [Ok]
 | .ptr k v off ix,h=>by simp only [Ok,ren] at h ⊢;exact ⟨hV k v h.1,h.2⟩
 | .sl k v off len cap dc,h=>by simp only [Ok,ren] at h ⊢;exact ⟨hV k v h.1,h.2⟩
 | .map k,h=>by simp only [Ok,ren] at h ⊢;exact hV k 1 h
 | .arr N α d n enc xs,h=>by
   simp only [Ok,ren] at h ⊢
   exact ⟨h.1,fun x=>by have:=h.2.1 x;rwa [Z8J] at this,fun j hj=>renL_back _ (h.2.2 j hj)⟩
 | .ipt _ _ _ _ _ _ _ _ _,h | .imm _ _ _ _ _ _ _,h | .ints _ _ _,h=>by simpa only [Ok,ren] using h
 | .fn f caps,h=>by simp only [Ok,ren] at h ⊢;exact renA_back caps h
 | .iface t x,h=>by simp only [Ok,ren,(Z1l x).2.1] at h ⊢;exact ⟨ren_back x h.1,h.2⟩
 | .bm t x,h=>by simp only [Ok,ren,(Z1l x).2.1] at h ⊢;exact ⟨ren_back x h.1,h.2⟩
 | .agg cs,h=>by simp only [Ok,ren] at h ⊢;exact renL_back cs h
 | .tup vs,h=>by simp only [Ok,ren] at h ⊢;exact renA_back vs h
theorem renL_back:∀ l:List SV,OkL m V' (renL ρ l)→OkL m V l
 | [],_=>by simp [OkL]
 | x::r,h=>by
   simp only [OkL,renL,(Z1l x).1] at h ⊢
   exact ⟨⟨h.1.1,ren_back x h.1.2⟩,renL_back r h.2⟩
theorem renA_back:∀ l:List SV,OkA m V' (renL ρ l)→OkA m V l
 | [],_=>by simp [OkA]
 | x::r,h=>by
   simp only [OkA,renL,(Z1l x).2.1] at h ⊢
   exact ⟨⟨h.1.1,ren_back x h.1.2⟩,renA_back r h.2⟩
end
end
end
section
section
variable {m:Mem} {V V':List Nat} {ρ:Nat→Nat} {E E':Env} {w:World} {k:Nat}
theorem ZdK (hV:∀ k v,Vle V k v→Vle V' (ρ k) v∧E' (ρ k) v=E k v) (hE:∀ v,E' (ρ k) v=E k v) {B:SB} (h:Holds E m V w k B):Holds E' m V' w (ρ k) (renB ρ B):=by
 cases B with
 | mem t segs ver gr=>
   cases gr with
   | zero=>
     obtain ⟨h0,b,c,h1,h2,h3⟩:=h
     have:=renL_ok hV segs h3
     exact ⟨h0,b,c,by rw [hE,h1],by rw [this.2];exact h2,this.1⟩
   | succ gr=>
     obtain ⟨h3,h4,h5⟩:=h
     have:=renL_ok hV segs h3
     refine ⟨this.1,fun h0=>by rw [this.2,hE];exact h4 h0,fun h0=>?_⟩
     obtain ⟨b,c,sp,h1,h2,h6⟩:=h5 h0
     exact ⟨b,c,sp,by rw [hE,h1],by rw [this.2];exact h2,by rw [this.2];exact h6⟩
 | mp kv ver=>
   obtain ⟨h0,b,c,es,clock,h1,h2,h3,h4⟩:=h
   refine ⟨h0,b,c,es,clock,by rw [hE,h1],h2,?_,fun q hq=>?_⟩
   ·unfold MapHas at h3 ⊢
    rw [h3,List.map_map]
    apply List.map_congr_left
    intro p hp
    have:=h4 p hp
    simp only [Function.comp,den,Z32,(ren_ok hV _ this.1.1).2,(ren_ok hV _ this.2.1).2]
   ·obtain ⟨p,hp,rfl⟩:=List.mem_map.1 hq
    have:=h4 p hp
    exact ⟨⟨(ren_ok hV _ this.1.1).1,by rw [(Z1l _).2.1];exact this.1.2⟩,(ren_ok hV _ this.2.1).1,by rw [(Z1l _).2.1];exact this.2.2⟩
 | gone v=>trivial
 | fresh=>trivial
theorem ZcO (hV:∀ k v,Vle V k v→Vle V' (ρ k) v∧E' (ρ k) v=E k v) (hB:∀ k v,Vle V' (ρ k) v→Vle V k v) (hE:∀ v,E' (ρ k) v=E k v) {B:SB} (h:Holds E' m V' w (ρ k) (renB ρ B)):Holds E m V w k B:=by
 cases B with
 | mem t segs ver gr=>
   cases gr with
   | zero=>
     obtain ⟨h0,b,c,h1,h2,h3⟩:=h
     have h3':=renL_back hB segs h3
     have:=renL_ok hV segs h3'
     exact ⟨h0,b,c,by rw [← hE,h1],by rw [← this.2];exact h2,h3'⟩
   | succ gr=>
     obtain ⟨h3,h4,h5⟩:=h
     have h3':=renL_back hB segs h3
     have:=renL_ok hV segs h3'
     refine ⟨h3',fun h0=>by rw [← this.2,← hE];exact h4 h0,fun h0=>?_⟩
     obtain ⟨b,c,sp,h1,h2,h6⟩:=h5 h0
     exact ⟨b,c,sp,by rw [← hE,h1],by rw [← this.2];exact h2,by rw [← this.2];exact h6⟩
 | mp kv ver=>
   obtain ⟨h0,b,c,es,clock,h1,h2,h3,h4⟩:=h
   have h4':∀ p ∈ kv,(Ok m V p.1∧live p.1=true)∧Ok m V p.2∧live p.2=true:=fun p hp=>by
    have:=h4 _ (List.mem_map.2 ⟨p,hp,rfl⟩)
    simp only [(Z1l _).2.1] at this
    exact ⟨⟨ren_back hB _ this.1.1,this.1.2⟩,ren_back hB _ this.2.1,this.2.2⟩
   refine ⟨h0,b,c,es,clock,by rw [← hE,h1],h2,?_,h4'⟩
   unfold MapHas at h3 ⊢
   rw [h3,List.map_map]
   apply List.map_congr_left
   intro p hp
   have:=h4' p hp
   simp only [Function.comp,den,Z32,(ren_ok hV _ this.1.1).2,(ren_ok hV _ this.2.1).2]
 | gone v=>trivial
 | fresh=>trivial
theorem Z9i {b:Nat} (hE:∀ v,E' (ρ k) v=E k v) {B:SB}:Z5t E' (ρ k) b (renB ρ B) ↔ Z5t E k b B:=by
 cases B <;> simp only [renB,Z5t,hE]
end
def zipB (ρ:Nat→Nat):List SB→Nat→List (Nat×SB)
 | [],_=>[]
 | B::r,i=>(ρ i,renB ρ B)::zipB ρ r (i+1)
theorem Z6a {ρ:Nat→Nat} {k:Nat}:∀ {H:List SB} {i:Nat},k ∈ wN (zipB ρ H i)→∃ j,j < H.length∧k=ρ (i+j)
 | [],i,h=>by simp [zipB,wN] at h
 | B::r,i,h=>by
   simp only [zipB,wN,List.mem_cons] at h
   rcases h with rfl | h
   ·exact ⟨0,by simp,rfl⟩
   ·obtain ⟨j,h1,h2⟩:=Z6a h
    exact ⟨j+1,by simpa using h1,by rw [h2];congr 1;omega⟩
theorem Z6b {ρ:Nat→Nat} {H Hc:List SB} {i k:Nat} (h:∀ j,j < H.length→ρ (i+j)≠k):(setB Hc (zipB ρ H i))[k]?=Hc[k]?:=
 Z3e fun hk=>by obtain ⟨j,h1,h2⟩:=Z6a hk;exact h j h1 h2.symm
theorem Z8K {ρ:Nat→Nat}:∀ {H Hc:List SB} {i j:Nat} {B:SB},(∀ a b,a < H.length→b < H.length→ρ (i+a)=ρ (i+b)→a=b)→H[j]?=some B→ρ (i+j) < Hc.length→(setB Hc (zipB ρ H i))[ρ (i+j)]?=some (renB ρ B)
 | [],Hc,i,j,B,_,h,_=>by simp at h
 | A::r,Hc,i,0,B,hinj,h,hl=>by
   simp at h;subst h
   simp only [zipB,setB]
   rw [Z6b (H:=r) (i:=i+1) fun j hj e=>by
    have:=hinj (j+1) 0 (by simpa using hj) (by simp) (by rw [show i+(j+1)=i+1+j by omega];exact e)
    omega]
   rw [Nat.add_zero] at hl ⊢
   rw [List.getElem?_set_self hl]
 | A::r,Hc,i,j+1,B,hinj,h,hl=>by
   simp only [zipB,setB]
   have:=Z8K (ρ:=ρ) (H:=r) (Hc:=Hc.set (ρ i) (renB ρ A)) (i:=i+1) (j:=j) (B:=B) (fun a b ha hb e=>by
    have:=hinj (a+1) (b+1) (by simpa using ha) (by simpa using hb) (by rw [show i+(a+1)=i+1+a by omega,show i+(b+1)=i+1+b by omega];exact e)
    omega) (by simpa using h) (by rw [List.length_set,show i+1+j=i+(j+1) by omega];exact hl)
   rwa [show i+1+j=i+(j+1) by omega] at this
def Lent (ρ:Nat→Nat) (Hc:List SB):List SB→Nat→Prop
 | [],_=>True
 | B::r,i=>Hc[ρ i]?=some (renB ρ B)∧Lent ρ Hc r (i+1)
theorem Z7g {ρ:Nat→Nat} {Hc:List SB}:∀ {H:List SB} {i:Nat},Lent ρ Hc H i→∀ (j:Nat) (B:SB),H[j]?=some B→Hc[ρ (i+j)]?=some (renB ρ B)
 | [],i,_,j,B,h=>by simp at h
 | A::r,i,hl,0,B,h=>by simp at h;subst h;exact hl.1
 | A::r,i,hl,j+1,B,h=>by
   have:=Z7g hl.2 j B (by simpa using h)
   rwa [show i+1+j=i+(j+1) by omega] at this
def Z10 (Hc:List SB):List Nat→Bool
 | []=>true
 | k::r=>(match Hc.getD k (.gone 0) with | .fresh=>true | _=>false)&&Z10 Hc r
theorem Z6c {Hc:List SB}:∀ {ns:List Nat},Z10 Hc ns=true→∀ k ∈ ns,Hc[k]?=some .fresh
 | [],_,k,h=>by simp at h
 | n::r,h,k,hk=>by
   simp only [Z10,Bool.and_eq_true] at h
   rcases List.mem_cons.1 hk with rfl | hk
   ·cases hs:Hc[k]? with
    | none=>simp [List.getD_eq_getElem?_getD,hs] at h
    | some y=>cases y <;> simp [List.getD_eq_getElem?_getD,hs] at h;rfl
   ·exact Z6c h.2 k hk
def Z1U:List Nat→Bool
 | []=>true
 | x::r=>!hasN x r&&Z1U r
theorem Z6d:∀ {l:List Nat},Z1U l=true→l.Nodup
 | [],_=>List.nodup_nil
 | x::r,h=>by
   simp only [Z1U,Bool.and_eq_true,Bool.not_eq_true'] at h
   refine List.nodup_cons.2 ⟨fun hx=>?_,Z6d h.2⟩
   rw [hasN_iff.2 hx] at h;cases h.1
def rho (L:List Nat) (d:Nat):Nat→Nat:=fun k=>L.getD k d
open Classical in
noncomputable def Fr.keep (C:Fr) (E:Env) (H:List SB) (w:World) (p:Nat→Prop):Fr:=
 { C with F:=fun b=>match C.F b with | some o=>some o | none=>if ∃ k,p k∧Zk E H k b then w.heap[b]? else none }
open Classical in
noncomputable def Z8L (E E1:Env) (ρ:Nat→Nat) (n:Nat):Env:=fun k v=>if h:∃ i,i < n∧ρ i=k then E1 h.choose v else E k v
theorem Z6A {X:List Value→World→(Value→World→Prop)→Prop} (hX:Z2A X) {args H K} (hc:Cp X args H K) (Hc:List SB) (ks ns:List Nat) (hnd:Z1U (ks++ns)=true) (hks:ks.length=H.length)
 (hH:Lent (rho (ks++ns) Hc.length) Hc H 0) (hns:Z10 Hc ns=true) (hsz:∀ r H',K r H'→H.length≤H'.length∧H'.length≤(ks++ns).length) :
 Cp X (renL (rho (ks++ns) Hc.length) args) Hc (fun r Hc'=>∃ r0 H',K r0 H'∧r=ren (rho (ks++ns) Hc.length) r0∧Hc'=setB Hc (zipB (rho (ks++ns) Hc.length) H' 0)):=by
 have hnd':=Z6d hnd
 have hfr:=Z6c hns
 have hgl:=Z7g hH
 simp only [Nat.zero_add] at hgl
 generalize hρ:rho (ks++ns) Hc.length=ρ at *
 have hρget:∀ i,i < (ks++ns).length→(ks++ns)[i]?=some (ρ i):=fun i hi=>by
  rw [← hρ];simp only [rho,List.getD_eq_getElem?_getD,List.getElem?_eq_getElem hi,Option.getD_some]
 have hinj:∀ i j,i < (ks++ns).length→j < (ks++ns).length→ρ i=ρ j→i=j:=fun i j hi hj e=>by
  have h1:=hρget i hi
  have h2:=hρget j hj
  rw [e,← h2] at h1
  exact (List.getElem?_inj hi hnd').1 h1
 have hρns:∀ i,H.length≤i→i < (ks++ns).length→Hc[ρ i]?=some .fresh:=fun i hi hl=>by
  have h1:=hρget i hl
  rw [List.getElem?_append_right (by omega)] at h1
  exact hfr _ (List.mem_of_getElem? h1)
 have hρlt:∀ i,i < (ks++ns).length→ρ i < Hc.length:=fun i hl=>by
  by_cases hi:i < H.length
  ·exact (List.getElem?_eq_some_iff.1 (hgl i _ (List.getElem?_eq_getElem hi))).1
  ·exact (List.getElem?_eq_some_iff.1 (hρns i (by omega) hl)).1
 have hρout:∀ i,(ks++ns).length≤i→ρ i=Hc.length:=fun i hi=>by
  rw [← hρ];simp only [rho,List.getD_eq_getElem?_getD,List.getElem?_eq_none hi,Option.getD_none]
 have hN:H.length≤(ks++ns).length:=by simp;omega
 have hback:∀ k v,Vle (vers Hc) (ρ k) v→k < H.length∧Vle (vers H) k v:=fun k v hv=>by
  obtain ⟨B,hB,hl⟩:=Vle_iff.1 hv
  by_cases hk:k < H.length
  ·have:=hgl k _ (List.getElem?_eq_getElem hk)
   rw [this] at hB;cases hB
   exact ⟨hk,Vle_iff.2 ⟨_,List.getElem?_eq_getElem hk,by rwa [Z5D] at hl⟩⟩
  ·by_cases hk':k < (ks++ns).length
   ·rw [hρns k (by omega) hk'] at hB;cases hB;simp [SB.lim] at hl
   ·rw [hρout k (by omega)] at hB
    have:=(List.getElem?_eq_some_iff.1 hB).1
    omega
 have hforw:∀ k v,Vle (vers H) k v→Vle (vers Hc) (ρ k) v:=fun k v hv=>by
  obtain ⟨B,hB,hl⟩:=Vle_iff.1 hv
  exact Vle_iff.2 ⟨_,hgl k B hB,by rw [Z5D];exact hl⟩
 refine ⟨fun C E m w hr ha=>?_⟩
 let Ec:Env:=fun k v=>if k < H.length then E (ρ k) v else none
 have hEc:∀ k v,k < H.length→E (ρ k) v=Ec k v:=fun k v hk=>by simp only [Ec,if_pos hk]
 have hlt:∀ k v,Vle (vers H) k v→k < H.length:=fun k v hv=>by have:=Z5a hv;simpa [vers] using this
 have hV1:∀ k v,Vle (vers H) k v→Vle (vers Hc) (ρ k) v∧E (ρ k) v=Ec k v:=fun k v hv=>⟨hforw k v hv,hEc k v (hlt k v hv)⟩
 let p:Nat→Prop:=fun k=>∀ i,i < H.length→ρ i≠k
 have hkeep:∀ k b,p k→Zk E Hc k b→∃ o,w.heap[b]?=some o∧(C.keep E Hc w p).F b=some o:=fun k b hp hb=>by
  obtain ⟨B,hB,hk⟩:=id hb
  obtain ⟨o,ho⟩:=(hr.bl k B hB).block hB b hb
  refine ⟨o,ho,?_⟩
  simp only [Fr.keep,(hr.sp k b hb).2]
  rw [if_pos ⟨k,hp,hb⟩,ho]
 have hblk:∀ k b,Zk Ec H k b→k < H.length∧Zk E Hc (ρ k) b:=by
  rintro k b ⟨B,hB,hk⟩
  have hk':=(List.getElem?_eq_some_iff.1 hB).1
  exact ⟨hk',_,hgl k B hB,(Z9i (fun v=>hEc k v hk')).2 hk⟩
 have hrel:Rel Ec (C.keep E Hc w p) m H w:=by
  refine ⟨hr.os,hr.tape,hr.output,hr.im,?_,⟨?_,hr.mf.2⟩,?_,?_,?_,?_⟩
  ·intro b o hb
   simp only [Fr.keep] at hb
   cases hf:C.F b with
   | some o'=>rw [hf] at hb;cases hb;exact hr.fr b _ hf
   | none=>rw [hf] at hb;simp only at hb;split at hb;exact hb;cases hb
  ·intro b o hb
   simp only [Fr.keep] at hb
   cases hf:C.F b with
   | some o'=>exact hr.mf.1 b _ hf
   | none=>
     rw [hf] at hb;simp only at hb
     split at hb
     ·rename_i hk
      obtain ⟨k,_,hk⟩:=hk
      exact (hr.sp k b hk).1
     ·cases hb
  ·intro k B hB
   have hk':=(List.getElem?_eq_some_iff.1 hB).1
   exact ZcO hV1 (fun k v hv=>(hback k v hv).2) (fun v=>hEc k v hk') (hr.bl _ _ (hgl k B hB))
  ·intro k v hv h0
   obtain ⟨b,c,hbc⟩:=hr.nn _ _ (hforw k v hv) h0
   exact ⟨b,c,by rw [← hEc k v (hlt k v hv)];exact hbc⟩
  ·intro k b hb
   obtain ⟨hk,hb'⟩:=hblk k b hb
   obtain ⟨h1,h2⟩:=hr.sp _ b hb'
   refine ⟨h1,?_⟩
   simp only [Fr.keep,h2]
   rw [if_neg]
   rintro ⟨j,hj,hjb⟩
   exact hj k hk (hr.inj _ _ b hb' hjb)
  ·intro i j b hi hj
   obtain ⟨h1,h2⟩:=hblk i b hi
   obtain ⟨h3,h4⟩:=hblk j b hj
   exact hinj i j (by omega) (by omega) (hr.inj _ _ b h2 h4)
 have ha':OkA m (vers H) args:=renA_back (fun k v hv=>(hback k v hv).2) args ha
 have h1:=hc.out (C.keep E Hc w p) Ec m w hrel ha'
 rw [← (renA_ok hV1 args ha').2] at h1
 refine hX _ _ _ _ h1 ?_
 rintro v w1 ⟨r0,H',E1,m1,rfl,hK,⟨hok,hlv⟩,hx,hrel1⟩
 obtain ⟨hN1,hN2⟩:=hsz r0 H' hK
 generalize hE2:Z8L E E1 ρ H'.length=E2
 have hE2i:∀ i v,i < H'.length→E2 (ρ i) v=E1 i v:=fun i v hi=>by
  rw [← hE2]
  unfold Z8L
  have hex:∃ j,j < H'.length∧ρ j=ρ i:=⟨i,hi,rfl⟩
  rw [dif_pos hex]
  have hc:=hex.choose_spec
  rw [hinj _ i (by omega) (by omega) hc.2]
 have hE2o:∀ k v,(∀ i,i < H'.length→ρ i≠k)→E2 k v=E k v:=fun k v hk=>by
  rw [← hE2]
  unfold Z8L
  rw [dif_neg]
  rintro ⟨i,hi,he⟩
  exact hk i hi he
 generalize hHc:setB Hc (zipB ρ H' 0)=Hc'
 have hin:∀ i B,H'[i]?=some B→Hc'[ρ i]?=some (renB ρ B):=fun i B hB=>by
  have hi:=(List.getElem?_eq_some_iff.1 hB).1
  have:=Z8K (ρ:=ρ) (H:=H') (Hc:=Hc) (i:=0) (j:=i) (B:=B) (fun a b ha hb e=>hinj a b (by omega) (by omega) (by simpa using e)) hB (by rw [Nat.zero_add];exact hρlt i (by omega))
  rw [Nat.zero_add,hHc] at this;exact this
 have hout:∀ k,(∀ i,i < H'.length→ρ i≠k)→Hc'[k]?=Hc[k]?:=fun k hk=>by
  rw [← hHc];exact Z6b fun j hj=>by rw [Nat.zero_add];exact hk j hj
 have hV2:∀ k v,Vle (vers H') k v→Vle (vers Hc') (ρ k) v∧E2 (ρ k) v=E1 k v:=fun k v hv=>by
  obtain ⟨B,hB,hl⟩:=Vle_iff.1 hv
  exact ⟨Vle_iff.2 ⟨_,hin k B hB,by rw [Z5D];exact hl⟩,hE2i k v (List.getElem?_eq_some_iff.1 hB).1⟩
 have hcase:∀ k,(∃ i,i < H'.length∧ρ i=k)∨∀ i,i < H'.length→ρ i≠k:=fun k=>by
  by_cases h:∃ i,i < H'.length∧ρ i=k
  ·exact .inl h
  ·exact .inr fun i hi he=>h ⟨i,hi,he⟩
 have hx2:Ext E m (vers Hc) E2 m1 (vers Hc'):=by
  refine ⟨hx.mm,fun k v hv=>?_,fun k v hv=>?_⟩
  ·rcases hcase k with ⟨i,hi,rfl⟩ | hk
   ·exact (hV2 i v (hx.vv i v (hback i v hv).2)).1
   ·obtain ⟨B,hB,hl⟩:=Vle_iff.1 hv
    exact Vle_iff.2 ⟨B,by rw [hout k hk];exact hB,hl⟩
  ·rcases hcase k with ⟨i,hi,rfl⟩ | hk
   ·obtain ⟨h1,h2⟩:=hback i v hv
    rw [hE2i i v hi,hx.ee i v h2,hEc i v h1]
   ·exact hE2o k v hk
 have hpk:∀ k,(∀ i,i < H'.length→ρ i≠k)→p k:=fun k hk i hi=>hk i (by omega)
 have hb2:∀ k b,Zk E2 Hc' k b→(∃ i,i < H'.length∧ρ i=k∧Zk E1 H' i b)∨((∀ i,i < H'.length→ρ i≠k)∧Zk E Hc k b):=by
  rintro k b ⟨B,hB,hb⟩
  rcases hcase k with ⟨i,hi,rfl⟩ | hk
  ·left
   have:=hin i _ (List.getElem?_eq_getElem hi)
   rw [this] at hB;cases hB
   exact ⟨i,hi,rfl,_,List.getElem?_eq_getElem hi,(Z9i (fun v=>hE2i i v hi)).1 hb⟩
  ·right
   rw [hout k hk] at hB
   refine ⟨hk,B,hB,?_⟩
   cases B with
   | mem t segs ver gr=>obtain ⟨h0,c,he⟩:=hb;rw [hE2o k _ hk] at he;exact ⟨h0,c,he⟩
   | mp kv ver=>obtain ⟨c,he⟩:=hb;rw [hE2o k _ hk] at he;exact ⟨c,he⟩
   | gone v=>exact hb
   | fresh=>exact hb
 have hrn:=ren_ok hV2 r0 hok
 refine ⟨ren ρ r0,Hc',E2,m1,by simp only [den,Z32,hrn.2],⟨r0,H',hK,rfl,hHc.symm⟩,⟨hrn.1,by rw [(Z1l _).2.1];exact hlv⟩,hx2,?_⟩
 refine ⟨hrel1.os,hrel1.tape,hrel1.output,hrel1.im,?_,⟨?_,hrel1.mf.2⟩,?_,?_,?_,?_⟩
 ·intro b o hb;exact hrel1.fr b o (by simp only [Fr.keep,hb])
 ·intro b o hb;exact hrel1.mf.1 b o (by simp only [Fr.keep,hb])
 ·intro k B hB
  rcases hcase k with ⟨i,hi,rfl⟩ | hk
  ·have:=hin i _ (List.getElem?_eq_getElem hi)
   rw [this] at hB;cases hB
   exact ZdK hV2 (fun v=>hE2i i v hi) (hrel1.bl i _ (List.getElem?_eq_getElem hi))
  ·rw [hout k hk] at hB
   refine (hr.bl k B hB).mono hx2 (fun v _=>hE2o k v hk) fun b hb=>?_
   obtain ⟨o,ho,hf⟩:=hkeep k b (hpk k hk) ⟨B,hB,hb⟩
   rw [ho,hrel1.fr b o hf]
 ·intro k v hv h0
  rcases hcase k with ⟨i,hi,rfl⟩ | hk
  ·obtain ⟨B,hB,hl⟩:=Vle_iff.1 hv
   rw [hin i _ (List.getElem?_eq_getElem hi)] at hB;cases hB
   rw [Z5D] at hl
   obtain ⟨b,c,hbc⟩:=hrel1.nn i v (Vle_iff.2 ⟨_,List.getElem?_eq_getElem hi,hl⟩) h0
   exact ⟨b,c,by rw [hE2i i v hi];exact hbc⟩
  ·obtain ⟨B,hB,hl⟩:=Vle_iff.1 hv
   rw [hout k hk] at hB
   obtain ⟨b,c,hbc⟩:=hr.nn k v (Vle_iff.2 ⟨B,hB,hl⟩) h0
   exact ⟨b,c,by rw [hE2o k v hk];exact hbc⟩
 ·intro k b hb
  rcases hb2 k b hb with ⟨i,hi,rfl,hb'⟩ | ⟨hk,hb'⟩
  ·obtain ⟨h1,h2⟩:=hrel1.sp i b hb'
   refine ⟨h1,?_⟩
   cases hf:C.F b with
   | none=>rfl
   | some o=>simp only [Fr.keep,hf] at h2;cases h2
  ·obtain ⟨o,ho,hf⟩:=hkeep k b (hpk k hk) hb'
   exact ⟨hrel1.mf.1 b o hf,(hr.sp k b hb').2⟩
 ·intro j k b hj hk
  rcases hb2 j b hj with ⟨i,hi,rfl,hb'⟩ | ⟨hj',hb'⟩ <;> rcases hb2 k b hk with ⟨i2,hi2,rfl,hb2'⟩ | ⟨hk',hb2'⟩
  ·rw [hrel1.inj i i2 b hb' hb2']
  ·obtain ⟨o,ho,hf⟩:=hkeep k b (hpk k hk') hb2'
   have:=(hrel1.sp i b hb').2
   rw [hf] at this;cases this
  ·obtain ⟨o,ho,hf⟩:=hkeep j b (hpk j hj') hb'
   have:=(hrel1.sp i2 b hb2').2
   rw [hf] at this;cases this
  ·exact hr.inj j k b hb' hb2'
end
section
def Z7U:List SV→(List SV→Prop)→Prop
 | [],K=>K []
 | x::r,K=>Z2U x fun x=>Z7U r fun l=>K (x::l)
def ZaG (B:SB) (K:SB→Prop):Prop:=
 match B with
 | .mem t segs v g=>Z7U segs fun segs=>K (.mem t segs v g)
 | .mp kv v=>K (.mp kv v)
 | .gone v=>K (.gone v)
 | .fresh=>K .fresh
def Z4B:List SB→List (Nat×SB)→(List SB→Prop)→Prop
 | h,[],K=>K h
 | h,(k,B)::r,K=>ZaG B fun B=>setH h k B fun h=>Z4B h r K
theorem Z9j:∀ (l:List SV) (K:List SV→Prop),Z7U l K=K l
 | [],K=>rfl
 | x::l,K=>by simp only [Z7U,Z1e,Z9j l]
theorem ZdL (B:SB) (K:SB→Prop):ZaG B K=K B:=by cases B <;> simp only [ZaG,Z9j]
theorem Z4k:∀ (l:List (Nat×SB)) (h:List SB) (K:List SB→Prop),Z4B h l K=K (setB h l)
 | [],h,K=>rfl
 | (k,B)::r,h,K=>by simp only [Z4B,ZdL,Z30,Z4k r,setB]
theorem Z6e {ρ:Nat→Nat} {Hc Hc':List SB}:∀ {H:List SB} {i:Nat},(∀ j,j < H.length→Hc'[ρ (i+j)]?=Hc[ρ (i+j)]?)→Lent ρ Hc H i→Lent ρ Hc' H i
 | [],i,_,_=>trivial
 | B::r,i,hl,h=>⟨by have:=hl 0 (by simp);rw [Nat.add_zero] at this;rw [this];exact h.1,Z6e (fun j hj=>by have:=hl (j+1) (by simpa using hj);rwa [show i+(j+1)=i+1+j by omega] at this) h.2⟩
theorem Z5E {Hc Hc':List SB}:∀ {ns:List Nat},(∀ k ∈ ns,Hc'[k]?=Hc[k]?)→Z10 Hc ns=true→Z10 Hc' ns=true
 | [],_,_=>rfl
 | k::r,hl,h=>by
   simp only [Z10,Bool.and_eq_true] at h ⊢
   refine ⟨?_,Z5E (fun j hj=>hl j (List.mem_cons_of_mem _ hj)) h.2⟩
   simp only [List.getD_eq_getElem?_getD,hl k (by simp)]
   simpa only [List.getD_eq_getElem?_getD] using h.1
theorem ZdM {ρ:Nat→Nat} {k:Nat} {H:List SB} {i:Nat} (h:k ∈ wN (zipB ρ H i)):∃ j,j < H.length∧k=ρ (i+j):=Z6a h
section
variable {P:Program} {T:Tb} {ops:Array Oper} {o:Oper}
theorem Z1k {K:St→Prop} {t:List SV} {h:List SB} {c:Call} (hop:o.op=.call c) {fo:Operand} (hcal:c.callee=.value fo) (hg:Zt ops t o=some []) {f:FuncId} {fst caps:List SV} (hf:calB (evG [] t fo)=some (f,fst,caps))
 (ks:List Nat) (nn:Nat) {ns:List Nat} (hnn:(List.range nn).map (fun i=>h.length+i)=ns) {h1:List SB} (hh1:h++List.replicate nn .fresh=h1) {ρ:Nat→Nat} (hρ:rho (ks++ns) h1.length=ρ) {args0:List SV} {H0:List SB} {K0:SV→List SB→Prop} (hc:Ctr P f args0 H0 K0)
 (ha:fst++(c.args.toList.map (evG [] t)++caps)=renL ρ args0) (hl:(c.args.toList.map (evG [] t)).all live=true) (hnd:Z1U (ks++ns)=true) (hks:ks.length=H0.length) (hH:Lent ρ h1 H0 0) (hns:Z10 h1 ns=true)
 (hsz:∀ r H',K0 r H'→H0.length≤H'.length∧H'.length≤(ks++ns).length)
 (hK:∀ r H',K0 r H'→Z4B h1 (zipB ρ H' 0) fun h2=>putK t h2 o.dst (ren ρ r) K):OpC P T ops o K ⟨t,h⟩:=by
 subst hρ hh1
 have hc2:=Z6A ZK hc (h++List.replicate nn .fresh) ks ns hnd hks hH hns hsz
 refine ⟨fun C E m a w hr=>?_⟩
 have hr1:Rep E C m ⟨t,h++List.replicate nn .fresh⟩ a w:=hr.up (Ext.pad E m h nn) (hr.rel.pad nn)
 rw [← ha] at hc2
 have h3:=(OpC.call (T:=T) (ops:=ops) (K:=K) hop hcal hg hf rfl hl hc2 (fun r h' hk=>by
  obtain ⟨r0,H',h1,rfl,rfl⟩:=hk
  have:=hK r0 H' h1
  rw [Z4k] at this
  exact this)).out C E m a w hr1
 unfold opW at h3 ⊢
 have next:∀ a' w',(∃ E' m' S'',K S''∧Ext E m (vers (h++List.replicate nn .fresh)) E' m' (vers S''.h)∧Rep E' C m' S'' a' w')→∃ E' m' S'',K S''∧Ext E m (vers h) E' m' (vers S''.h)∧Rep E' C m' S'' a' w':=by
  rintro a' w' ⟨E',m',S'',k1,k2,k3⟩
  exact ⟨E',m',S'',k1,(Ext.pad E m h nn).trans k2,k3⟩
 split
 ·rename_i hw
  rw [if_pos hw] at h3
  exact ZU h3 next
 ·rename_i hw
  rw [if_neg hw] at h3
  exact next _ _ h3
theorem Z9k {n:Nat} {K:Eff→Nat→St→Prop} {t:List SV} {h:List SB} {c:Call} (hop:o.op=.call c) {fo:Operand} (hcal:c.callee=.value fo) (hg:Zt ops t o=some []) {f:FuncId} {fst caps:List SV} (hf:calB (evG [] t fo)=some (f,fst,caps))
 (ks ns:List Nat) (n2:Nat) {ρ:Nat→Nat} (hρ:rho (ks++ns) h.length=ρ) {args0:List SV} {H0:List SB} {r0:SV} {H1:List SB} (hc:Ctr P f args0 H0 (fun r H=>r=r0∧H=H1))
 (ha:fst++(c.args.toList.map (evG [] t)++caps)=renL ρ args0) (hl:(c.args.toList.map (evG [] t)).all live=true) (hnd:Z1U (ks++ns)=true) (hks:ks.length=H0.length) (hH:Lent ρ h H0 0) (hns:Z10 h ns=true)
 (hsz:(Nat.ble H0.length H1.length&&Nat.ble H1.length (ks++ns).length)=true)
 (hK:Z2U (ren ρ r0) fun r=>setD t o.dst r fun t'=>Z4B h (zipB ρ H1 0) fun h'=>K ⟨o.dst,r,hang r++Zc o [],ks++ns,zipB ρ H1 0⟩ n2 ⟨t',h'⟩):OpD P ops o n K ⟨t,h⟩:=by
 simp only [Z1e,Z2C,Z4k] at hK
 simp only [Bool.and_eq_true] at hsz
 have hz1:=Nat.le_of_ble_eq_true hsz.1
 have hz2:=Nat.le_of_ble_eq_true hsz.2
 have hρk:∀ i,i < (ks++ns).length→ρ i ∈ ks++ns:=fun i hi=>by
  rw [← hρ];simp only [rho,List.getD_eq_getElem?_getD,List.getElem?_eq_getElem hi,Option.getD_some]
  exact List.getElem_mem hi
 refine ⟨⟨⟨o.dst,ren ρ r0,hang (ren ρ r0)++Zc o [],ks++ns,zipB ρ H1 0⟩,n2,rfl,⟨fun S' _ hlen h1 h2 h3 C E m a w hr=>?_⟩,fun n hn=>List.mem_append_left _ hn,fun k hk=>?_,hK⟩⟩
 ·have hlk:Like (Zc o []) t S'.t:=fun n hn=>h1 n (List.mem_append_right _ hn)
  have hops:=ZO hlk
  rw [hop] at hops
  have e1:evG [] S'.t fo=evG [] t fo:=ZL (hops fo (by simp [Op.operands,Call.operands,hcal]))
  have e2:c.args.toList.map (evG [] S'.t)=c.args.toList.map (evG [] t):=List.map_congr_left fun x hx=>ZL (hops x (by simp [Op.operands,Call.operands];exact .inr (by simpa using hx)))
  obtain ⟨t',h'⟩:=S'
  have hlen':h'.length=h.length:=hlen
  have hρ':rho (ks++ns) h'.length=ρ:=by rw [hlen',hρ]
  have hH':Lent ρ h' H0 0:=Z6e (fun j hj=>by rw [Nat.zero_add];exact h2 _ (hρk j (by simp;omega))) hH
  have hns':Z10 h' ns=true:=Z5E (fun k hk=>h2 k (List.mem_append_right _ hk)) hns
  have hc2:=Z6A ZK hc h' ks ns hnd hks (by rw [hρ'];exact hH') hns' (fun r H' hk=>by rw [hk.2];exact ⟨hz1,hz2⟩)
  rw [hρ',← ha,← e2] at hc2
  have hh:=(OpC.call (T:=fun _=>none) (ops:=ops) (t:=t') (h:=h') (K:=fun S''=>S''=⟨putF t' o.dst (ren ρ r0),setB h' (zipB ρ H1 0)⟩) hop hcal (Z14 hg (Z1j hlk)) (by rw [e1];exact hf) rfl (by rw [e2];exact hl) hc2 (fun r h'' hk=>by
   obtain ⟨r1,H',⟨rfl,rfl⟩,rfl,rfl⟩:=hk
   rw [ZV])).out C E m a w hr
  unfold opW at hh ⊢
  have next:∀ a' w',(∃ E' m' S'',S''=(⟨putF t' o.dst (ren ρ r0),setB h' (zipB ρ H1 0)⟩:St)∧Ext E m (vers h') E' m' (vers S''.h)∧Rep E' C m' S'' a' w') →
   ∃ E' m',Ext E m (vers h') E' m' (vers ((⟨o.dst,ren ρ r0,hang (ren ρ r0)++Zc o [],ks++ns,zipB ρ H1 0⟩:Eff).put ⟨t',h'⟩).h)∧Rep E' C m' ((⟨o.dst,ren ρ r0,hang (ren ρ r0)++Zc o [],ks++ns,zipB ρ H1 0⟩:Eff).put ⟨t',h'⟩) a' w':=by
   rintro a' w' ⟨E',m',S'',rfl,k1,k2⟩
   rw [ZQ h3] at k2
   exact ⟨E',m',k1,k2⟩
  split
  ·rename_i hw
   rw [if_pos hw] at hh
   exact ZU hh next
  ·rename_i hw
   rw [if_neg hw] at hh
   exact next _ _ hh
 ·obtain ⟨j,h1,rfl⟩:=ZdM hk
  rw [Nat.zero_add]
  exact hρk j (by omega)
theorem Zq {n:Nat} {K:Eff→Nat→St→Prop} {t:List SV} {h:List SB} {c:Call} (hop:o.op=.call c) {fo:Operand} (hcal:c.callee=.value fo) (hg:Zt ops t o=some []) {f:FuncId} {fst caps:List SV} (hf:calB (evG [] t fo)=some (f,fst,caps))
 (ks:List Nat) (nn:Nat) {ns:List Nat} (hnn:(List.range nn).map (fun i=>n+i)=ns) {ρ:Nat→Nat} (hρ:rho (ks++ns) h.length=ρ) {args0:List SV} {H0:List SB} {r0:SV} {H1:List SB} (hc:Ctr P f args0 H0 (fun r H=>r=r0∧H=H1))
 (ha:fst++(c.args.toList.map (evG [] t)++caps)=renL ρ args0) (hl:(c.args.toList.map (evG [] t)).all live=true) (hnd:Z1U (ks++ns)=true) (hks:ks.length=H0.length) (hH:Lent ρ h H0 0) (hns:Z10 h ns=true)
 (hsz:(Nat.ble H0.length H1.length&&Nat.ble H1.length (ks++ns).length)=true)
 (hK:Z2U (ren ρ r0) fun r=>setD t o.dst r fun t'=>Z4B h (zipB ρ H1 0) fun h'=>K ⟨o.dst,r,hang r++Zc o [],ks++ns,zipB ρ H1 0⟩ (n+nn) ⟨t',h'⟩):OpD P ops o n K ⟨t,h⟩:=by
 subst hnn
 exact Z9k hop hcal hg hf ks _ (n+nn) hρ hc ha hl hnd hks hH hns hsz hK
end
end
section
section
variable {P:Program} {T:Tb} {ops:Array Oper} {o:Oper}
end
end
theorem Rel.grow {E C m H w} (h:Rel E C m H w) {k:Nat} {t:TypeId} {segs segs':List SV} {ver g:Nat} (hk:H[k]?=some (.mem t segs ver (g+1))) {w':World} {b' c':Nat} {spare:List Value}
 (hw:w'.os=w.os∧w'.tape=w.tape∧w'.output=w.output∧w.drawn≤w'.drawn) (hb':(ver≠0∧∃ c,E k ver=some (b',c))∨w.heap.size≤b') (hold:∀ i,i < w.heap.size→i≠b'→w'.heap[i]?=w.heap[i]?)
 (hok:OkL m (vers H) segs') (hc:w'.heap[b']?=some (.cells (cellsL E segs'++spare).toArray t (0,0))) (hs:(cellsL E segs').length+spare.length=c' * (g+1)∧c'≤maxLen) :
 ∃ E',E' k (ver+1)=some (b',c')∧Ext E m (vers H) E' m (vers (H.set k (.mem t segs' (ver+1) (g+1))))∧Rel E' C m (H.set k (.mem t segs' (ver+1) (g+1))) w':=by
 have hlen:k < H.length:=(List.getElem?_eq_some_iff.1 hk).1
 have hge:∀ j,j≠k→(H.set k (.mem t segs' (ver+1) (g+1)))[j]?=H[j]?:=fun j hj=>List.getElem?_set_ne (Ne.symm hj)
 have hgk:(H.set k (.mem t segs' (ver+1) (g+1)))[k]?=some (.mem t segs' (ver+1) (g+1)):=by simp [List.getElem?_set,hlen]
 have hvk:∀ v,Vle (vers H) k v→v < ver+1:=fun v hv=>by
  obtain ⟨B,hB,hl⟩:=Vle_iff.1 hv
  rw [hk] at hB;cases hB;exact hl
 have hx:Ext E m (vers H) (E.upd k (ver+1) (b',c')) m (vers (H.set k (.mem t segs' (ver+1) (g+1)))):=by
  refine ⟨fun _ _ h=>h,fun j v hv=>?_,fun j v hv=>Zo _ _ fun e=>?_⟩
  ·by_cases hj:j=k
   ·subst hj
    exact Vle_iff.2 ⟨_,hgk,by have:=hvk v hv;show v < ver+1+1;omega⟩
   ·obtain ⟨B,hB,hl⟩:=Vle_iff.1 hv
    exact Vle_iff.2 ⟨B,by rw [hge j hj];exact hB,hl⟩
  ·have:=hvk v (e.1 ▸ hv)
   omega
 have hlt:∀ j b,Zk E H j b→b < w.heap.size:=fun j b hb=>by
  obtain ⟨B,hB,hb'⟩:=hb
  obtain ⟨o,ho⟩:=(h.bl j B hB).block hB b ⟨B,hB,hb'⟩
  exact Zw ho
 have hown:w.heap.size≤b'∨Zk E H k b':=by
  rcases hb' with ⟨h0,c,he⟩ | h1
  ·exact .inr ⟨_,hk,h0,c,he⟩
  ·exact .inl h1
 have hfree:m b'=none∧C.F b'=none:=by
  rcases hown with h1 | h1
  ·constructor
   ·cases hm:m b' with
    | none=>rfl
    | some o=>have:=Zw (h.im _ _ hm);omega
   ·cases hm:C.F b' with
    | none=>rfl
    | some o=>have:=Zw (h.fr _ _ hm);omega
  ·exact h.sp k b' h1
 have hbl:∀ j b,Zk (E.upd k (ver+1) (b',c')) (H.set k (.mem t segs' (ver+1) (g+1))) j b→(j≠k∧Zk E H j b)∨(j=k∧b=b'):=by
  rintro j b ⟨B,hB,hb⟩
  by_cases hj:j=k
  ·right
   subst hj
   rw [hgk] at hB;cases hB
   obtain ⟨_,c,he⟩:=hb
   rw [Zn] at he;cases he
   exact ⟨rfl,rfl⟩
  ·left
   rw [hge j hj] at hB
   refine ⟨hj,B,hB,?_⟩
   cases B with
   | mem t segs ver gr=>obtain ⟨h0,c,he⟩:=hb;rw [Zo _ _ (fun e=>hj e.1)] at he;exact ⟨h0,c,he⟩
   | mp kv ver=>obtain ⟨c,he⟩:=hb;rw [Zo _ _ (fun e=>hj e.1)] at he;exact ⟨c,he⟩
   | gone v=>exact hb
   | fresh=>exact hb
 refine ⟨E.upd k (ver+1) (b',c'),Zn ..,hx,?_⟩
 refine ⟨by rw [hw.1];exact h.os,by rw [hw.2.1];exact h.tape,⟨hw.2.2.1.trans h.output.1,h.output.2.trans hw.2.2.2⟩,?_,?_,h.mf,?_,?_,?_,?_⟩
 ·intro b o hb
  have h1:=h.im b o hb
  rw [hold b (Zw h1) (fun e=>by subst e;rw [hfree.1] at hb;cases hb)];exact h1
 ·intro b o hb
  have h1:=h.fr b o hb
  rw [hold b (Zw h1) (fun e=>by subst e;rw [hfree.2] at hb;cases hb)];exact h1
 ·intro j B hB
  by_cases hj:j=k
  ·subst hj
   rw [hgk] at hB;cases hB
   refine ⟨OkL.mono (fun _ _ h=>h) _ _ _ hx.vv hok,fun e=>absurd e (by omega),fun _=>⟨b',c',spare,Zn ..,?_,?_⟩⟩
   ·rw [cellsL_stable hx.ee segs' hok];exact hc
   ·rw [cellsL_stable hx.ee segs' hok];exact hs
  ·rw [hge j hj] at hB
   refine (h.bl j B hB).mono hx (fun v _=>Zo _ _ (fun e=>hj e.1)) fun b hb=>?_
   have hjb:Zk E H j b:=⟨B,hB,hb⟩
   refine hold b (hlt j b hjb) fun e=>?_
   subst e
   rcases hown with h1 | h1
   ·have:=hlt j b hjb;omega
   ·exact hj (h.inj j k b hjb h1)
 ·intro j v hv h0
  by_cases hj:j=k
  ·subst hj
   by_cases hv':v=ver+1
   ·subst hv';exact ⟨_,_,Zn ..⟩
   ·obtain ⟨B,hB,hl⟩:=Vle_iff.1 hv
    rw [hgk] at hB;cases hB
    have hl':v < ver+1+1:=hl
    rw [Zo _ _ (fun e=>hv' e.2)]
    exact h.nn j v (Vle_iff.2 ⟨_,hk,by show v < ver+1;omega⟩) h0
  ·rw [Zo _ _ (fun e=>hj e.1)]
   obtain ⟨B,hB,hl⟩:=Vle_iff.1 hv
   rw [hge j hj] at hB
   exact h.nn j v (Vle_iff.2 ⟨B,hB,hl⟩) h0
 ·intro j b hb
  rcases hbl j b hb with ⟨_,hb1⟩ | ⟨rfl,rfl⟩
  ·exact h.sp j b hb1
  ·exact hfree
 ·intro i j b hi hj
  rcases hbl i b hi with ⟨hi1,hi2⟩ | ⟨rfl,e1⟩ <;> rcases hbl j b hj with ⟨hj1,hj2⟩ | ⟨rfl,e2⟩
  ·exact h.inj i j b hi2 hj2
  ·subst e2
   rcases hown with h1 | h1
   ·have:=hlt i b hi2;omega
   ·exact absurd (h.inj i j b hi2 h1) hi1
  ·subst e1
   rcases hown with h1 | h1
   ·have:=hlt j b hj2;omega
   ·exact absurd (h.inj j i b hj2 h1) hj1
  ·rfl
theorem Rel.row0 {E C m H w} (h:Rel E C m H w) (g:Nat) (t:TypeId) (segs:List SV) (hs:∀ E,cellsL E segs=[]) (hok:∀ m V,OkL m V segs) :
 ∃ E',E' H.length 0=none∧Ext E m (vers H) E' m (vers (H++[.mem t segs 0 (g+1)]))∧Rel E' C m (H++[.mem t segs 0 (g+1)]) w:=by
 let E':Env:=fun k v=>if k=H.length then none else E k v
 have hE:∀ k v,k < H.length→E' k v=E k v:=fun k v hk=>by simp only [E'];rw [if_neg (by omega)]
 have hlt:∀ k v,Vle (vers H) k v→k < H.length:=fun k v hv=>by have:=Z5a hv;simpa [vers] using this
 have hx:Ext E m (vers H) E' m (vers (H++[.mem t segs 0 (g+1)])):=⟨fun _ _ h=>h,fun k v hv=>by rw [Z1O];exact Z3c hv,fun k v hv=>hE k v (hlt k v hv)⟩
 have hget:∀ k B,(H++[SB.mem t segs 0 (g+1)])[k]?=some B→(k < H.length∧H[k]?=some B)∨(k=H.length∧B=.mem t segs 0 (g+1)):=fun k B hB=>by
  by_cases hk:k < H.length
  ·rw [List.getElem?_append_left hk] at hB;exact .inl ⟨hk,hB⟩
  ·have:=(List.getElem?_eq_some_iff.1 hB).1
   have hk':k=H.length:=by simp at this;omega
   subst hk'
   simp at hB
   exact .inr ⟨rfl,hB.symm⟩
 have hbl:∀ k b,Zk E' (H++[.mem t segs 0 (g+1)]) k b→Zk E H k b:=by
  rintro k b ⟨B,hB,hb⟩
  rcases hget k B hB with ⟨hk,hB'⟩ | ⟨_,rfl⟩
  ·refine ⟨B,hB',?_⟩
   cases B with
   | mem t segs ver gr=>obtain ⟨h0,c,he⟩:=hb;rw [hE k _ hk] at he;exact ⟨h0,c,he⟩
   | mp kv ver=>obtain ⟨c,he⟩:=hb;rw [hE k _ hk] at he;exact ⟨c,he⟩
   | gone v=>exact hb
   | fresh=>exact hb
  ·exact absurd rfl hb.1
 refine ⟨E',by simp [E'],hx,⟨h.os,h.tape,h.output,h.im,h.fr,h.mf,fun k B hB=>?_,fun k v hv h0=>?_,fun k b hb=>h.sp k b (hbl k b hb),fun j k b hj hk=>h.inj j k b (hbl j b hj) (hbl k b hk)⟩⟩
 ·rcases hget k B hB with ⟨hk,hB'⟩ | ⟨hk,rfl⟩
  ·exact (h.bl k B hB').mono hx (fun v _=>hE k v hk) (fun _ _=>rfl)
  ·exact ⟨hok _ _,fun _=>⟨hs _,by simp only [E'];rw [if_pos hk]⟩,fun h=>absurd rfl h⟩
 ·obtain ⟨B,hB,hl⟩:=Vle_iff.1 hv
  rcases hget k B hB with ⟨hk,hB'⟩ | ⟨_,rfl⟩
  ·rw [hE k v hk];exact h.nn k v (Vle_iff.2 ⟨B,hB',hl⟩) h0
  ·simp [SB.lim] at hl;omega
def Shift (S S':St):Prop:=∀ C E m a w,Rep E C m S a w→∃ E' m',Ext E m (vers S.h) E' m' (vers S'.h)∧Rep E' C m' S' a w
theorem WpC.shift {P:Program} {c:Code} {K:Exit→St→Prop} {S S':St} (hs:Shift S S') (h:WpC P c K S'):WpC P c K S:=by
 refine ⟨fun C E m a w hr=>?_⟩
 obtain ⟨E',m',h1,h2⟩:=hs C E m a w hr
 refine wp_mono (h.out C E' m' a w h2) ?_
 rintro e a' w' ⟨E2,m2,S2,k1,k2,k3⟩
 exact ⟨E2,m2,S2,k1,h1.trans k2,k3⟩
theorem OpC.shift {P:Program} {T:Tb} {ops:Array Oper} {o:Oper} {K:St→Prop} {S S':St} (hs:Shift S S') (h:OpC P T ops o K S'):OpC P T ops o K S:=by
 refine ⟨fun C E m a w hr=>?_⟩
 obtain ⟨E',m',h1,h2⟩:=hs C E m a w hr
 have h3:=h.out C E' m' a w h2
 unfold opW at h3 ⊢
 have next:∀ a' w',(∃ E2 m2 S2,K S2∧Ext E' m' (vers S'.h) E2 m2 (vers S2.h)∧Rep E2 C m2 S2 a' w')→∃ E2 m2 S2,K S2∧Ext E m (vers S.h) E2 m2 (vers S2.h)∧Rep E2 C m2 S2 a' w':=by
  rintro a' w' ⟨E2,m2,S2,k1,k2,k3⟩
  exact ⟨E2,m2,S2,k1,h1.trans k2,k3⟩
 split
 ·rename_i hw
  rw [if_pos hw] at h3
  exact ZU h3 next
 ·rename_i hw
  rw [if_neg hw] at h3
  exact next _ _ h3
theorem ZaH {t:List SV} {q:List (Nat×Bool)} {g:Bool} (h:GV t q g) {d:Nat} {x y:SV} (hd:t[d]?=some x) (hx:(∀ b,x≠.b b)∧∀ q' b,x≠.grd q' (.b b)):GV (t.set d y) q g:=by
 refine Z4g h fun n z hn hz hf=>?_
 have hne:n≠d:=fun e=>by
  subst e
  simp only [List.getD_eq_getElem?_getD,hd,Option.getD_some] at hz
  subst hz
  rcases hf with ⟨v,hv⟩ | ⟨q',v,hv⟩
  ·exact hx.1 v hv
  ·exact hx.2 q' v hv
 simp only [List.getD_eq_getElem?_getD,List.getElem?_set_ne (Ne.symm hne)]
 simpa only [List.getD_eq_getElem?_getD] using hz
theorem SlotOk.set_plain {E m V t v z} (h:SlotOk E m V t v z) {d:Nat} {x y:SV} (hd:t[d]?=some x) (hx:(∀ b,x≠.b b)∧∀ q' b,x≠.grd q' (.b b)):SlotOk E m V (t.set d y) v z:=by
 cases z <;> try exact h
 obtain ⟨g,hg,h1,h2⟩:=h
 exact ⟨g,ZaH hg hd hx,h1,h2⟩
theorem Shift.row {t:List SV} {h:List SB} {d:Nat} (hd:t[d]?=some .nils) (g:Nat) (ty:TypeId) (segs:List SV) (hs:∀ E,cellsL E segs=[]) (hok:∀ m V,OkL m V segs) :
 Shift ⟨t,h⟩ ⟨t.set d (.sl h.length 0 0 0 none 0),h++[.mem ty segs 0 (g+1)]⟩:=by
 intro C E m a w hr
 obtain ⟨E',e1,e2,e3⟩:=hr.rel.row0 g ty segs hs hok
 refine ⟨E',m,e2,?_,?_,hr.df,e3⟩
 ·simpa using hr.sz
 ·intro n x v hx hv
  have hlt:d < t.length:=(List.getElem?_eq_some_iff.1 hd).1
  by_cases hn:n=d
  ·subst hn
   rw [List.getElem?_set_self hlt] at hx
   cases hx
   have h0:=hr.sl n .nils v hd hv
   refine ⟨by simp only [Ok];exact ⟨Vle_iff.2 ⟨.mem ty segs 0 (g+1),by simp,by simp [SB.lim]⟩,fun _=>trivial⟩,?_⟩
   rw [h0.2]
   simp [den,wrapV,cells,e1]
  ·rw [List.getElem?_set_ne (Ne.symm hn)] at hx
   exact ((hr.sl n x v hx hv).mono e2).set_plain hd ⟨fun b=>by simp,fun q b=>by simp⟩
structure Joins (segs new segs':List SV):Prop where
 cells:∀ E,cellsL E segs'=cellsL E segs++cellsL E new
 ok:∀ m V,OkL m V segs→OkL m V new→OkL m V segs'
theorem Z7h {α:Type} (xs:List α) (y:α) (d:α) (f:α→List Value):(List.range (xs++[y]).length).flatMap (fun j=>f ((xs++[y]).getD j d))=(List.range xs.length).flatMap (fun j=>f (xs.getD j d))++f y:=by
 rw [List.length_append,List.length_singleton,List.range_succ,List.flatMap_append]
 congr 1
 ·rw [List.flatMap_def,List.flatMap_def]
  congr 1
  apply List.map_congr_left
  intro j hj
  have hj':j < xs.length:=by simpa using hj
  simp only [List.getD_eq_getElem?_getD,List.getElem?_append_left hj']
 ·simp
theorem Joins.arr {α:Type} {d:α} {n:Nat} {enc:α→List SV} {xs:List α} {y:α} {new:List SV} (hn:new=enc y) (hw:∀ x,wdL (enc x)=n):Joins [.arr xs.length α d n enc xs] new [.arr (xs++[y]).length α d n enc (xs++[y])]:=by
 subst hn
 refine ⟨fun E=>?_,fun m V h1 h2=>?_⟩
 ·simp only [cellsL,SX.cells,List.append_nil]
  exact Z7h xs y d fun x=>cellsL E (enc x)
 ·simp only [OkL,Ok,isUnit] at h1 ⊢
  refine ⟨⟨trivial,trivial,hw,fun j hj=>?_⟩,trivial⟩
  by_cases hj':j < xs.length
  ·have:=h1.1.2.2.2 j hj'
   simp only [List.getD_eq_getElem?_getD,List.getElem?_append_left hj']
   simpa only [List.getD_eq_getElem?_getD] using this
  ·have:j=xs.length:=by simp at hj;omega
   subst this
   simp only [List.getD_eq_getElem?_getD,List.getElem?_concat_length,Option.getD_some]
   exact h2
theorem Joins.ints {k:IntKind} {xs:List Int} {y:Int}:Joins [.ints k xs.length xs] [.ints k 1 [y]] [.ints k (xs++[y]).length (xs++[y])]:=by
 refine ⟨fun E=>?_,fun m V h1 h2=>?_⟩
 ·simp [cellsL,SX.cells]
 ·simp [OkL,Ok,isUnit]
section
section
variable {P:Program} {T:Tb}
end
end
section
section
variable {P:Program} {T:Tb}
variable {ops:Array Oper} {o:Oper}
end
end
section
theorem Rel.allocAt2 {E C m H w} (h:Rel E C m H w) {n:Nat} (hn:H[n]?=some .fresh) (B:SB) (o:Obj) (hB:B.lim=2) (cp:Nat) {w':World} (hw:w'.os=w.os∧w'.tape=w.tape∧w'.output=w.output∧w.drawn≤w'.drawn) (hheap:w'.heap=w.heap.push o)
 (hh:∀ E' V',(∀ k v,Vle (vers H) k v→E' k v=E k v)→(∀ k v,Vle (vers H) k v→Vle V' k v)→E' n 1=some (w.heap.size,cp)→Holds E' m V' w' n B) :
 ∃ E',E' n 1=some (w.heap.size,cp)∧Ext E m (vers H) E' m (vers (H.set n B))∧Rel E' C m (H.set n B) w':=by
 have hlen:n < H.length:=(List.getElem?_eq_some_iff.1 hn).1
 have hnv:∀ v,¬ Vle (vers H) n v:=fun v hv=>by
  obtain ⟨B',hB',hl⟩:=Vle_iff.1 hv
  rw [hn] at hB';cases hB';simp [SB.lim] at hl
 have hge:∀ k,k≠n→(H.set n B)[k]?=H[k]?:=fun k hk=>List.getElem?_set_ne (Ne.symm hk)
 have hgn:(H.set n B)[n]?=some B:=by simp [List.getElem?_set,hlen]
 have hx:Ext E m (vers H) (E.upd n 1 (w.heap.size,cp)) m (vers (H.set n B)):=by
  refine ⟨fun _ _ h=>h,fun k v hv=>?_,fun k v hv=>Zo _ _ fun e=>hnv v (e.1 ▸ hv)⟩
  have hk:k≠n:=fun e=>hnv v (e ▸ hv)
  obtain ⟨B',hB',hl⟩:=Vle_iff.1 hv
  exact Vle_iff.2 ⟨B',by rw [hge k hk];exact hB',hl⟩
 refine ⟨E.upd n 1 (w.heap.size,cp),Zn ..,hx,?_⟩
 have hold:∀ i,i < w.heap.size→w'.heap[i]?=w.heap[i]?:=fun i hi=>by
  rw [hheap,Array.getElem?_push,if_neg (by omega)]
 have hfresh:∀ b o',w.heap[b]?=some o'→b < w.heap.size:=fun b o' hb=>Zw hb
 have hbl:∀ k b,Zk (E.upd n 1 (w.heap.size,cp)) (H.set n B) k b→(k≠n∧Zk E H k b)∨(k=n∧b=w.heap.size):=by
  rintro k b ⟨B',hB',hb⟩
  by_cases hk:k=n
  ·right
   subst hk
   rw [hgn] at hB';cases hB'
   refine ⟨rfl,?_⟩
   cases B with
   | mem t segs ver gr=>
     simp [SB.lim] at hB
     subst hB
     obtain ⟨_,c,he⟩:=hb
     rw [Zn] at he;cases he;rfl
   | mp kv ver=>
     simp [SB.lim] at hB
     subst hB
     obtain ⟨c,he⟩:=hb
     rw [Zn] at he;cases he;rfl
   | gone v=>exact hb.elim
   | fresh=>exact hb.elim
  ·left
   rw [hge k hk] at hB'
   refine ⟨hk,B',hB',?_⟩
   cases B' with
   | mem t segs ver gr=>
     obtain ⟨h0,c,he⟩:=hb
     rw [Zo _ _ (fun e=>hk e.1)] at he
     exact ⟨h0,c,he⟩
   | mp kv ver=>
     obtain ⟨c,he⟩:=hb
     rw [Zo _ _ (fun e=>hk e.1)] at he
     exact ⟨c,he⟩
   | gone v=>exact hb
   | fresh=>exact hb
 have hsm:m w.heap.size=none:=by
  cases hm:m w.heap.size with
  | none=>rfl
  | some o'=>have:=hfresh _ _ (h.im _ _ hm);omega
 have hsf:C.F w.heap.size=none:=by
  cases hm:C.F w.heap.size with
  | none=>rfl
  | some o'=>have:=hfresh _ _ (h.fr _ _ hm);omega
 have hlt:∀ k b,Zk E H k b→b < w.heap.size:=fun k b hb=>by
  obtain ⟨B',hB',hb'⟩:=hb
  obtain ⟨o',ho'⟩:=(h.bl k B' hB').block hB' b ⟨B',hB',hb'⟩
  exact hfresh _ _ ho'
 refine ⟨hw.1.trans h.os,hw.2.1.trans h.tape,⟨hw.2.2.1.trans h.output.1,h.output.2.trans hw.2.2.2⟩,fun b o' hb=>?_,fun b o' hb=>?_,h.mf,fun k B' hB'=>?_,fun k v hv hv0=>?_,fun k b hb=>?_,fun j k b hj hk=>?_⟩
 ·have:=h.im b o' hb;rw [hold b (hfresh _ _ this)];exact this
 ·have:=h.fr b o' hb;rw [hold b (hfresh _ _ this)];exact this
 ·by_cases hk:k=n
  ·subst hk
   rw [hgn] at hB';cases hB'
   exact hh _ _ hx.ee hx.vv (Zn ..)
  ·rw [hge k hk] at hB'
   have hh':=h.bl k B' hB'
   exact hh'.mono hx (fun v hv=>Zo _ _ (fun e=>hk e.1)) (fun b hb=>hold b (hlt k b ⟨B',hB',hb⟩))
 ·by_cases hk:k=n
  ·subst hk
   obtain ⟨B',hB',hl⟩:=Vle_iff.1 hv
   rw [hgn] at hB';cases hB'
   have:v=1:=by omega
   subst this
   exact ⟨_,_,Zn ..⟩
  ·rw [Zo _ _ (fun e=>hk e.1)]
   obtain ⟨B',hB',hl⟩:=Vle_iff.1 hv
   rw [hge k hk] at hB'
   exact h.nn k v (Vle_iff.2 ⟨B',hB',hl⟩) hv0
 ·rcases hbl k b hb with ⟨_,hb'⟩ | ⟨_,rfl⟩
  ·exact h.sp k b hb'
  ·exact ⟨hsm,hsf⟩
 ·rcases hbl j b hj with ⟨_,hj'⟩ | ⟨rfl,hbs⟩ <;> rcases hbl k b hk with ⟨_,hk'⟩ | ⟨rfl,hbs'⟩
  ·exact h.inj j k b hj' hk'
  ·have:=hlt j b hj';omega
  ·have:=hlt k b hk';omega
  ·rfl
def Z1B (segs:List SV) (off n:Nat):Option (List SV):=
 match ZI segs off with
 | some l=>Z17 l n
 | none=>none
theorem Z5F {m:Mem} {V:List Nat} (E:Env) {segs l:List SV} {off n:Nat} (h:Z1B segs off n=some l) (ho:OkL m V segs):OkL m V l∧(cellsL E l).length=n∧∀ u c,(cellsL E l)[u]?=some c→(cellsL E segs)[off+u]?=some c:=by
 unfold Z1B at h
 cases hd:ZI segs off with
 | none=>rw [hd] at h;simp at h
 | some r=>
   rw [hd] at h
   simp only at h
   obtain ⟨o1,h1⟩:=Z2L E hd ho
   obtain ⟨r2,e2,w2⟩:=Z2v h
   subst e2
   have o2:=OkL_append.1 o1
   refine ⟨o2.1,by rw [length_cellsL E l V o2.1,w2],fun u c hc=>h1 u c ?_⟩
   rw [Zl,List.getElem?_append_left (List.getElem?_eq_some_iff.1 hc).1]
   exact hc
theorem Z6f {E C m H w} (hr:Rel E C m H w) {j vj:Nat} {e:TypeId} {segs:List SV} {gj:Nat} (hj:H[j]?=some (.mem e segs vj gj)) (hv:vj≠0) :
 ∃ b c,E j vj=some (b,c)∧OkL m (vers H) segs∧∀ u c,(cellsL E segs)[u]?=some c→w.cell? ⟨b,u,none⟩=some c:=by
 have:=hr.bl j _ hj
 cases gj with
 | zero=>obtain ⟨h0,b,c,h1,h2,h3⟩:=this;exact ⟨b,c,h1,h3,fun u v hu=>by rw [Z1E h2];exact hu⟩
 | succ gj=>
   obtain ⟨h1,_,h2⟩:=this
   obtain ⟨b,c,sp,h3,h4,_⟩:=h2 hv
   exact ⟨b,c,h3,h1,fun u v hu=>by rw [Z1E h4,List.getElem?_append_left (List.getElem?_eq_some_iff.1 hu).1];exact hu⟩
def Z5d (l:List UInt8):List Int:=l.map fun c=>(c.toNat:Int)
inductive SrcA (T:Tb) (t:List SV) (h:List SB) (x:Operand) (tx:TypeId) (sz:Nat):Nat→List SV→List Nat→Prop where
 | nil {ti:TI} {e:TypeId}:evG [] t x=.nils→T tx=some ti→ti.k=.slice e→SrcA T t h x tx sz 0 [] []
 | sl {ti:TI} {e:TypeId} {j vj off n:Nat} {cj:Option Nat} {dj:Nat} {e2:TypeId} {segs news:List SV} {gj:Nat}:evG [] t x=.sl j vj off n cj dj→T tx=some ti→ti.k=.slice e→h[j]?=some (.mem e2 segs vj gj)→vj≠0→Z1B segs off (n * sz)=some news→SrcA T t h x tx sz n news [j]
 | sl0 {ti:TI} {e:TypeId} {j vj off:Nat} {cj:Option Nat} {dj:Nat}:evG [] t x=.sl j vj off 0 cj dj→T tx=some ti→ti.k=.slice e→SrcA T t h x tx sz 0 [] []
 | str {ti:TI} {l:List UInt8}:evG [] t x=.s l→T tx=some ti→ti.k=.str→sz=1→SrcA T t h x tx sz l.length [.ints .u8 l.length (Z5d l)] []
 | imm {ti:TI} {e:TypeId} {α:Type} {d:α} {enc:α→List SV} {xs:List α} {a:Option Addr} {cap:Nat}:evG [] t x=.imm α d sz enc xs a cap→T tx=some ti→ti.k=.slice e→SrcA T t h x tx sz xs.length [.arr xs.length α d sz enc xs] []
theorem SrcA.like {T:Tb} {t t':List SV} {h h':List SB} {x:Operand} {tx:TypeId} {sz n:Nat} {news:List SV} {rb:List Nat} (hs:SrcA T t h x tx sz n news rb) (he:evG [] t' x=evG [] t x) (hh:∀ k ∈ rb,h'[k]?=h[k]?):SrcA T t' h' x tx sz n news rb:=by
 cases hs with
 | nil h1 h2 h3=>exact .nil (by rw [he,h1]) h2 h3
 | sl h1 h2 h3 h4 h5 h6=>exact .sl (by rw [he,h1]) h2 h3 (by rw [hh _ (by simp)];exact h4) h5 h6
 | sl0 h1 h2 h3=>exact .sl0 (by rw [he,h1]) h2 h3
 | str h1 h2 h3 h4=>exact .str (by rw [he,h1]) h2 h3 h4
 | imm h1 h2 h3=>exact .imm (by rw [he,h1]) h2 h3
section
variable {P:Program} {T:Tb}
theorem SrcA.ok (hT:TabOk P T) {t:List SV} {h:List SB} {x:Operand} {tx:TypeId} {sz n:Nat} {news:List SV} {rb:List Nat} (hs:SrcA T t h x tx sz n news rb) {C E m a w} (hr:Rep E C m ⟨t,h⟩ a w) :
 Src P sz tx (a.eval x) n (cellsL E news) w∧OkL m (vers h) news:=by
 have hevs:=hr.evs .nil
 cases hs with
 | nil h1 h2 h3=>
   obtain ⟨g,ex⟩:=hevs.live (o:=x) (by rw [h1];rfl)
   rw [ex,h1,den_v.2.2.2.2]
   exact ⟨Src.ofNil w ((hT.ti _ _ h2).slice h3) 0,trivial⟩
 | sl h1 h2 h3 h4 h5 h6=>
   rename_i ti e j vj off cj dj e2 segs gj
   obtain ⟨g,ex⟩:=hevs.live (o:=x) (by rw [h1];rfl)
   obtain ⟨b,c,k1,k2,k3⟩:=Z6f hr.rel h4 h5
   obtain ⟨o1,o2,o3⟩:=Z5F E h6 k2
   refine ⟨?_,o1⟩
   have hv:a.eval x=.slice (some ⟨b,if cj=none∧n=0∧c=dj then 0 else off,none⟩) n (cj.getD (c - dj)):=by rw [ex,h1];simp [den,wrapV,cells,k1]
   rw [hv]
   refine Src.ofSlice w ((hT.ti _ _ h2).slice h3) _ n _ _ o2 (fun u v hu=>?_) (oneCell_cellsL E _ _ o1)
   have hn:n≠0:=fun e=>by
    have:=(List.getElem?_eq_some_iff.1 hu).1
    rw [o2,e,Nat.zero_mul] at this;omega
   rw [if_neg (fun h=>hn h.2.1),ZD];exact k3 _ _ (o3 u v hu)
 | sl0 h1 h2 h3=>
   rename_i ti e j vj off cj dj
   obtain ⟨g,ex⟩:=hevs.live (o:=x) (by rw [h1];rfl)
   refine ⟨?_,trivial⟩
   have hv:∃ o c,a.eval x=.slice o 0 c:=by
    rw [ex,h1]
    simp only [den,wrapV,cells,List.headD_cons]
    cases E j vj with
    | none=>exact ⟨_,_,rfl⟩
    | some q=>exact ⟨_,_,rfl⟩
   obtain ⟨o,c,hv⟩:=hv
   rw [hv]
   cases o with
   | none=>exact Src.ofNil w ((hT.ti _ _ h2).slice h3) c
   | some ad=>exact Src.ofSlice w ((hT.ti _ _ h2).slice h3) ad 0 c [] (by simp) (fun u v hu=>by simp at hu) (fun u hu=>by cases hu)
 | str h1 h2 h3 h4=>
   rename_i ti l
   subst h4
   obtain ⟨g,ex⟩:=hevs.live (o:=x) (by rw [h1];rfl)
   refine ⟨?_,by simp [OkL,Ok,isUnit,Z5d]⟩
   rw [ex,h1,den_v.2.2.1]
   have:=Src.ofString (P:=P) w ((hT.ti _ _ h2).str h3) ⟨⟨l⟩⟩
   have e1:byteCells ⟨⟨l⟩⟩=cellsL E [.ints .u8 l.length (Z5d l)]:=by
    simp [byteCells,cellsL,cells,Z5d,List.map_map]
   rw [e1] at this
   exact this
 | imm h1 h2 h3=>
   rename_i ti e α d enc xs ad cap
   obtain ⟨g,ex⟩:=hevs.live (o:=x) (by rw [h1];rfl)
   rw [h1] at g ex
   have ho:=g.1
   simp only [Ok] at ho
   obtain ⟨o1,o2,o3,o4⟩:=ho
   have hok:OkL m (vers h) [.arr xs.length α d sz enc xs]:=by
    simp only [OkL,Ok,isUnit,and_true,true_and]
    exact ⟨o3,fun j hj=>(o4 j hj).up⟩
   have hlen:(cellsL E [SV.arr xs.length α d sz enc xs]).length=xs.length * sz:=by rw [length_cellsL E _ _ hok];simp [wdL,wd]
   refine ⟨?_,hok⟩
   have hv:a.eval x=.slice ad xs.length cap:=by rw [ex];simp only [den,wrapV,cells,List.headD_cons]
   rw [hv]
   by_cases hx:xs=[]
   ·subst hx
    have e1:cellsL E [SV.arr ([]:List α).length α d sz enc []]=[]:=List.eq_nil_of_length_eq_zero (by rw [hlen];simp)
    rw [e1]
    cases ad with
    | none=>exact Src.ofNil w ((hT.ti _ _ h2).slice h3) cap
    | some ad=>exact Src.ofSlice w ((hT.ti _ _ h2).slice h3) ad 0 cap [] (by simp) (fun u v hu=>by simp at hu) (fun u hu=>by cases hu)
   ·obtain ⟨ad',arr,ty,fr,rfl,e2,e3,e4⟩:=o2 hx
    refine Src.ofSlice w ((hT.ti _ _ h2).slice h3) _ _ _ _ hlen (fun u v hu=>?_) (oneCell_cellsL E _ _ hok)
    have hul:=(List.getElem?_eq_some_iff.1 hu).1
    rw [hlen] at hul
    have hsz:0 < sz:=Nat.pos_of_ne_zero fun e=>by subst e;simp at hul
    have hj:u / sz < xs.length:=by rw [Nat.div_lt_iff_lt_mul hsz];exact hul
    have hm:u % sz < sz:=Nat.mod_lt _ hsz
    have hle:(cellsL E (enc (xs.getD (u / sz) d))).length=sz:=by rw [length_cellsL E _ _ ((o4 _ hj).up (V:=vers h)),o3]
    obtain ⟨vv,hc⟩:∃ vv,(cellsL E (enc (xs.getD (u / sz) d)))[u % sz]?=some vv:=⟨_,List.getElem?_eq_getElem (by omega)⟩
    have hall:=Z37 (E:=E) (by have:=hok;simp only [OkL] at this;exact this.1.2) hj hc
    rw [Nat.div_add_mod' u sz] at hall
    have hu':(cells E (.arr xs.length α d sz enc xs))[u]?=some v:=by simpa [cellsL] using hu
    rw [hall] at hu'
    cases hu'
    rw [Z4c e2]
    have him:=hr.rel.im _ _ e3
    rw [show ad'.off+u=ad'.off+(u / sz) * sz+u % sz by have:=Nat.div_add_mod' u sz;omega]
    simp only [World.cell?,him]
    have hc0:=hc
    rw [(o4 _ hj).E0] at hc0
    rw [e4 _ hj _ _ hc0]
    simp
inductive BaseA (t:List SV) (h:List SB) (s:Operand) (sz:Nat):Nat→Nat→List SV→List Nat→Prop where
 | nil:evG [] t s=.nils→BaseA t h s sz 0 0 [] []
 | sl0 {k ver off c dc:Nat}:evG [] t s=.sl k ver off 0 (some c) dc→BaseA t h s sz 0 c [] []
 | sl {k ver off len c dc:Nat} {e2:TypeId} {segs olds:List SV} {gj:Nat}:evG [] t s=.sl k ver off len (some c) dc→h[k]?=some (.mem e2 segs ver gj)→ver≠0→Z1B segs off (len * sz)=some olds→BaseA t h s sz len c olds [k]
theorem BaseA.like {t t':List SV} {h h':List SB} {s:Operand} {sz len cap:Nat} {olds:List SV} {rb:List Nat} (hs:BaseA t h s sz len cap olds rb) (he:evG [] t' s=evG [] t s) (hh:∀ k ∈ rb,h'[k]?=h[k]?):BaseA t' h' s sz len cap olds rb:=by
 cases hs with
 | nil h1=>exact .nil (by rw [he,h1])
 | sl0 h1=>exact .sl0 (by rw [he,h1])
 | sl h1 h4 h5 h6=>exact .sl (by rw [he,h1]) (by rw [hh _ (by simp)];exact h4) h5 h6
theorem BaseA.ok {t:List SV} {h:List SB} {s:Operand} {sz len cap:Nat} {olds:List SV} {rb:List Nat} (hs:BaseA t h s sz len cap olds rb) {C E m a w} (hr:Rep E C m ⟨t,h⟩ a w) :
 ∃ base,a.eval s=.slice base len cap∧(Builtin.firstCells sz len (.slice base len cap)).run P w.drew=.ok (cellsL E olds).toArray w.drew∧OkL m (vers h) olds∧(cellsL E olds).length=len * sz:=by
 have hevs:=hr.evs .nil
 have zero:∀ (base:Option Addr) (c:Nat),(Builtin.firstCells sz 0 (.slice base 0 c)).run P w.drew=.ok #[] w.drew:=fun base c=>by
  cases base with
  | none=>exact run_firstCells_none _ _ _ _ _
  | some ad=>exact run_firstCells_some w.drew sz 0 ad 0 c [] (by simp) (fun u v hu=>by simp at hu)
 cases hs with
 | nil h1=>
   obtain ⟨g,ex⟩:=hevs.live (o:=s) (by rw [h1];rfl)
   exact ⟨none,by rw [ex,h1,den_v.2.2.2.2],zero _ _,trivial,by simp [cellsL]⟩
 | sl0 h1=>
   rename_i k ver off dc
   obtain ⟨g,ex⟩:=hevs.live (o:=s) (by rw [h1];rfl)
   have hv:∃ o,a.eval s=.slice o 0 cap:=by
    rw [ex,h1]
    simp only [den,wrapV,cells,List.headD_cons,Option.getD_some]
    cases E k ver with
    | none=>exact ⟨_,rfl⟩
    | some q=>exact ⟨_,rfl⟩
   obtain ⟨o,hv⟩:=hv
   exact ⟨o,hv,zero _ _,trivial,by simp [cellsL]⟩
 | sl h1 h4 h5 h6=>
   rename_i k ver off dc e2 segs gj
   obtain ⟨g,ex⟩:=hevs.live (o:=s) (by rw [h1];rfl)
   obtain ⟨b,c,k1,k2,k3⟩:=Z6f hr.rel h4 h5
   obtain ⟨o1,o2,o3⟩:=Z5F E h6 k2
   refine ⟨some ⟨b,off,none⟩,by rw [ex,h1];simp [den,wrapV,cells,k1],?_,o1,o2⟩
   exact run_firstCells_some w.drew sz len _ len cap _ o2 (fun u v hu=>by rw [ZD];simpa using k3 _ _ (o3 u v hu))
variable {ops:Array Oper} {o:Oper}
def appE (o:Oper) (p len n g:Nat) (e:TypeId) (segs:List SV) (rb:List Nat):Eff:=⟨o.dst,.sl p 1 0 (len+n) none 0,Zc o [],p::rb,[(p,.mem e segs 1 (g+1))]⟩
theorem Z70 (hT:TabOk P T) {t:List SV} {h:List SB} {s x:Operand} {ty tx e:TypeId} (hop:o.op=.call { callee:=.builtin .append,args:=#[s,x],argTypes:=#[ty,tx] }) (hg:Zt ops t o=some []) {ti te:TI} (ht:T ty=some ti) (hk:ti.k=.slice e) (hte:T e=some te) {g:Nat} (hsz:te.size=g+1)
 {len cap n:Nat} {olds news segs':List SV} {rb rb2:List Nat} (hb:BaseA t h s te.size len cap olds rb) (hs:SrcA T t h x tx te.size n news rb2) {p:Nat} (hp:h[p]?=some .fresh) (hj:Joins olds news segs') (hgr:cap < len+n) (h63:len+n≤maxLen) (hby:(len+n) * te.bytes≤140737488355328) :
 Yld P ops o (appE o p len n g e segs' (rb++rb2)) ⟨t,h⟩:=by
 refine ⟨fun S' _ _ h1 h2 h3 C E m a w hr=>?_⟩
 have hlk:Like (Zc o []) t S'.t:=h1
 have hops:=ZO hlk
 rw [hop] at hops
 have es:evG [] S'.t s=evG [] t s:=ZL (hops s (by simp [Op.operands,Call.operands]))
 have ex:evG [] S'.t x=evG [] t x:=ZL (hops x (by simp [Op.operands,Call.operands]))
 obtain ⟨t',h'⟩:=S'
 have hb':=hb.like (t':=t') (h':=h') es fun k hk=>h2 k (List.mem_cons_of_mem _ (List.mem_append_left _ hk))
 have hs':=hs.like (t':=t') (h':=h') ex fun k hk=>h2 k (List.mem_cons_of_mem _ (List.mem_append_right _ hk))
 have hp':h'[p]?=some .fresh:=by rw [h2 p (by simp [appE])];exact hp
 have hg':=Z14 hg (Z1j hlk)
 unfold opW
 rw [show Region.wanted o (yielded ops a.tmps)=true by simp [Region.wanted,Z1f hg'],if_pos rfl]
 obtain ⟨base,e1,e2,e3,e4⟩:=hb'.ok (P:=P) hr
 obtain ⟨s1,s2⟩:=hs'.ok hT hr
 have hti:=hT.ti ty ti ht
 have hti':=hT.ti e te hte
 obtain ⟨i,z,hi,hsi,hbi,hz,hzc⟩:=hti'.inf
 have hzs:z.cells.size=te.size:=by
  rw [← Array.length_toList,hzc,length_cellsL E0 _ _ hti'.zok];exact hti'.zw
 have hsmall:len+n≤9223372036854775807:=by simp only [maxLen] at h63;omega
 have hrun0:=run_append_grow_src (P:=P) w ty tx o.type e i z (hti.slice hk) hi hz base len cap (cellsL E olds) (by rw [hsi];exact e2) (a.eval x) n (cellsL E news) (by rw [hsi];exact s1) hgr (by omega) (growslice_fits hgr (by rw [hbi];exact hby))
 have hge:=grownCap_ge w (len+n) cap e
 have hcl:(cellsL E segs').length=(len+n) * te.size:=by rw [hj.cells,List.length_append,e4,s1.newsLen,Nat.add_mul]
 have hok':=hj.ok m (vers h') e3 s2
 obtain ⟨E',k1,k2,k3⟩:=hr.rel.allocAt2 (n:=p) hp' (.mem e segs' 1 (g+1)) (.cells ((cellsL E olds++cellsL E news).toArray++Builtin.zeroCells z.cells (grownCap w (len+n) cap e - (len+n))) e) rfl (grownCap w (len+n) cap e)
  (w':=w.drew.alloc (.cells ((cellsL E olds++cellsL E news).toArray++Builtin.zeroCells z.cells (grownCap w (len+n) cap e - (len+n))) e)) ⟨rfl,rfl,rfl,by first | exact Nat.le_refl _ | exact Nat.le_succ _⟩ rfl (fun E' V' hE hV hl=>by
  refine ⟨OkL.mono (fun _ _ h=>h) _ _ _ hV hok',fun e=>by omega,fun _=>⟨w.heap.size,grownCap w (len+n) cap e,(Builtin.zeroCells z.cells (grownCap w (len+n) cap e - (len+n))).toList,hl,?_,?_,grownCap_le_maxLen w (len+n) cap e h63⟩⟩
  ·rw [cellsL_stable hE _ hok',hj.cells]
   refine (heap_alloc_new w.drew _).trans ?_
   congr 2
   apply Array.ext'
   simp
  ·rw [cellsL_stable hE _ hok',hcl,Array.length_toList,size_zeroCells,hzs,← hsz,← Nat.add_mul]
   congr 1;omega)
 have hrun:(execOp a.eval o).run P w=.ok (.value (.slice (some ⟨w.heap.size,0,none⟩) (len+n) (grownCap w (len+n) cap e))) (w.drew.alloc (.cells ((cellsL E olds++cellsL E news).toArray++Builtin.zeroCells z.cells (grownCap w (len+n) cap e - (len+n))) e)):=by
  simp only [execOp,hop,resolve,invoke,builtin,Sem.run_bind,Sem.run_pure,Result.andThen_ok,List.map_toArray,List.map_cons,List.map_nil,e1,hrun0]
 simp only [Oper.wp,hrun,Oper.upon]
 have hlt:p < h'.length:=(List.getElem?_eq_some_iff.1 hp').1
 refine ⟨E',m,k2,?_⟩
 have:=(hr.up k2 k3).put o.dst (x:=.sl p 1 0 (len+n) none 0) (v:=.slice (some ⟨w.heap.size,0,none⟩) (len+n) (grownCap w (len+n) cap e)) fun d hd=>by
  have hv:Value.slice (some ⟨w.heap.size,0,none⟩) (len+n) (grownCap w (len+n) cap e)=den E' (.sl p 1 0 (len+n) none 0):=by simp [den,wrapV,cells,k1]
  rw [hv]
  exact Z1p ⟨by simp only [Ok];exact ⟨Vle_iff.2 ⟨.mem e segs' 1 (g+1),by simp [List.getElem?_set,hlt],by simp [SB.lim]⟩,fun e=>by omega⟩,rfl⟩
 have hpc:putF t' o.dst (.sl p 1 0 (len+n) none 0)=setT t' o.dst (.sl p 1 0 (len+n) none 0):=ZQ h3
 simp only at this
 rw [hpc] at this
 exact this
end
end
section
section
variable {P:Program} {T:Tb}
theorem Z5W (w:World) (t tx ty e:TypeId) (i:TypeInfo) (ht:P.underlying t=some (.slice e)) (hi:P.info? e=some i) (b off sLen sCap:Nat) (x:Value) (n:Nat) (news:List Value) (hs:Src P i.size tx x n news w)
 (hroom:sLen+n≤sCap) {A:List Value} {te:TypeId} (hA:w.heap[b]?=some (.cells A.toArray te (0,0))) (hfit:off+sLen * i.size+news.length≤A.length) :
 (Builtin.append_ #[t,tx] ty #[.slice (some ⟨b,off,none⟩) sLen sCap,x]).run P w=.ok (.slice (some ⟨b,off,none⟩) (sLen+n) sCap) (Z13 w b (.cells (splV A (off+sLen * i.size) news).toArray te (0,0))):=by
 have hst:=Z3l (P:=P) news w b (off+sLen * i.size) 0 A te hA hs.one (by simpa using hfit)
 simp only [Nat.add_zero] at hst
 rcases hs.kind with ⟨e',hk⟩ | hk <;> simp [Builtin.append_,run_underlying ht,run_underlying hk,sizeOf,typeInfo,hi,hs.len,hroom,hs.cells,Addr.add_lit,hst]
theorem Z4C (w:World) (t tx ty e:TypeId) (i:TypeInfo) (ht:P.underlying t=some (.slice e)) (hi:P.info? e=some i) (base:Option Addr) (sLen sCap:Nat) (x:Value) (hs:Src P i.size tx x 0 [] w)
 (hroom:sLen≤sCap):(Builtin.append_ #[t,tx] ty #[.slice base sLen sCap,x]).run P w=.ok (.slice base sLen sCap) w:=by
 rcases hs.kind with ⟨e',hk⟩ | hk <;> cases base <;> simp [Builtin.append_,run_underlying ht,run_underlying hk,sizeOf,typeInfo,hi,hs.len,hroom,hs.cells,storeCells]
theorem ZbL (hT:TabOk P T) {E C m H w} (hr:Rel E C m H w) {ty tx e:TypeId} {ti te:TI} (ht:T ty=some ti) (hk:ti.k=.slice e) (hte:T e=some te) {g:Nat} (hsz:te.size=g+1) {k ver len:Nat} {segs:List SV} (hh:H[k]?=some (.mem e segs ver (g+1)))
 (hlen:wdL segs=len * te.size) (h0:ver=0→len=0) {x:Value} {n:Nat} {news:List Value} (hs:Src P te.size tx x n news w)
 (hn:0 < n) (h63:len+n≤maxLen) (hby:(len+n) * te.bytes≤140737488355328) (rt:TypeId) :
 ∃ w' b' c' spare,(Builtin.append_ #[ty,tx] rt #[den E (.sl k ver 0 len none 0),x]).run P w=.ok (.slice (some ⟨b',0,none⟩) (len+n) c') w' ∧
   (w'.os=w.os∧w'.tape=w.tape∧w'.output=w.output∧w.drawn≤w'.drawn)∧((ver≠0∧∃ c,E k ver=some (b',c))∨w.heap.size≤b')∧(∀ i,i < w.heap.size→i≠b'→w'.heap[i]?=w.heap[i]?) ∧
   w'.heap[b']?=some (.cells (cellsL E segs++news++spare).toArray e (0,0))∧(cellsL E segs++news).length+spare.length=c' * (g+1)∧c'≤maxLen:=by
 have hti:=hT.ti ty ti ht
 have hti':=hT.ti e te hte
 obtain ⟨i,z,hi,hs',hb,hz,hzc⟩:=hti'.inf
 have hzs:z.cells.size=te.size:=by
  rw [← Array.length_toList,hzc,length_cellsL E0 _ _ hti'.zok];exact hti'.zw
 obtain ⟨ho,hv0,hv1⟩:=hr.bl k _ hh
 have hcl:(cellsL E segs).length=len * te.size:=by rw [length_cellsL E _ _ ho];exact hlen
 have hl:=hs.newsLen
 have hsmall:len+n≤9223372036854775807:=by simp only [maxLen] at h63;omega
 by_cases hver:ver=0
 ·obtain ⟨e1,e2⟩:=hv0 hver
  have hl0:=h0 hver
  subst hver;subst hl0
  have hr1:=run_append_grow_src (P:=P) w ty tx rt e i z (hti.slice hk) hi hz none 0 0 [] (run_firstCells_none _ _ _ _ _) x n news (by rw [hs'];exact hs) (by omega) (by omega) (growslice_fits (by omega) (by rw [hb];exact hby))
  simp only [List.nil_append,Nat.zero_add] at hr1
  refine ⟨w.drew.alloc (.cells (news.toArray++Builtin.zeroCells z.cells (grownCap w n 0 e - n)) e),w.heap.size,grownCap w n 0 e,(Builtin.zeroCells z.cells (grownCap w n 0 e - n)).toList,?_,⟨rfl,rfl,rfl,by first | exact Nat.le_refl _ | exact Nat.le_succ _⟩,.inr (Nat.le_refl _),fun j hj hne=>heap_alloc_old w.drew _ hj,?_,?_,grownCap_le_maxLen w n 0 e (by simpa using h63)⟩
  ·simp only [den,wrapV,cells,e2,List.headD_cons,Option.getD_none,Nat.zero_add]
   exact hr1
  ·refine (heap_alloc_new w.drew _).trans ?_
   rw [e1]
   congr 2
   apply Array.ext'
   simp
  ·have hge:=grownCap_ge w n 0 e
   simp only [e1,List.nil_append,Array.length_toList,size_zeroCells,hzs,hl,← Nat.add_mul,← hsz]
   congr 1;omega
 ·obtain ⟨b,cp,spare,e1,e2,e3,e4⟩:=hv1 hver
  have hval:den E (.sl k ver 0 len none 0)=.slice (some ⟨b,0,none⟩) len cp:=by simp [den,wrapV,cells,e1]
  rw [hval]
  rw [← hsz] at e3 ⊢
  by_cases hroom:len+n≤cp
  ·have hfit:0+len * i.size+news.length≤(cellsL E segs++spare).length:=by
    simp only [List.length_append]
    rw [e3,hl,hs',Nat.zero_add,← Nat.add_mul];exact Nat.mul_le_mul_right _ hroom
   have hr1:=Z5W (P:=P) w ty tx rt e i (hti.slice hk) hi b 0 len cp x n news (by rw [hs'];exact hs) hroom e2 hfit
   have hspare:spare.length=cp * te.size - len * te.size:=by omega
   have hle:news.length≤spare.length:=by
    rw [hl,hspare,← Nat.sub_mul];exact Nat.mul_le_mul_right _ (by omega)
   refine ⟨_,b,cp,spare.drop news.length,hr1,⟨rfl,rfl,rfl,by first | exact Nat.le_refl _ | exact Nat.le_succ _⟩,.inl ⟨hver,cp,e1⟩,fun j hj hne=>Z62 hne _,?_,?_,e4⟩
   ·rw [Z3v (Zw e2)]
    have t1:(cellsL E segs++spare).take (cellsL E segs).length=cellsL E segs:=by simp
    have t2:(cellsL E segs++spare).drop ((cellsL E segs).length+news.length)=spare.drop news.length:=by rw [← List.drop_drop];simp
    simp only [splV,hs',Nat.zero_add,← hcl,t1,t2]
   ·simp only [List.length_append,List.length_drop];omega
  ·have holds:(Builtin.firstCells i.size len (.slice (some ⟨b,0,none⟩) len cp)).run P w.drew=.ok (cellsL E segs).toArray w.drew:=by
    refine run_firstCells_some w.drew i.size len _ len cp _ (by rw [hs'];exact hcl) (fun j u hj=>?_)
    rw [ZD,Nat.zero_add]
    have hjl:=(List.getElem?_eq_some_iff.1 hj).1
    show w.cell? _=_
    rw [Z1E e2,List.getElem?_append_left hjl]
    exact hj
   have hr1:=run_append_grow_src (P:=P) w ty tx rt e i z (hti.slice hk) hi hz (some ⟨b,0,none⟩) len cp (cellsL E segs) holds x n news (by rw [hs'];exact hs) (by omega) (by omega) (growslice_fits (by omega) (by rw [hb];exact hby))
   refine ⟨_,w.heap.size,grownCap w (len+n) cp e,(Builtin.zeroCells z.cells (grownCap w (len+n) cp e - (len+n))).toList,hr1,⟨rfl,rfl,rfl,by first | exact Nat.le_refl _ | exact Nat.le_succ _⟩,.inr (Nat.le_refl _),fun j hj hne=>heap_alloc_old w.drew _ hj,?_,?_,grownCap_le_maxLen w (len+n) cp e h63⟩
   ·refine (heap_alloc_new w.drew _).trans ?_
    congr 2
    apply Array.ext'
    simp
   ·have hge:=grownCap_ge w (len+n) cp e
    simp only [List.length_append,Array.length_toList,size_zeroCells,hzs,hl,hcl,← Nat.add_mul]
    congr 1;omega
variable {ops:Array Oper} {o:Oper}
def rowE (o:Oper) (k ver len n g:Nat) (e:TypeId) (segs:List SV) (rb:List Nat):Eff:=⟨o.dst,.sl k (ver+1) 0 (len+n) none 0,Zc o [],k::rb,[(k,.mem e segs (ver+1) (g+1))]⟩
theorem ZA (hT:TabOk P T) {t:List SV} {h:List SB} {s x:Operand} {ty tx e:TypeId} (hop:o.op=.call { callee:=.builtin .append,args:=#[s,x],argTypes:=#[ty,tx] }) (hg:Zt ops t o=some []) {ti te:TI} (ht:T ty=some ti) (hk:ti.k=.slice e) (hte:T e=some te) {g:Nat} (hsz:te.size=g+1)
 {k ver len n:Nat} (hb:evG [] t s=.sl k ver 0 len none 0) {segs news segs':List SV} (hh:h[k]?=some (.mem e segs ver (g+1))) (hlen:wdL segs=len * te.size) {rb:List Nat} (hs:SrcA T t h x tx te.size n news rb) (hj:Joins segs news segs') (hn:0 < n) (h63:len+n≤maxLen) (hby:(len+n) * te.bytes≤140737488355328) :
 Yld P ops o (rowE o k ver len n g e segs' rb) ⟨t,h⟩:=by
 refine ⟨fun S' _ _ h1 h2 h3 C E m a w hr=>?_⟩
 have hlk:Like (Zc o []) t S'.t:=h1
 have hops:=ZO hlk
 rw [hop] at hops
 have es:evG [] S'.t s=evG [] t s:=ZL (hops s (by simp [Op.operands,Call.operands]))
 have ex:evG [] S'.t x=evG [] t x:=ZL (hops x (by simp [Op.operands,Call.operands]))
 obtain ⟨t',h'⟩:=S'
 have hs':=hs.like (t':=t') (h':=h') ex fun k hk=>h2 k (List.mem_cons_of_mem _ hk)
 have hh':h'[k]?=some (.mem e segs ver (g+1)):=by rw [h2 k (by simp [rowE])];exact hh
 have hg':=Z14 hg (Z1j hlk)
 unfold opW
 rw [show Region.wanted o (yielded ops a.tmps)=true by simp [Region.wanted,Z1f hg'],if_pos rfl]
 obtain ⟨s1,s2⟩:=hs'.ok hT hr
 have hevs:=hr.evs .nil
 obtain ⟨gs,e1⟩:=hevs.live (o:=s) (by rw [es,hb];rfl)
 rw [es,hb] at gs e1
 have hvs:ver=0→len=0:=by have:=gs.1;simp only [Ok] at this;exact this.2
 obtain ⟨w',b',c',spare,r1,r2,r3,r4,r5,r6,r7⟩:=ZbL hT hr.rel ht hk hte hsz hh' hlen hvs s1 hn h63 hby o.type
 obtain ⟨ho,_,_⟩:=hr.rel.bl k _ hh'
 obtain ⟨E',k1,k2,k3⟩:=hr.rel.grow hh' (segs':=segs') r2 r3 r4 (hj.ok _ _ ho s2) (by rw [hj.cells];exact r5) (by rw [hj.cells];exact ⟨r6,r7⟩)
 have hrun:(execOp a.eval o).run P w=.ok (.value (.slice (some ⟨b',0,none⟩) (len+n) c')) w':=by
  simp only [execOp,hop,resolve,invoke,builtin,Sem.run_bind,Sem.run_pure,Result.andThen_ok,List.map_toArray,List.map_cons,List.map_nil,e1,r1]
 simp only [Oper.wp,hrun,Oper.upon]
 have hlt:k < h'.length:=(List.getElem?_eq_some_iff.1 hh').1
 refine ⟨E',m,k2,?_⟩
 have:=(hr.up k2 k3).put o.dst (x:=.sl k (ver+1) 0 (len+n) none 0) (v:=.slice (some ⟨b',0,none⟩) (len+n) c') fun d hd=>by
  have hv:Value.slice (some ⟨b',0,none⟩) (len+n) c'=den E' (.sl k (ver+1) 0 (len+n) none 0):=by simp [den,wrapV,cells,k1]
  rw [hv]
  exact Z1p ⟨by simp only [Ok];exact ⟨Vle_iff.2 ⟨.mem e segs' (ver+1) (g+1),by simp [List.getElem?_set,hlt],by simp [SB.lim]⟩,fun e=>by omega⟩,rfl⟩
 have hpc:putF t' o.dst (.sl k (ver+1) 0 (len+n) none 0)=setT t' o.dst (.sl k (ver+1) 0 (len+n) none 0):=ZQ h3
 simp only at this
 rw [hpc] at this
 exact this
theorem Rel.cut {E C m H w} (h:Rel E C m H w) {k ver g:Nat} {ty:TypeId} {pre post:List SV} (hk:H[k]?=some (.mem ty (pre++post) ver (g+1))):Rel E C m (H.set k (.mem ty pre ver (g+1))) w:=by
 have hvs:vers (H.set k (.mem ty pre ver (g+1)))=vers H:=ZJ (B':=.mem ty pre ver (g+1)) hk rfl
 have hkl:k < H.length:=(List.getElem?_eq_some_iff.1 hk).1
 have hgk:(H.set k (.mem ty pre ver (g+1)))[k]?=some (.mem ty pre ver (g+1)):=by simp [List.getElem?_set,hkl]
 have hge:∀ j,j≠k→(H.set k (.mem ty pre ver (g+1)))[j]?=H[j]?:=fun j hj=>List.getElem?_set_ne (Ne.symm hj)
 have hblk:∀ j b,Zk E (H.set k (.mem ty pre ver (g+1))) j b→Zk E H j b:=by
  rintro j b ⟨B',hB',hb⟩
  by_cases hj:j=k
  ·subst hj;rw [hgk] at hB';cases hB';exact ⟨_,hk,hb⟩
  ·rw [hge j hj] at hB';exact ⟨B',hB',hb⟩
 refine ⟨h.os,h.tape,h.output,h.im,h.fr,h.mf,?_,?_,fun j b hb=>h.sp j b (hblk j b hb),fun i j b h1 h2=>h.inj i j b (hblk i b h1) (hblk j b h2)⟩
 ·intro j B' hB'
  rw [hvs]
  by_cases hj:j=k
  ·subst hj;rw [hgk] at hB';cases hB'
   obtain ⟨o1,o2,o3⟩:=h.bl j _ hk
   rw [Zl] at o2 o3
   refine ⟨(OkL_append.1 o1).1,fun e=>⟨(List.append_eq_nil_iff.1 (o2 e).1).1,(o2 e).2⟩,fun e=>?_⟩
   obtain ⟨b,c,sp,e1,e2,e3,e4⟩:=o3 e
   refine ⟨b,c,cellsL E post++sp,e1,by rw [← List.append_assoc];exact e2,?_,e4⟩
   rw [List.length_append] at e3 ⊢
   omega
  ·rw [hge j hj] at hB';exact h.bl j B' hB'
 ·rw [hvs];exact h.nn
theorem ZbM (hT:TabOk P T) {t:List SV} {h:List SB} {s x:Operand} {ty tx e:TypeId} (hop:o.op=.call { callee:=.builtin .append,args:=#[s,x],argTypes:=#[ty,tx] }) (hg:Zt ops t o=some []) {ti te:TI} (ht:T ty=some ti) (hk:ti.k=.slice e) (hte:T e=some te) {g:Nat} (hsz:te.size=g+1)
 {k ver len n:Nat} (hb:evG [] t s=.sl k ver 0 len none 0) {segs olds news segs':List SV} (hh:h[k]?=some (.mem e segs ver (g+1))) (hcut:Z17 segs (len * te.size)=some olds) {rb:List Nat} (hs:SrcA T t h x tx te.size n news rb) (hkr:k ∉ rb) (hj:Joins olds news segs') (hn:0 < n) (h63:len+n≤maxLen) (hby:(len+n) * te.bytes≤140737488355328) :
 Yld P ops o (rowE o k ver len n g e segs' rb) ⟨t,h⟩:=by
 obtain ⟨post,rfl,hw⟩:=Z2v hcut
 have hkl:k < h.length:=(List.getElem?_eq_some_iff.1 hh).1
 have hs2:SrcA T t (h.set k (.mem e olds ver (g+1))) x tx te.size n news rb:=hs.like rfl fun j hj=>List.getElem?_set_ne (fun e=>hkr (by rw [e];exact hj))
 have hy:=ZA (P:=P) (ops:=ops) (o:=o) hT (h:=h.set k (.mem e olds ver (g+1))) hop hg ht hk hte hsz hb (by simp [List.getElem?_set,hkl]) hw hs2 hj hn h63 hby
 refine ⟨fun S' hl1 hl2 h1 h2 h3 C E m a w hr=>?_⟩
 have hk2:S'.h[k]?=some (.mem e (olds++post) ver (g+1)):=by rw [h2 k (by simp [rowE])];exact hh
 have hkl2:k < S'.h.length:=(List.getElem?_eq_some_iff.1 hk2).1
 have hvs:vers (S'.h.set k (.mem e olds ver (g+1)))=vers S'.h:=ZJ (B':=.mem e olds ver (g+1)) hk2 rfl
 have hr2:Rep E C m ⟨S'.t,S'.h.set k (.mem e olds ver (g+1))⟩ a w:=hr.up (by rw [hvs];exact .refl ..) (hr.rel.cut hk2)
 have:=hy.out ⟨S'.t,S'.h.set k (.mem e olds ver (g+1))⟩ hl1 (by simpa using hl2) h1 (fun j hj=>by
  by_cases e0:j=k
  ·subst e0;simp [List.getElem?_set,hkl,hkl2]
  ·simp only [List.getElem?_set_ne (Ne.symm e0)];exact h2 j hj) h3 C E m a w hr2
 have hput:(rowE o k ver len n g e segs' rb).put ⟨S'.t,S'.h.set k (.mem e olds ver (g+1))⟩=(rowE o k ver len n g e segs' rb).put S':=by
  simp [Eff.put,rowE,setB,List.set_set]
 rw [hput] at this
 simp only at this
 rw [hvs] at this
 exact this
theorem Z4l (hT:TabOk P T) {t:List SV} {h:List SB} {s x:Operand} {ty tx e:TypeId} (hop:o.op=.call { callee:=.builtin .append,args:=#[s,x],argTypes:=#[ty,tx] }) (hg:Zt ops t o=some []) {ti te:TI} (ht:T ty=some ti) (hk:ti.k=.slice e) (hte:T e=some te)
 {rb rb2:List Nat} {v:SV} (hv:evG [] t s=v) (hb:v=.nils∨(∃ k ver off len c dc,v=.sl k ver off len (some c) dc∧len≤c)∨∃ k ver len e2 segs g,v=.sl k ver 0 len none 0∧h[k]?=some (.mem e2 segs ver (g+1))∧wdL segs=len * (g+1)∧rb=[k]) {news:List SV} (hs:SrcA T t h x tx te.size 0 news rb2) :
 Yld P ops o ⟨o.dst,v,Zc o [],rb++rb2,[]⟩ ⟨t,h⟩:=by
 have hl:live v=true:=by rcases hb with rfl | ⟨k,ver,off,len,c,dc,rfl,_⟩ | ⟨k,ver,len,e2,segs,g,rfl,_⟩ <;> rfl
 have:=Z66 (P:=P) (ops:=ops) (o:=o) (S:=⟨t,h⟩) (p:=[]) (x:=v) (rs:=Zc o []) (rb:=rb++rb2) hg (fun n hn=>by simp at hn) (fun S' hlk hh C E m a w hr _=>by
  have hops:=ZO hlk
  rw [hop] at hops
  have es:evG [] S'.t s=evG [] t s:=ZL (hops s (by simp [Op.operands,Call.operands]))
  have ex:evG [] S'.t x=evG [] t x:=ZL (hops x (by simp [Op.operands,Call.operands]))
  obtain ⟨t',h'⟩:=S'
  have hs':=hs.like (t':=t') (h':=h') ex fun k hk=>hh k (List.mem_append_right _ hk)
  obtain ⟨s1,s2⟩:=hs'.ok hT hr
  obtain ⟨g0,e0⟩:=(hr.evs .nil).live (o:=s) (by rw [es,hv];exact hl)
  rw [es,hv] at g0 e0
  have hti:=hT.ti ty ti ht
  obtain ⟨i,z,hi,hsi,_⟩:=(hT.ti e te hte).inf
  have hnil:cellsL E news=[]:=List.eq_nil_of_length_eq_zero (by rw [s1.newsLen,Nat.zero_mul])
  rw [hnil,← hsi] at s1
  have key:∃ base len cap,den E v=.slice base len cap∧len≤cap:=by
   rcases hb with rfl | ⟨k,ver,off,len,c,dc,rfl,hc⟩ | ⟨k,ver,len,e2,segs,g,rfl,h1,h2,rfl⟩
   ·exact ⟨none,0,0,den_v.2.2.2.2,Nat.le_refl _⟩
   ·simp only [den,wrapV,cells,List.headD_cons,Option.getD_some]
    cases E k ver with
    | none=>exact ⟨_,_,_,rfl,hc⟩
    | some q=>exact ⟨_,_,_,rfl,hc⟩
   ·have h1':h'[k]?=some (.mem e2 segs ver (g+1)):=by rw [hh k (by simp)];exact h1
    obtain ⟨o1,o2,o3⟩:=hr.rel.bl k _ h1'
    have hvz:ver=0→len=0:=by have:=g0.1;simp only [Ok] at this;exact this.2
    by_cases hz:ver=0
    ·refine ⟨none,len,0,?_,by rw [hvz hz];exact Nat.le_refl _⟩
     simp only [den,wrapV,cells,List.headD_cons]
     rw [hz,(o2 hz).2]
     rfl
    ·obtain ⟨b,c,sp,q1,q2,q3,q4⟩:=o3 hz
     refine ⟨some ⟨b,0,none⟩,len,c,by simp [den,wrapV,cells,q1],?_⟩
     have:=length_cellsL E segs _ o1
     have:len * (g+1)≤c * (g+1):=by omega
     exact Nat.le_of_mul_le_mul_right this (by omega)
  obtain ⟨base,len,cap,k1,k2⟩:=key
  refine ⟨den E v,?_,.inr ⟨g0,rfl⟩⟩
  have hr0:=Z4C (P:=P) w ty tx o.type e i (hti.slice hk) hi base len cap (a.eval x) s1 k2
  simp only [execOp,hop,resolve,invoke,builtin,Sem.run_bind,Sem.run_pure,Result.andThen_ok,List.map_toArray,List.map_cons,List.map_nil,e0,k1,hr0])
 simpa only [Zz] using this
end
end
section
section
variable {P:Program} {T:Tb} {ops:Array Oper} {o:Oper}
theorem OpC.yld {e:Eff} {K:St→Prop} {t:List SV} {h:List SB} (nn:Nat) {h1:List SB} (hh1:h++List.replicate nn .fresh=h1) (hy:Yld P ops o e ⟨t,h1⟩) (hk:∀ d,e.d=some d→Z1n d t=t) (hK:K (e.put ⟨t,h1⟩)):OpC P T ops o K ⟨t,h⟩:=by
 subst hh1
 refine ⟨fun C E m a w hr=>?_⟩
 have hr1:Rep E C m ⟨t,h++List.replicate nn .fresh⟩ a w:=hr.up (Ext.pad E m h nn) (hr.rel.pad nn)
 have h3:=hy.out ⟨t,h++List.replicate nn .fresh⟩ Z Z (fun _ _=>rfl) (fun _ _=>rfl) hk C E m a w hr1
 unfold opW at h3 ⊢
 have next:∀ a' w',(∃ E' m',Ext E m (vers (h++List.replicate nn .fresh)) E' m' (vers (e.put ⟨t,h++List.replicate nn .fresh⟩).h)∧Rep E' C m' (e.put ⟨t,h++List.replicate nn .fresh⟩) a' w') →
  ∃ E' m' S'',K S''∧Ext E m (vers h) E' m' (vers S''.h)∧Rep E' C m' S'' a' w':=
  fun a' w' ⟨E',m',k1,k2⟩=>⟨E',m',_,hK,(Ext.pad E m h nn).trans k1,k2⟩
 split
 ·rename_i hw;rw [if_pos hw] at h3;exact ZU h3 next
 ·rename_i hw;rw [if_neg hw] at h3;exact next _ _ h3
end
end
theorem Z9l {m:Mem} {V:List Nat}:∀ {A B:List SV},OkA m V (A++B)→OkA m V A∧OkA m V B
 | [],B,h=>⟨trivial,h⟩
 | x::A,B,h=>by simp only [List.cons_append,OkA] at h ⊢;obtain ⟨i1,i2⟩:=Z9l h.2;exact ⟨⟨h.1,i1⟩,i2⟩
theorem ZdN {α:Type} {d:α} {n:Nat} {enc:α→List SV} {ys:List α} {N:Nat} (hw:∀ x,wdL (enc x)=n) (hok:∀ x m,OkL m [] (enc x)) (E:Env) {j:Nat} (hj:j < N) {u:Nat} {c:Value} (hu:(cellsL E0 (enc (ys.getD j d)))[u]?=some c) :
 (cellsL E [.arr N α d n enc ys])[j * n+u]?=some c:=by
 have hst:∀ x,cellsL E (enc x)=cellsL E0 (enc x):=fun x=>cellsL_stable (m:=fun _=>none) (V:=[]) (fun k v hv=>(Z1I hv).elim) _ (hok x _)
 have hln:∀ x,(cellsL E0 (enc x)).length=n:=fun x=>by rw [length_cellsL E0 _ [] (hok x (fun _=>none)),hw]
 simp only [cellsL,cells,List.append_nil]
 have hun:u < n:=by have:=(List.getElem?_eq_some_iff.1 hu).1;rwa [hln] at this
 clear hw
 revert j ys
 induction N with
 | zero=>intro ys j hj;omega
 | succ N ih=>
   intro ys j hj hu
   rw [List.range_succ_eq_map,List.flatMap_cons,List.flatMap_map,hst]
   cases j with
   | zero=>
     rw [Nat.zero_mul,Nat.zero_add,List.getElem?_append_left (by rw [hln];exact hun)]
     exact hu
   | succ j=>
     rw [List.getElem?_append_right (by rw [hln,Nat.succ_mul];omega),hln]
     have:=ih (ys:=ys.drop 1) (j:=j) (by omega) (by
      rw [← hu];congr 3;simp [List.getD_eq_getElem?_getD,List.getElem?_drop,Nat.add_comm])
     rw [show (j+1) * n+u - n=j * n+u by rw [Nat.succ_mul];omega,← this]
     congr 1
     rw [List.flatMap_def,List.flatMap_def]
     congr 1
     apply List.map_congr_left
     intro i _
     simp only [hst]
     simp [List.getD_eq_getElem?_getD,List.getElem?_drop,Nat.add_comm]
section
theorem Rel.forget {E C m H w} (h:Rel E C m H w) {k ver g:Nat} {ty:TypeId} {segs:List SV} (hk:H[k]?=some (.mem ty segs ver g)):Rel E C m (H.set k (.gone ver)) w:=by
 have hvs:vers (H.set k (.gone ver))=vers H:=ZJ (B':=.gone ver) hk rfl
 have hkl:k < H.length:=(List.getElem?_eq_some_iff.1 hk).1
 have hgk:(H.set k (.gone ver))[k]?=some (.gone ver):=by simp [List.getElem?_set,hkl]
 have hge:∀ j,j≠k→(H.set k (.gone ver))[j]?=H[j]?:=fun j hj=>List.getElem?_set_ne (Ne.symm hj)
 have hblk:∀ j b,Zk E (H.set k (.gone ver)) j b→Zk E H j b:=by
  rintro j b ⟨B',hB',hb⟩
  by_cases hj:j=k
  ·subst hj;rw [hgk] at hB';cases hB';exact hb.elim
  ·rw [hge j hj] at hB';exact ⟨B',hB',hb⟩
 refine ⟨h.os,h.tape,h.output,h.im,h.fr,h.mf,?_,?_,fun j b hb=>h.sp j b (hblk j b hb),fun i j b h1 h2=>h.inj i j b (hblk i b h1) (hblk j b h2)⟩
 ·intro j B' hB'
  by_cases hj:j=k
  ·subst hj;rw [hgk] at hB';cases hB';trivial
  ·rw [hge j hj] at hB';rw [hvs];exact h.bl j B' hB'
 ·rw [hvs];exact h.nn
theorem Rel.move {E C m H w} (h:Rel E C m H w) {k p g:Nat} {ty:TypeId} {segs segs':List SV} (hk:H[k]?=some (.mem ty segs 1 0)) (hp:H[p]?=some .fresh) (hz:∀ E,cellsL E segs=[]) (hz':∀ E,cellsL E segs'=[]) (hok:OkL m (vers H) segs') :
 ∃ E' b c,E k 1=some (b,c)∧E' p 1=some (b,0)∧Ext E m (vers H) E' m (vers ((H.set k (.gone 1)).set p (.mem ty segs' 1 (g+1))))∧Rel E' C m ((H.set k (.gone 1)).set p (.mem ty segs' 1 (g+1))) w:=by
 have hpk:p≠k:=fun e=>by subst e;rw [hk] at hp;cases hp
 have hbl:=h.bl k _ hk
 obtain ⟨_,b,c,e1,e2,_⟩:=hbl
 have hkl:k < H.length:=(List.getElem?_eq_some_iff.1 hk).1
 have hpl:p < H.length:=(List.getElem?_eq_some_iff.1 hp).1
 generalize hH':(H.set k (.gone 1)).set p (.mem ty segs' 1 (g+1))=H'
 have gp:H'[p]?=some (.mem ty segs' 1 (g+1)):=by rw [← hH'];simp [List.getElem?_set,hpl]
 have gk:H'[k]?=some (.gone 1):=by rw [← hH',List.getElem?_set_ne hpk];simp [List.getElem?_set,hkl]
 have ge:∀ j,j≠k→j≠p→H'[j]?=H[j]?:=fun j h1 h2=>by rw [← hH',List.getElem?_set_ne (Ne.symm h2),List.getElem?_set_ne (Ne.symm h1)]
 have hvp:∀ v,¬ Vle (vers H) p v:=fun v hv=>by
  obtain ⟨B',hB',hl⟩:=Vle_iff.1 hv
  rw [hp] at hB';cases hB';simp [SB.lim] at hl
 have hx:Ext E m (vers H) (E.upd p 1 (b,0)) m (vers H'):=by
  refine ⟨fun _ _ h=>h,fun j v hv=>?_,fun j v hv=>Zo _ _ fun e=>hvp v (e.1 ▸ hv)⟩
  have hj:j≠p:=fun e=>hvp v (e ▸ hv)
  obtain ⟨B',hB',hl⟩:=Vle_iff.1 hv
  by_cases hjk:j=k
  ·subst hjk
   rw [hk] at hB';cases hB'
   exact Vle_iff.2 ⟨_,gk,by simpa [SB.lim] using hl⟩
  ·exact Vle_iff.2 ⟨B',by rw [ge j hjk hj];exact hB',hl⟩
 have hat:Zk E H k b:=⟨_,hk,by omega,c,e1⟩
 have hblk:∀ j b',Zk (E.upd p 1 (b,0)) H' j b'→(j=p∧b'=b)∨(j≠p∧j≠k∧Zk E H j b'):=by
  rintro j b' ⟨B',hB',hb⟩
  by_cases hj:j=p
  ·left
   subst hj
   rw [gp] at hB';cases hB'
   obtain ⟨_,c',hc⟩:=hb
   rw [Zn] at hc;cases hc
   exact ⟨rfl,rfl⟩
  ·right
   by_cases hjk:j=k
   ·subst hjk;rw [gk] at hB';cases hB';exact hb.elim
   ·rw [ge j hjk hj] at hB'
    refine ⟨hj,hjk,B',hB',?_⟩
    cases B' with
    | mem t segs ver gr=>obtain ⟨h0,c,he⟩:=hb;rw [Zo _ _ (fun e=>hj e.1)] at he;exact ⟨h0,c,he⟩
    | mp kv ver=>obtain ⟨c,he⟩:=hb;rw [Zo _ _ (fun e=>hj e.1)] at he;exact ⟨c,he⟩
    | gone v=>exact hb
    | fresh=>exact hb
 refine ⟨E.upd p 1 (b,0),b,c,e1,Zn ..,hx,h.os,h.tape,h.output,h.im,h.fr,h.mf,?_,?_,?_,?_⟩
 ·intro j B' hB'
  by_cases hj:j=p
  ·subst hj
   rw [gp] at hB';cases hB'
   refine ⟨OkL.mono (fun _ _ h=>h) _ _ _ hx.vv hok,fun e=>by omega,fun _=>⟨b,0,[],Zn ..,?_,?_,Nat.zero_le _⟩⟩
   ·rw [e2,hz,hz'];rfl
   ·rw [hz'];simp
  ·by_cases hjk:j=k
   ·subst hjk;rw [gk] at hB';cases hB';trivial
   ·rw [ge j hjk hj] at hB'
    exact (h.bl j B' hB').mono hx (fun v _=>Zo _ _ fun e=>hj e.1) (fun _ _=>rfl)
 ·intro j v hv h0
  obtain ⟨B',hB',hl⟩:=Vle_iff.1 hv
  by_cases hj:j=p
  ·subst hj
   rw [gp] at hB';cases hB'
   have:v=1:=by simp [SB.lim] at hl;omega
   subst this
   exact ⟨b,0,Zn ..⟩
  ·rw [Zo _ _ fun e=>hj e.1]
   by_cases hjk:j=k
   ·subst hjk
    rw [gk] at hB';cases hB'
    exact h.nn j v (Vle_iff.2 ⟨_,hk,by simpa [SB.lim] using hl⟩) h0
   ·rw [ge j hjk hj] at hB'
    exact h.nn j v (Vle_iff.2 ⟨B',hB',hl⟩) h0
 ·intro j b' hb
  rcases hblk j b' hb with ⟨_,rfl⟩ | ⟨_,_,h1⟩
  ·exact h.sp k _ hat
  ·exact h.sp j b' h1
 ·intro i j b' h1 h2
  rcases hblk i b' h1 with ⟨rfl,rfl⟩ | ⟨a1,a2,a3⟩ <;> rcases hblk j _ h2 with ⟨rfl,e⟩ | ⟨b1,b2,b3⟩
  ·rfl
  ·exact absurd (h.inj j k _ b3 hat) b2
  ·subst e;exact absurd (h.inj i k _ a3 hat) a2
  ·exact h.inj i j b' a3 b3
section
variable {P:Program} {T:Tb} {ops:Array Oper} {o:Oper}
def litE (o:Oper) (k p n g:Nat) (e:TypeId) (segs:List SV) (rb:List Nat):Eff:=⟨o.dst,.sl p 1 0 n none 0,Zc o [],k::p::rb,[(k,.gone 1),(p,.mem e segs 1 (g+1))]⟩
theorem Z2P (hT:TabOk P T) {t:List SV} {h:List SB} {s x:Operand} {ty tx e:TypeId} (hop:o.op=.call { callee:=.builtin .append,args:=#[s,x],argTypes:=#[ty,tx] }) (hg:Zt ops t o=some []) {ti te:TI} (ht:T ty=some ti) (hk:ti.k=.slice e) (hte:T e=some te) {g:Nat} (hsz:te.size=g+1)
 {k dc n:Nat} {segs0 news segs':List SV} {rb2:List Nat} (hb:evG [] t s=.sl k 1 0 0 (some 0) dc) (hh:h[k]?=some (.mem e segs0 1 0)) (hz:∀ E,cellsL E segs0=[]) (hs:SrcA T t h x tx te.size n news rb2) {p:Nat} (hp:h[p]?=some .fresh) (hj:Joins [] news segs') (h63:n≤maxLen) (hby:n * te.bytes≤140737488355328) :
 Yld P ops o (litE o k p n g e segs' rb2) ⟨t,h⟩:=by
 refine ⟨fun S' hl1 hl2 h1 h2 h3 C E m a w hr=>?_⟩
 have hpk:p≠k:=fun e=>by subst e;rw [hh] at hp;cases hp
 have hlk:Like (Zc o []) t S'.t:=h1
 have hops:=ZO hlk
 rw [hop] at hops
 have es:evG [] S'.t s=evG [] t s:=ZL (hops s (by simp [Op.operands,Call.operands]))
 have ex:evG [] S'.t x=evG [] t x:=ZL (hops x (by simp [Op.operands,Call.operands]))
 have hh2:S'.h[k]?=some (.mem e segs0 1 0):=by rw [h2 k (by simp [litE])];exact hh
 have hp2:S'.h[p]?=some .fresh:=by rw [h2 p (by simp [litE])];exact hp
 by_cases hn:n=0
 ·subst hn
  obtain ⟨t',h'⟩:=S'
  have hs':=hs.like (t':=t') (h':=h') ex fun k hk=>h2 k (by simp [litE,hk])
  have hg':=Z14 hg (Z1j hlk)
  unfold opW
  rw [show Region.wanted o (yielded ops a.tmps)=true by simp [Region.wanted,Z1f hg'],if_pos rfl]
  obtain ⟨s1,s2⟩:=hs'.ok hT hr
  obtain ⟨g0,e0⟩:=(hr.evs .nil).live (o:=s) (by rw [es,hb];rfl)
  rw [es,hb] at g0 e0
  have hti:=hT.ti ty ti ht
  obtain ⟨i,z,hi,hsi,_⟩:=(hT.ti e te hte).inf
  have hnil:∀ E',cellsL E' news=[]:=fun E'=>by
   have h5:=length_cellsL E _ _ s2
   have h6:=s1.newsLen
   rw [Nat.zero_mul] at h6
   rw [h6] at h5
   exact List.eq_nil_of_length_eq_zero (by rw [length_cellsL E' _ _ s2];exact h5.symm)
  have hz':∀ E,cellsL E segs'=[]:=fun E=>by rw [hj.cells,hnil];rfl
  have hok:=hj.ok m (vers h') trivial s2
  obtain ⟨E',b,c,k1,k2,k3,k4⟩:=hr.rel.move (g:=g) hh2 hp2 hz hz' hok
  have hval:den E (.sl k 1 0 0 (some 0) dc)=.slice (some ⟨b,0,none⟩) 0 0:=by simp [den,wrapV,cells,k1]
  rw [hnil E,← hsi] at s1
  have hr0:=Z4C (P:=P) w ty tx o.type e i (hti.slice hk) hi (some ⟨b,0,none⟩) 0 0 (a.eval x) s1 (Nat.le_refl _)
  have hrun:(execOp a.eval o).run P w=.ok (.value (.slice (some ⟨b,0,none⟩) 0 0)) w:=by
   simp only [execOp,hop,resolve,invoke,builtin,Sem.run_bind,Sem.run_pure,Result.andThen_ok,List.map_toArray,List.map_cons,List.map_nil,e0,hval,hr0]
  simp only [Oper.wp,hrun,Oper.upon]
  refine ⟨E',m,k3,?_⟩
  have hlt:p < h'.length:=(List.getElem?_eq_some_iff.1 hp2).1
  have:=(hr.up k3 k4).put o.dst (x:=.sl p 1 0 0 none 0) (v:=.slice (some ⟨b,0,none⟩) 0 0) fun d hd=>by
   have hv:Value.slice (some ⟨b,0,none⟩) 0 0=den E' (.sl p 1 0 0 none 0):=by simp [den,wrapV,cells,k2]
   rw [hv]
   exact Z1p ⟨by simp only [Ok];exact ⟨Vle_iff.2 ⟨.mem e segs' 1 (g+1),by simp [List.getElem?_set,hlt],by simp [SB.lim]⟩,fun e=>by omega⟩,rfl⟩
  have hpc:putF t' o.dst (.sl p 1 0 0 none 0)=setT t' o.dst (.sl p 1 0 0 none 0):=ZQ h3
  simp only at this
  rw [hpc] at this
  exact this
 ·have hy:=Z70 hT (o:=o) (ops:=ops) hop hg ht hk hte hsz (BaseA.sl0 (sz:=te.size) hb) hs hp hj (by omega) (by rw [Nat.zero_add];exact h63) (by rw [Nat.zero_add];exact hby)
  have hyo:=hy.out S' hl1 hl2 h1 (fun j hj=>h2 j (by
   simp only [appE,List.nil_append] at hj
   simp only [litE]
   exact List.mem_cons_of_mem _ hj)) (by simpa [appE,litE] using h3) C E m a w hr
  have next:∀ a' w',(∃ E' m',Ext E m (vers S'.h) E' m' (vers ((appE o p 0 n g e segs' ([]++rb2)).put S').h)∧Rep E' C m' ((appE o p 0 n g e segs' ([]++rb2)).put S') a' w') →
   ∃ E' m',Ext E m (vers S'.h) E' m' (vers ((litE o k p n g e segs' rb2).put S').h)∧Rep E' C m' ((litE o k p n g e segs' rb2).put S') a' w':=by
   rintro a' w' ⟨E',m',k1,k2⟩
   have e1:((litE o k p n g e segs' rb2).put S')=⟨((appE o p 0 n g e segs' ([]++rb2)).put S').t,((appE o p 0 n g e segs' ([]++rb2)).put S').h.set k (.gone 1)⟩:=by
    simp only [Eff.put,litE,appE,setB,Nat.zero_add,St.mk.injEq,true_and]
    rw [List.set_comm _ _ (Ne.symm hpk)]
   have e2:((appE o p 0 n g e segs' ([]++rb2)).put S').h[k]?=some (.mem e segs0 1 0):=by
    simp only [Eff.put,appE,setB]
    rw [List.getElem?_set_ne hpk];exact hh2
   have e3:vers (((appE o p 0 n g e segs' ([]++rb2)).put S').h.set k (.gone 1))=vers ((appE o p 0 n g e segs' ([]++rb2)).put S').h:=ZJ (B':=.gone 1) e2 rfl
   rw [e1]
   refine ⟨E',m',by simp only;rw [e3];exact k1,?_⟩
   refine k2.up ?_ (k2.rel.forget e2)
   rw [e3];exact .refl ..
  unfold opW at hyo ⊢
  split
  ·rename_i hw
   rw [if_pos hw] at hyo
   exact ZU hyo next
  ·rename_i hw
   rw [if_neg hw] at hyo
   exact next _ _ hyo
end
end
section
theorem ZdO {ρ:Nat→Nat} {H Hc:List SB} (hinj:∀ a b,a < H.length→b < H.length→ρ a=ρ b→a=b) (hg:∀ (j:Nat) (B:SB),H[j]?=some B→Hc[ρ j]?=some (renB ρ B)):setB Hc (zipB ρ H 0)=Hc:=by
 apply List.ext_getElem?
 intro k
 by_cases hk:∃ j,j < H.length∧ρ j=k
 ·obtain ⟨j,hj,rfl⟩:=hk
  have h1:=hg j _ (List.getElem?_eq_getElem hj)
  have:=Z8K (ρ:=ρ) (H:=H) (Hc:=Hc) (i:=0) (j:=j) (fun a b ha hb e=>hinj a b ha hb (by simpa using e)) (List.getElem?_eq_getElem hj) (by simpa using (List.getElem?_eq_some_iff.1 h1).1)
  simp only [Nat.zero_add] at this
  rw [this,h1]
 ·exact Z6b fun j hj e=>hk ⟨j,hj,by simpa using e⟩
theorem Z2 {P:Program} {f:FuncId} {args0:List SV} {H0:List SB} {v:SV} (hc:Ctr P f args0 H0 (fun r h=>r=v∧h=H0)) (hv:∀ ρ,ren ρ v=v) (Hc:List SB) (ks:List Nat) (hnd:Z1U ks=true) (hks:ks.length=H0.length) (hH:Lent (rho ks Hc.length) Hc H0 0)
 {args:List SV} (ha:renL (rho ks Hc.length) args0=args):Ctr P f args Hc (fun r h=>r=v∧h=Hc):=by
 subst ha
 have h1:=Z6A ZK hc Hc ks [] (by rw [List.append_nil];exact hnd) hks (by rw [List.append_nil];exact hH) rfl (fun r H' hk=>by rw [hk.2,List.append_nil];exact ⟨Nat.le_refl _,by omega⟩)
 rw [List.append_nil] at h1
 refine h1.mono ZK ?_
 rintro r h ⟨r0,H',⟨rfl,rfl⟩,rfl,rfl⟩
 refine ⟨hv _,ZdO ?_ ?_⟩
 ·have hnd':=Z6d hnd
  intro a b ha hb e
  rw [← hks] at ha hb
  have h2:ks[a]?=some (rho ks Hc.length a):=by simp only [rho,List.getD_eq_getElem?_getD,List.getElem?_eq_getElem ha,Option.getD_some]
  have h3:ks[b]?=some (rho ks Hc.length b):=by simp only [rho,List.getD_eq_getElem?_getD,List.getElem?_eq_getElem hb,Option.getD_some]
  rw [e,← h3] at h2
  exact (List.getElem?_inj ha hnd').1 h2
 ·have:=Z7g hH
  simpa only [Nat.zero_add] using this
theorem Z18 {α:Type} {d:α} {n N:Nat} {enc:α→List SV} {xs:List α} {y:α} {new:List SV} (hN:xs.length=N) (hn:new=enc y) (hw:∀ x,wdL (enc x)=n):Joins [.arr N α d n enc xs] new [.arr (N+1) α d n enc (xs++[y])]:=by
 subst hN
 have:=Joins.arr (d:=d) (xs:=xs) hn hw
 rwa [List.length_append,List.length_singleton] at this
section
variable {P:Program} {T:Tb} {ops:Array Oper} {o:Oper}
theorem Z9 {K:St→Prop} {t:List SV} {h:List SB} {c:Call} (hop:o.op=.call c) {fo:Operand} (hcal:c.callee=.value fo) {p:List (Nat×Bool)} (hg:Zt ops t o=some p) {f:FuncId} {fst caps:List SV} (hf:calB (evG p t fo)=some (f,fst,caps))
 {args:List SV} (ha:fst++(c.args.toList.map (evG p t)++caps)=args) (hl:(c.args.toList.map (evG p t)).all live=true) {r:SV} (hc:gB t p=true→Ctr P f args h (fun r' h'=>r'=r∧h'=h)) (hK:putK t h o.dst (Zz p o.dst r) K):OpC P T ops o K ⟨t,h⟩:=by
 subst ha
 rw [ZV] at hK
 refine ⟨fun C E m a w hr=>?_⟩
 obtain ⟨g,hgv,hw⟩:=Z3d hr hg
 unfold opW
 rw [hw]
 cases g with
 | true=>
   simp only [if_true]
   refine Z8E hop hcal hr hgv hf hl rfl (hc (Z7N hgv)) ?_
   rintro r' H' E' m' w' ⟨rfl,rfl⟩ k2 k3 k4
   have:=(hr.up k3 k4).putG (o:=o) hgv (x:=r') (v:=den E' r') (fun _=>.inr ⟨k2,rfl⟩) (fun h=>by cases h)
   exact ⟨E',m',_,hK,k3,this⟩
 | false=>
   simp only [Bool.false_eq_true,if_false]
   exact ⟨E,m,_,hK,.refl ..,hr.putG (x:=r) hgv (fun h=>by cases h) (fun _=>rfl)⟩
theorem Z0 {n:Nat} {K:Eff→Nat→St→Prop} {t:List SV} {h:List SB} {c:Call} (rb:List Nat) (hop:o.op=.call c) {fo:Operand} (hcal:c.callee=.value fo) {p:List (Nat×Bool)} (hg:Zt ops t o=some p) {f:FuncId} {fst caps:List SV} (hf:calB (evG p t fo)=some (f,fst,caps))
 {args:List SV} (ha:fst++(c.args.toList.map (evG p t)++caps)=args) (hl:(c.args.toList.map (evG p t)).all live=true) {r:SV} (hc:gB t p=true→∀ h1:List SB,(∀ k ∈ rb,h1[k]?=h[k]?)→Ctr P f args h1 (fun r' h'=>r'=r∧h'=h1)) (hK:putD t h o.dst (Zz p o.dst r) (Zc o p) rb n K):OpD P ops o n K ⟨t,h⟩:=by
 subst ha
 unfold putD at hK
 simp only [Z1e,Z2C] at hK
 refine ⟨⟨⟨o.dst,Zz p o.dst r,hang (Zz p o.dst r)++Zc o p,rb,[]⟩,n,rfl,⟨fun S' _ _ h1 h2 h3 C E m a w hr=>?_⟩,fun n hn=>List.mem_append_left _ hn,fun k hk=>by simp [wN] at hk,hK⟩⟩
 have hlk:Like (Zc o p) t S'.t:=fun n hn=>h1 n (List.mem_append_right _ hn)
 have hops:=ZO hlk
 rw [hop] at hops
 have e1:evG p S'.t fo=evG p t fo:=ZL (hops fo (by simp [Op.operands,Call.operands,hcal]))
 have e2:c.args.toList.map (evG p S'.t)=c.args.toList.map (evG p t):=List.map_congr_left fun x hx=>ZL (hops x (by simp [Op.operands,Call.operands];exact .inr (by simpa using hx)))
 obtain ⟨t',h'⟩:=S'
 have hh:=(Z9 (P:=P) (T:=fun _=>none) (ops:=ops) (o:=o) (t:=t') (h:=h') (K:=fun S''=>S''=⟨putF t' o.dst (Zz p o.dst r),h'⟩) hop hcal (Z14 hg (Z1j hlk)) (by rw [e1];exact hf) rfl (by rw [e2];exact hl) (fun hgb=>by rw [e2];exact hc (by rw [← Z6y (Z1j hlk)];exact hgb) h' h2) (by rw [ZV])).out C E m a w hr
 unfold opW at hh ⊢
 have next:∀ a' w',(∃ E' m' S'',S''=(⟨putF t' o.dst (Zz p o.dst r),h'⟩:St)∧Ext E m (vers h') E' m' (vers S''.h)∧Rep E' C m' S'' a' w') →
  ∃ E' m',Ext E m (vers h') E' m' (vers ((⟨o.dst,Zz p o.dst r,hang (Zz p o.dst r)++Zc o p,rb,[]⟩:Eff).put ⟨t',h'⟩).h)∧Rep E' C m' ((⟨o.dst,Zz p o.dst r,hang (Zz p o.dst r)++Zc o p,rb,[]⟩:Eff).put ⟨t',h'⟩) a' w':=by
  rintro a' w' ⟨E',m',S'',rfl,k1,k2⟩
  rw [ZQ h3] at k2
  exact ⟨E',m',k1,k2⟩
 split
 ·rename_i hw
  rw [if_pos hw] at hh
  exact ZU hh next
 ·rename_i hw
  rw [if_neg hw] at hh
  exact next _ _ hh
theorem OpD.yld {n:Nat} {K:Eff→Nat→St→Prop} {S:St} {e:Eff} (n':Nat) (hd:e.d=o.dst) (hv:hang e.v=[]) (hw:∀ k ∈ wN e.wb,k ∈ e.rb) (hy:Yld P ops o e S) (hK:K e n' (e.put S)):OpD P ops o n K S:=
 ⟨e,n',hd,hy,(by rw [hv];intro k hk;cases hk),hw,hK⟩
theorem ZdP {k ver len n g:Nat} {e:TypeId} {segs:List SV} {rb:List Nat}:∀ j ∈ wN (rowE o k ver len n g e segs rb).wb,j ∈ (rowE o k ver len n g e segs rb).rb:=fun j hj=>by
 simp only [rowE,wN,List.mem_cons,List.not_mem_nil,or_false] at hj ⊢
 exact .inl hj
theorem ZaI {k p n g:Nat} {e:TypeId} {segs:List SV} {rb:List Nat}:∀ j ∈ wN (litE o k p n g e segs rb).wb,j ∈ (litE o k p n g e segs rb).rb:=fun j hj=>by
 simp only [litE,wN,List.mem_cons,List.not_mem_nil,or_false] at hj ⊢
 rcases hj with h | h
 ·exact .inl h
 ·exact .inr (.inl h)
end
end
section
section
variable {α:Type} {d:α} {n:Nat} {enc:α→List SV} {xs:List α}
structure Lies (m:Mem) (E:Env) (k ver N n:Nat) (α:Type) (enc:α→List SV) (xs:List α) (d:α) (b c:Nat):Prop where
 e:E k ver=some (b,c)
 le:N≤c
 im:∃ arr ty fr,m b=some (.cells arr ty fr)∧∀ j,j < N→∀ u v,(cellsL E0 (enc (xs.getD j d)))[u]?=some v→arr[j * n+u]?=some v
theorem Z5G {E C m t h a w} (hr:Rep E C m ⟨t,h⟩ a w) {k ver N g:Nat} {ty:TypeId} (hk:h[k]?=some (.mem ty [.arr N α d n enc xs] ver (g+1))) (hn:n=g+1) (hv:ver≠0) (hw:∀ x,wdL (enc x)=n) (hok:∀ x m,OkL m [] (enc x)) :
 ∃ m' b c,Ext E m (vers h) E m' (vers (h.set k (.gone ver)))∧Rep E C m' ⟨t,h.set k (.gone ver)⟩ a w∧Lies m' E k ver N n α enc xs d b c:=by
 have hvs:vers (h.set k (.gone ver))=vers h:=ZJ (B':=.gone ver) hk rfl
 have hkl:k < h.length:=(List.getElem?_eq_some_iff.1 hk).1
 have hgk:(h.set k (.gone ver))[k]?=some (.gone ver):=by simp [List.getElem?_set,hkl]
 have hge:∀ j,j≠k→(h.set k (.gone ver))[j]?=h[j]?:=fun j hj=>List.getElem?_set_ne (Ne.symm hj)
 have hblk:∀ j b,Zk E (h.set k (.gone ver)) j b→j≠k∧Zk E h j b:=by
  rintro j b ⟨B',hB',hb⟩
  by_cases hj:j=k
  ·subst hj;rw [hgk] at hB';cases hB';exact hb.elim
  ·rw [hge j hj] at hB';exact ⟨hj,B',hB',hb⟩
 obtain ⟨o1,_,o3⟩:=hr.rel.bl k _ hk
 obtain ⟨b,c,sp,e1,e2,e3,_⟩:=o3 hv
 have hat:Zk E h k b:=⟨_,hk,hv,c,e1⟩
 obtain ⟨s1,s2⟩:=hr.rel.sp k b hat
 have hm1:∀ b' o,m b'=some o→(fun b'=>if b'=b then some (.cells (cellsL E [.arr N α d n enc xs]++sp).toArray ty (0,0)) else m b') b'=some o:=fun b' o ho=>by
  have:b'≠b:=fun e=>by subst e;rw [s1] at ho;cases ho
  simp only [if_neg this];exact ho
 have hx:Ext E m (vers h) E (fun b'=>if b'=b then some (.cells (cellsL E [.arr N α d n enc xs]++sp).toArray ty (0,0)) else m b') (vers (h.set k (.gone ver))):=⟨hm1,fun _ _ h=>by rw [hvs];exact h,fun _ _ _=>rfl⟩
 refine ⟨_,b,c,hx,hr.up hx ?_,e1,?_,_,_,_,if_pos rfl,?_⟩
 ·refine ⟨hr.rel.os,hr.rel.tape,hr.rel.output,?_,hr.rel.fr,⟨?_,hr.rel.mf.2.mono hm1⟩,?_,?_,?_,?_⟩
  ·intro b' o ho
   by_cases hb:b'=b
   ·subst hb;simp only [if_true] at ho;cases ho;exact e2
   ·simp only [if_neg hb] at ho;exact hr.rel.im b' o ho
  ·intro b' o ho
   have:b'≠b:=fun e=>by subst e;rw [s2] at ho;cases ho
   simp only [if_neg this];exact hr.rel.mf.1 b' o ho
  ·intro j B' hB'
   by_cases hj:j=k
   ·subst hj;rw [hgk] at hB';cases hB';trivial
   ·rw [hge j hj] at hB'
    exact (hr.rel.bl j B' hB').mono hx (fun _ _=>rfl) (fun _ _=>rfl)
  ·rw [hvs];exact hr.rel.nn
  ·intro j b' hb
   obtain ⟨h1,h2⟩:=hblk j b' hb
   have:b'≠b:=fun e=>by subst e;exact h1 (hr.rel.inj j k _ h2 hat)
   simp only [if_neg this];exact hr.rel.sp j b' h2
  ·intro i j b' h1 h2;exact hr.rel.inj i j b' (hblk i b' h1).2 (hblk j b' h2).2
 ·have h6:=length_cellsL E [.arr N α d n enc xs] _ o1
  simp only [wdL,wd,Nat.add_zero] at h6
  have h7:N * n≤c * n:=by
   have h8:N * n≤c * (g+1):=by omega
   rwa [← hn] at h8
  exact Nat.le_of_mul_le_mul_right h7 (by omega)
 ·intro j hj u v hu
  have h1:=ZdN (d:=d) (ys:=xs) hw hok E hj hu
  simp only [List.getElem?_toArray]
  rw [List.getElem?_append_left (List.getElem?_eq_some_iff.1 h1).1]
  exact h1
theorem ZcP {E C m t h a w} (hr:Rep E C m ⟨t,h⟩ a w) {k ver N b c:Nat} (hL:Lies m E k ver N n α enc xs d b c) (hN:xs.length=N) (hw:∀ x,wdL (enc x)=n) (hok:∀ x m,OkL m [] (enc x)) {j i len:Nat} (hj:t[j]?=some (.sl k ver (i * n) len none i)) (hi:i+len≤N) :
 ∃ (ad:Addr) (cap:Nat),Rep E C m ⟨t.set j (.imm α d n enc ((xs.drop i).take len) (some ad) cap),h⟩ a w:=by
 have hlt:j < t.length:=(List.getElem?_eq_some_iff.1 hj).1
 obtain ⟨h1,h2,arr,ty,fr,h3,h4⟩:=hL
 refine ⟨⟨b,if len=0∧c=i then 0 else i * n,none⟩,c - i,?_,?_,hr.df,hr.rel⟩
 ·simpa using hr.sz
 ·intro q x v hx hv
  by_cases hq:q=j
  ·subst hq
   rw [List.getElem?_set_self hlt] at hx
   cases hx
   have h0:=hr.sl q _ v hj hv
   have hl:((xs.drop i).take len).length=len:=by simp;omega
   refine ⟨?_,?_⟩
   ·simp only [Ok,hl]
    refine ⟨by omega,fun hne=>⟨_,arr,ty,fr,rfl,rfl,h3,fun p hp u v hu=>?_⟩,hw,fun p hp=>hok _ _⟩
    have hl0:len≠0:=by omega
    rw [if_neg (fun h=>hl0 h.1)]
    have hg:((xs.drop i).take len).getD p d=xs.getD (i+p) d:=by
     simp only [List.getD_eq_getElem?_getD]
     rw [List.getElem?_take_of_lt (by omega),List.getElem?_drop]
    rw [hg] at hu
    have:=h4 (i+p) (by omega) u v hu
    rw [Nat.add_mul] at this
    exact this
   ·rw [h0.2]
    simp only [den,wrapV,cells,List.headD_cons,h1,Option.getD_none,true_and,hl]
  ·rw [List.getElem?_set_ne (Ne.symm hq)] at hx
   exact (hr.sl q x v hx hv).set_plain hj ⟨fun b=>by simp,fun q b=>by simp⟩
section
variable {P:Program} {T:Tb} {ops:Array Oper} {o:Oper}
theorem OpC.from {K:St→Prop} {S:St} (h:∀ C E m a w,Rep E C m S a w→∃ E' m' S',OpC P T ops o K S'∧Ext E m (vers S.h) E' m' (vers S'.h)∧Rep E' C m' S' a w):OpC P T ops o K S:=by
 refine ⟨fun C E m a w hr=>?_⟩
 obtain ⟨E',m',S',h1,h2,h3⟩:=h C E m a w hr
 have h4:=h1.out C E' m' a w h3
 unfold opW at h4 ⊢
 have next:∀ a' w',(∃ E2 m2 S2,K S2∧Ext E' m' (vers S'.h) E2 m2 (vers S2.h)∧Rep E2 C m2 S2 a' w')→∃ E2 m2 S2,K S2∧Ext E m (vers S.h) E2 m2 (vers S2.h)∧Rep E2 C m2 S2 a' w':=by
  rintro a' w' ⟨E2,m2,S2,k1,k2,k3⟩
  exact ⟨E2,m2,S2,k1,h2.trans k2,k3⟩
 split
 ·rename_i hw
  rw [if_pos hw] at h4
  exact ZU h4 next
 ·rename_i hw
  rw [if_neg hw] at h4
  exact next _ _ h4
end
end
end
section
section
variable {P:Program} {T:Tb} {ops:Array Oper} {o:Oper}
theorem Z33 {K:St→Prop} {t:List SV} {h:List SB} {p:List (Nat×Bool)} (hg:Zt ops t o=some p) (hb:gB t p=false) (x:SV) (hK:putK t h o.dst (Zz p o.dst x) K):OpC P T ops o K ⟨t,h⟩:=by
 rw [ZV] at hK
 refine ⟨fun C E m a w hr=>?_⟩
 obtain ⟨g,hgv,hw⟩:=Z3d hr hg
 have hg1:g=false:=by rw [← Z7N hgv];exact hb
 subst hg1
 unfold opW
 rw [hw]
 simp only [Bool.false_eq_true,if_false]
 exact ⟨E,m,_,hK,.refl ..,hr.putG (x:=x) hgv (fun h=>by cases h) (fun _=>rfl)⟩
end
end
inductive Tr:Type 1 where
 | leaf
 | node (k:Nat) (v:TI) (l r:Tr)
def Tr.get:Tr→Tb
 | .leaf,_=>none
 | .node k v l r,t=>bif Nat.beq t k then some v else bif Nat.blt t k then l.get t else r.get t
structure EntOk (P:Program) (T:Tb) (t:Nat) (ti:TI):Prop where
 info:(P.info? t).map (fun i=>(i.size,i.bytes,i.zero.map fun z=>z.cells.toList))=some (ti.size,ti.bytes,some (cellsL E0 ti.zero))
 zok:OkL (fun _=>none) [] ti.zero
 zw:wdL ti.zero=ti.size
 kok:(match P.underlying t with | some d=>kokB P ti.k d | none=>false)=true
 zv:(P.info? t).map (·.zero)=some (some (den E0 (Z1P ti)))
 eq:match ti.leafs with
  | none=>True
  | some ls=>shape P 40 t=some ls∧P.eqGuardType P.depth t=false∧ti.k.agg=true
 arr:match ti.k with
  | .array n e=>(match T e with
    | some te=>ti.size=n * te.size∧cellsL E0 (ZF n te.zero)=cellsL E0 ti.zero
    | none=>True)
  | _=>True
def okzB:List SV→Bool
 | []=>true
 | .i _ _::r=>okzB r
 | .b _::r=>okzB r
 | .s _::r=>okzB r
 | .nils::r=>okzB r
 | .raw v::r=>Z1Z v&&okzB r
 | .ints _ n xs::r=>Nat.beq xs.length n&&okzB r
 | _::_=>false
theorem Z5H:∀ l:List SV,okzB l=true→OkL (fun _=>none) [] l
 | [],_=>trivial
 | .i _ _::r,h=>⟨⟨rfl,trivial⟩,Z5H r h⟩
 | .b _::r,h=>⟨⟨rfl,trivial⟩,Z5H r h⟩
 | .s _::r,h=>⟨⟨rfl,trivial⟩,Z5H r h⟩
 | .nils::r,h=>⟨⟨rfl,trivial⟩,Z5H r h⟩
 | .raw v::r,h=>by
   simp only [okzB,Bool.and_eq_true] at h
   exact ⟨⟨h.1,trivial⟩,Z5H r h.2⟩
 | .ints _ n xs::r,h=>by
   simp only [okzB,Bool.and_eq_true] at h
   exact ⟨⟨rfl,Nat.eq_of_beq_eq_true h.1⟩,Z5H r h.2⟩
theorem entX {P:Program} {T:Tb} {t:Nat} {ti:TI} (info:(P.info? t).map (fun i=>(i.size,i.bytes,i.zero.map fun z=>z.cells.toList))=some (ti.size,ti.bytes,some (cellsL E0 ti.zero)):=by kernel_rfl) (z:okzB ti.zero=true:=by kernel_rfl) (zw:wdL ti.zero=ti.size:=by kernel_rfl)
 (kok:(match P.underlying t with | some d=>kokB P ti.k d | none=>false)=true:=by kernel_rfl) (zv:(P.info? t).map (·.zero)=some (some (den E0 (Z1P ti))):=by kernel_rfl)
 (eq:match ti.leafs with | none=>True | some ls=>shape P 40 t=some ls∧P.eqGuardType P.depth t=false∧ti.k.agg=true:=by first | exact trivial | exact ⟨by kernel_rfl,by kernel_rfl,rfl⟩)
 (arr:match ti.k with | .array n e=>(match T e with | some te=>ti.size=n * te.size∧cellsL E0 (ZF n te.zero)=cellsL E0 ti.zero | none=>True) | _=>True:=by first | trivial | exact ⟨by kernel_rfl,by kernel_rfl⟩):EntOk P T t ti:=
 ⟨info,Z5H _ z,zw,kok,zv,eq,arr⟩
def Tr.All (p:Nat→TI→Prop):Tr→Prop
 | .leaf=>True
 | .node k v l r=>p k v∧l.All p∧r.All p
theorem Z2E {p:Nat→TI→Prop}:∀ {tr:Tr},tr.All p→∀ {t ti},tr.get t=some ti→p t ti
 | .leaf,_,t,ti,h=>by simp [Tr.get] at h
 | .node k v l r,ha,t,ti,h=>by
   simp only [Tr.get] at h
   cases h1:Nat.beq t k with
   | true=>
     rw [h1] at h
     have:=Nat.eq_of_beq_eq_true h1
     subst this
     simp only [cond_true,Option.some.injEq] at h
     subst h;exact ha.1
   | false=>
     rw [h1] at h
     simp only [cond_false] at h
     cases h2:Nat.blt t k <;> rw [h2] at h <;> simp only [cond_true,cond_false] at h
     ·exact Z2E ha.2.2 h
     ·exact Z2E ha.2.1 h
theorem Z2V {P:Program} {tr:Tr} (h:tr.All (EntOk P tr.get)):TabOk P tr.get:=by
 refine ⟨fun t ti ht=>?_,fun t ti ls ht hl=>?_,fun t ti ht=>(Z2E h ht).zv,fun t ti n e te ht hk he=>?_⟩
 ·have:=Z2E h ht
  exact ⟨this.info,this.zok,this.zw,this.kok⟩
 ·have:=(Z2E h ht).eq
  rw [hl] at this;exact this
 ·have:=(Z2E h ht).arr
  rw [hk] at this;simp only [he] at this;exact this
section
universe u
section
variable {α:Sort u}
def fN (n:Nat) (K:Nat→α):α:=match n with
 | 0=>K 0
 | n+1=>K (n+1)
def fI (n:Int) (K:Int→α):α:=match n with
 | .ofNat a=>fN a fun a=>K (.ofNat a)
 | .negSucc a=>fN a fun a=>K (.negSucc a)
def fBy (c:UInt8) (K:UInt8→α):α:=match c with
 | ⟨⟨⟨0,h⟩⟩⟩=>K ⟨⟨⟨0,h⟩⟩⟩
 | ⟨⟨⟨n+1,h⟩⟩⟩=>K ⟨⟨⟨n+1,h⟩⟩⟩
def fBs:List UInt8→(List UInt8→α)→α
 | [],K=>K []
 | c::r,K=>fBy c fun c=>fBs r fun r=>K (c::r)
def fS:List SV→(List SV→α)→α
 | [],K=>K []
 | x::r,K=>fS r fun r=>K (x::r)
def fO (o:Option Nat) (K:Option Nat→α):α:=match o with
 | none=>K none
 | some n=>fN n fun n=>K (some n)
def fV (v:SV) (K:SV→α):α:=match v with
 | .i k n=>fI n fun n=>K (.i k n)
 | .b true=>K (.b true)
 | .b false=>K (.b false)
 | .s l=>fBs l fun l=>K (.s l)
 | .ptr k ver off ix=>fN k fun k=>fN ver fun ver=>fN off fun off=>K (.ptr k ver off ix)
 | .sl k ver off len cap dc=>fN k fun k=>fN ver fun ver=>fN off fun off=>fN len fun len=>fO cap fun cap=>fN dc fun dc=>K (.sl k ver off len cap dc)
 | .agg cs=>fS cs fun cs=>K (.agg cs)
 | .tup cs=>fS cs fun cs=>K (.tup cs)
 | .fn f cs=>fS cs fun cs=>K (.fn f cs)
 | .map k=>fN k fun k=>K (.map k)
 | .iface t x=>K (.iface t x)
 | .bm t x=>K (.bm t x)
 | v=>K v
def fM:List (SV×SV)→(List (SV×SV)→α)→α
 | [],K=>K []
 | (x,y)::r,K=>fV x fun x=>fV y fun y=>fM r fun r=>K ((x,y)::r)
def fB (B:SB) (K:SB→α):α:=match B with
 | .mem t segs v g=>fS segs fun segs=>fN v fun v=>K (.mem t segs v g)
 | .mp kv v=>fM kv fun kv=>K (.mp kv v)
 | .gone v=>K (.gone v)
 | .fresh=>K .fresh
def setC:List SV→Nat→SV→(List SV→α)→α
 | x::xs,n+1,v,K=>setC xs n v (fun ys=>K (x::ys))
 | _::xs,0,v,K=>K (v::xs)
 | [],_,_,K=>K []
def Z7V (t:List SV) (d:Option Nat) (v:SV) (K:List SV→α):α:=match d with
 | some d=>setC t d v K
 | none=>K t
def Z9X:List SB→Nat→SB→(List SB→α)→α
 | x::xs,n+1,v,K=>Z9X xs n v (fun ys=>K (x::ys))
 | _::xs,0,v,K=>K (v::xs)
 | [],_,_,K=>K []
def Z9Y:List SB→List (Nat×SB)→(List SB→α)→α
 | h,[],K=>K h
 | h,(k,B)::r,K=>fB B fun B=>Z9X h k B fun h=>Z9Y h r K
def Z6B:List SB→List SB→(List SB→α)→α
 | [],l,K=>K l
 | y::ys,l,K=>Z6B ys l (fun zs=>K (y::zs))
theorem Z1s (n:Nat) (K:Nat→α):fN n K=K n:=by cases n <;> rfl
theorem ZcQ (n:Int) (K:Int→α):fI n K=K n:=by cases n <;> simp only [fI,Z1s]
theorem ZdQ (c:UInt8) (K:UInt8→α):fBy c K=K c:=by
 obtain ⟨⟨⟨n,h⟩⟩⟩:=c
 cases n <;> rfl
theorem ZdR:∀ (l:List UInt8) (K:List UInt8→α),fBs l K=K l
 | [],K=>rfl
 | c::r,K=>by simp only [fBs,ZdQ,ZdR r]
theorem ZcR:∀ (l:List SV) (K:List SV→α),fS l K=K l
 | [],K=>rfl
 | c::r,K=>by simp only [fS,ZcR r]
theorem Z9Z (o:Option Nat) (K:Option Nat→α):fO o K=K o:=by cases o <;> simp only [fO,Z1s]
theorem Z3W (v:SV) (K:SV→α):fV v K=K v:=by
 cases v <;> simp only [fV,ZcQ,ZdR,Z1s,Z9Z,ZcR]
 rename_i x;cases x <;> rfl
theorem Za0:∀ (l:List (SV×SV)) (K:List (SV×SV)→α),fM l K=K l
 | [],K=>rfl
 | (x,y)::r,K=>by simp only [fM,Z3W,Za0 r]
theorem fB_eq (B:SB) (K:SB→α):fB B K=K B:=by cases B <;> simp only [fB,ZcR,Z1s,Za0]
theorem Zc5:∀ (l:List SV) (n:Nat) (v:SV) (K:List SV→α),setC l n v K=K (l.set n v)
 | [],n,v,K=>by cases n <;> rfl
 | x::l,0,v,K=>rfl
 | x::l,n+1,v,K=>by simp only [setC,Zc5 l n v,List.set_cons_succ]
theorem Z4m (t:List SV) (d:Option Nat) (v:SV) (K:List SV→α):Z7V t d v K=K (setT t d v):=by
 cases d <;> simp only [Z7V,setT,Zc5]
theorem ZaJ:∀ (l:List SB) (n:Nat) (v:SB) (K:List SB→α),Z9X l n v K=K (l.set n v)
 | [],n,v,K=>by cases n <;> rfl
 | x::l,0,v,K=>rfl
 | x::l,n+1,v,K=>by simp only [Z9X,ZaJ l n v,List.set_cons_succ]
theorem ZaK:∀ (l:List (Nat×SB)) (h:List SB) (K:List SB→α),Z9Y h l K=K (setB h l)
 | [],h,K=>rfl
 | (k,B)::r,h,K=>by simp only [Z9Y,fB_eq,ZaJ,ZaK r,setB]
theorem Z3m:∀ (l r:List SB) (K:List SB→α),Z6B l r K=K (l++r)
 | [],r,K=>rfl
 | x::l,r,K=>by simp only [Z6B,Z3m l r,List.cons_append]
end
def isFr:SB→Bool
 | .fresh=>true
 | _=>false
theorem ZgO {B:SB} (h:isFr B=true):B=.fresh:=by cases B <;> first | rfl | cases h
def R.get:R→Option SV
 | .v x=>some x
 | @R.ob _ d x=>match d with
   | .isTrue _=>some x
   | .isFalse _=>none
 | .no=>none
def udf:SV:=.raw (.tuple #[])
def gdO (ops:Array Oper) (t:List SV) (o:Oper):Option (List Nat×Bool):=
 match o.guard with
 | none=>some ([],true)
 | some (j,want)=>match (ops[j]?).bind (·.dst) with
   | some d=>match t.getD d .dead with
     | .b v=>some ([d],v == want)
     | .raw (.tuple _)=>some ([d],false)
     | _=>none
   | none=>none
def notG:SV→Bool
 | .grd _ _=>false
 | _=>true
def valE (o:Oper) (x:SV) (rb:List Nat) (n:Nat):Option (Eff×Nat):=
 bif notG x then fV x fun x=>some (⟨o.dst,x,Zc o [],rb,[]⟩,n) else none
def newE (h:List SB) (o:Oper) (B:SB) (x:SV) (n:Nat):Option (Eff×Nat):=
 match h.getD n (.gone 0) with
 | .fresh=>some (⟨o.dst,x,Zc o [],[n],[(n,B)]⟩,n+1)
 | _=>none
def updO (segs:List SV) (off:Nat) (ix:List Ix) (new:List SV):Option (List SV):=
 match ix with
 | []=>Z1i segs off new
 | _::_=>none
def eff1 (T:Tb) (n:Nat) (o:Oper) (S:St):Option (Eff×Nat):=
 match o.op with
 | .pick c a b=>(match evO S.t c with
   | .b x=>valE o (bif x then evO S.t a else evO S.t b) [] n
   | _=>none)
 | .box ty x=>bif Zs (evO S.t x) then newE S.h o (.mem ty (Zj (evO S.t x)) 1 0) (.ptr n 1 0 []) n else none
 | .alloc ty=>(match T ty with
   | some ti=>newE S.h o (.mem ty ti.zero 1 0) (.ptr n 1 0 []) n
   | none=>none)
 | .buildSlice ty len parts=>(match T ty with
   | some ti=>match ti.k with
     | .slice e=>match T e with
       | some te=>bif !(Nat.ble (len * te.size) 16777216)||Nat.beq te.size 0 then none else match ZZ te.size (parts.toList.map fun q=>(q.1,evO S.t q.2)) (ZF len te.zero) with
         | some segs=>newE S.h o (.mem e (Z2s ti.flat te len segs) 1 0) (.sl n 1 0 len (some len) 0) n
         | none=>none
       | none=>none
     | _=>none
   | none=>none)
 | .makeSlice ty l c=>(match T ty,evO S.t l,evO S.t c with
   | some ti,.i _ (.ofNat m),.i _ (.ofNat m')=>match ti.k with
     | .slice e=>match T e with
       | some te=>bif !(Nat.beq m m')||(!(Nat.ble (m * te.bytes) 16777216)||(!(Nat.ble (m * te.size) 16777216)||Nat.beq te.size 0)) then none else newE S.h o (.mem e (Z2s ti.flat te m (ZF m te.zero)) 1 0) (.sl n 1 0 m (some m) 0) n
       | none=>none
     | _=>none
   | _,_,_=>none)
 | .store ty x v=>(match T ty,evO S.t x with
   | some ti,.ptr k ver off ix=>match S.h.getD k .fresh with
     | .mem ty' segs ver' gr=>bif Zs (evO S.t v)&&Nat.beq (wdL (Zj (evO S.t v))) ti.size&&(Nat.beq gr 0||Nat.beq ver ver') then
      (match updO segs off ix (Zj (evO S.t v)) with
      | some segs'=>some (⟨o.dst,.dead,Zc o [],[k],[(k,.mem ty' segs' ver' gr)]⟩,n)
      | none=>none) else none
     | _=>none
   | _,_=>none)
 | op=>(match (Zx T S.h (evO S.t) op).get with
   | some x=>valE o x (Z2B (evO S.t) op) n
   | none=>none)
def putE (e:Eff) (S:St):Option St:=Z7V S.t e.d e.v fun t=>Z9Y S.h e.wb fun h=>some ⟨t,h⟩
theorem Z6C (e:Eff) (S:St):putE e S=some (e.put S):=by simp only [putE,Z4m,ZaK,Eff.put]
def mkN:Op→Nat
 | .box _ _ | .alloc _ | .buildSlice _ _ _ | .makeSlice _ _ _=>1
 | _=>0
abbrev FRun:=FuncId→List SV→List SB→Option (SV×List SB)
def Z2F (t:List SV) (c:Call):Option (FuncId×List SV):=
 match c.callee with
 | .value fo=>match evO t fo with
   | .fn f caps=>bif (c.args.toList.map (evO t)).all live then some (f,c.args.toList.map (evO t)++caps) else none
   | .bm f x=>bif (c.args.toList.map (evO t)).all live then some (f,x::(c.args.toList.map (evO t)++[])) else none
   | _=>none
 | _=>none
end
section
def NG (t:List SV):Prop:=∀ x ∈ t,notG x=true
theorem NG.getD {t:List SV} (h:NG t) (n:Nat):notG (t.getD n .dead)=true:=by
 rw [List.getD_eq_getElem?_getD]
 cases hs:t[n]? with
 | none=>rfl
 | some x=>exact h x (List.mem_of_getElem? hs)
theorem NG.evO {t:List SV} (h:NG t) (o:Operand):notG (evO t o)=true:=by
 cases o with
 | tmp n=>exact h.getD n
 | const v=>
   show notG (ofV v)=true
   cases hv:ofV v <;> first | rfl | exact absurd hv (Z7b v _ _)
 | global g=>
   show notG (gV g)=true
   cases hv:gV g <;> first | rfl | exact absurd hv (ZbY g _ _)
 | func f=>rfl
theorem NG.evG {t:List SV} (h:NG t) (o:Operand):evG [] t o=SX.evO t o:=by
 have:=h.evO o
 unfold SX.evG
 cases hv:SX.evO t o <;> first | rfl | (rw [hv] at this;cases this)
theorem NG.evGf {t:List SV} (h:NG t):SX.evG [] t=SX.evO t:=funext h.evG
theorem NG.kill {t:List SV} (h:NG t) (d:Nat):Z1n d t=t:=by
 unfold Z1n
 conv=>rhs;rw [← List.map_id t]
 refine List.map_congr_left fun x hx=>?_
 have:=h x hx
 cases x <;> first | rfl | cases this
theorem NG.setT {t:List SV} (h:NG t) (d:Option Nat) {v:SV} (hv:notG v=true):NG (setT t d v):=by
 cases d with
 | none=>exact h
 | some d=>
   intro x hx
   rcases List.mem_or_eq_of_mem_set hx with hx | rfl
   ·exact h x hx
   ·exact hv
theorem ZfH {r:R} {x:SV} (h:r.get=some x):r.To x:=by
 cases r with
 | v y=>simp [R.get] at h;simp [h]
 | ob p y=>
   rename_i d
   cases d with
   | isTrue hp=>simp [R.get] at h;simp [h,hp]
   | isFalse hp=>simp [R.get] at h
 | no=>simp [R.get] at h
theorem Z6g {x:SV} (h:notG x=true):hang x=[]:=by cases x <;> first | rfl | cases h
section
variable {P:Program} {T:Tb} {ops:Array Oper} {o:Oper}
theorem Z1F (t:List SV) (hg:o.guard=none):Zt ops t o=some []:=by simp [Zt,hg]
theorem Z6D {S:St} {x:SV} {rb:List Nat} {n n':Nat} {e:Eff} (hg:o.guard=none) (h:valE o x rb n=some (e,n'))
 (hv:∀ S':St,Like (Zc o []) S.t S'.t→(∀ k ∈ rb,S'.h[k]?=S.h[k]?)→∀ C E m a w,Rep E C m S' a w→∃ v,(execOp a.eval o).run P w=.ok (.value v) w∧(x=.dead∨Gd m (vers S'.h) x∧v=den E x)) :
 OpD P ops o n (fun e2 n2 _=>e2=e∧n2=n') S∧notG e.v=true:=by
 unfold valE at h
 cases hx:notG x with
 | false=>rw [hx] at h;simp at h
 | true=>
   rw [hx] at h
   simp only [cond_true,Z3W,Option.some.injEq,Prod.mk.injEq] at h
   obtain ⟨rfl,rfl⟩:=h
   refine ⟨⟨_,_,rfl,?_,fun n hn=>?_,fun k hk=>by simp [wN] at hk,rfl,rfl⟩,hx⟩
   ·have:=Z66 (P:=P) (ops:=ops) (o:=o) (S:=S) (p:=[]) (x:=x) (rs:=Zc o []) (rb:=rb) (Z1F S.t hg) (fun n hn=>by simp at hn) (fun S' hl hb C E m a w hr _=>hv S' hl hb C E m a w hr)
    simpa only [Zz] using this
   ·simp only [Z6g hx,List.not_mem_nil] at hn
theorem Z5e {S:St} {B:SB} {x:SV} {n n':Nat} {e:Eff} {mk:Nat→SV} (hg:o.guard=none) (hx:x=mk n) (hn:notG x=true) (h:newE S.h o B x n=some (e,n')) (hv:∀ S':St,Like (Zc o []) S.t S'.t→Makes P o S' B mk) :
 OpD P ops o n (fun e2 n2 _=>e2=e∧n2=n') S∧notG e.v=true:=by
 subst hx
 unfold newE at h
 cases hf:S.h.getD n (.gone 0) <;> rw [hf] at h <;> simp only [Option.some.injEq,Prod.mk.injEq,reduceCtorEq] at h
 obtain ⟨rfl,rfl⟩:=h
 have h1:S.h[n]?=some .fresh:=by
  simp only [List.getD_eq_getElem?_getD] at hf
  cases hs:S.h[n]? with
  | none=>rw [hs] at hf;simp at hf
  | some y=>rw [hs] at hf;simp at hf;rw [hf]
 exact ⟨⟨_,_,rfl,Z3H (Z1F S.t hg) h1 hv,fun n hn'=>by simp only [Z6g hn,List.not_mem_nil] at hn',fun k hk=>by simpa [wN] using hk,rfl,rfl⟩,hn⟩
theorem Z1V {rs:List Nat} {t t':List SV} (h:NG t) (hl:Like rs t t') {x:Operand} (hx:∀ n,x=.tmp n→n ∈ rs):evG [] t' x=evO t x:=by
 rw [ZL (Zay hl hx),h.evG]
theorem Z15 {p:List (Nat×Bool)} {x:Operand} (hx:x ∈ o.op.operands.toList):∀ n,x=.tmp n→n ∈ Zc o p:=
 fun n e=>List.mem_append_left _ (Z5B (e ▸ hx))
theorem Zc6 (hT:TabOk P T) {n n':Nat} {S:St} {e:Eff} (hg:o.guard=none) (hN:NG S.t) (h:eff1 T n o S=some (e,n')):OpD P ops o n (fun e2 n2 _=>e2=e∧n2=n') S∧notG e.v=true:=by
 have hgo:=Z1F (ops:=ops) S.t hg
 unfold eff1 at h
 split at h
 ·
  rename_i c a b hop
  split at h
  ·rename_i x hc
   refine Z6D hg h fun S' hl _ C E m a' w hr=>?_
   have hev:=hr.evs .nil
   have e1:evG [] S'.t c=.b x:=by rw [Z1V hN hl (Z15 (by simp [hop,Op.operands])),hc]
   have h1:a'.eval c=.bool x:=by
    have:=(hev.live (o:=c) (by rw [e1];rfl)).2
    rw [this,e1];simp [den_v]
   refine ⟨if x then a'.eval a else a'.eval b,?_,?_⟩
   ·simp only [execOp,hop,h1,asBool,Sem.run_bind,Sem.run_pure,Result.andThen_ok]
   ·cases x with
    | true=>simp only [cond_true,if_true,← Z1V hN hl (Z15 (o:=o) (x:=a) (by simp [hop,Op.operands]))];exact hev.gd a
    | false=>simp only [cond_false,Bool.false_eq_true,if_false,← Z1V hN hl (Z15 (o:=o) (x:=b) (by simp [hop,Op.operands]))];exact hev.gd b
  ·simp at h
 ·
  rename_i ty x hop
  cases hc:Zs (evO S.t x) with
  | false=>rw [hc] at h;simp at h
  | true=>
    rw [hc] at h
    simp only [cond_true] at h
    refine Z5e (mk:=fun k=>.ptr k 1 0 []) hg Z Z h fun S' hl=>?_
    have e1:evG [] S'.t x=evO S.t x:=Z1V hN hl (Z15 (by simp [hop,Op.operands]))
    rw [← e1]
    exact Z9d hop (by rw [e1];exact hc)
 ·
  rename_i ty hop
  cases ht:T ty with
  | none=>rw [ht] at h;simp at h
  | some ti=>
    rw [ht] at h
    exact Z5e (mk:=fun k=>.ptr k 1 0 []) hg Z Z h fun S' hl=>Z6Z hT hop ht
 ·
  rename_i ty len parts hop
  cases ht:T ty with
  | none=>rw [ht] at h;simp at h
  | some ti=>
    rw [ht] at h
    simp only at h
    cases hk:ti.k <;> rw [hk] at h <;> simp only [reduceCtorEq] at h
    rename_i el
    cases hte:T el with
    | none=>rw [hte] at h;simp at h
    | some te=>
      rw [hte] at h
      simp only at h
      cases hbn:(!(Nat.ble (len * te.size) 16777216)||Nat.beq te.size 0) with
      | true=>rw [hbn] at h;simp at h
      | false=>
        rw [hbn] at h
        simp only [cond_false] at h
        cases hb:ZZ te.size (parts.toList.map fun q=>(q.1,evO S.t q.2)) (ZF len te.zero) with
        | none=>rw [hb] at h;simp at h
        | some segs=>
          rw [hb] at h
          refine Z5e (mk:=fun k=>.sl k 1 0 len (some len) 0) hg Z Z h fun S' hl=>?_
          refine Z4h hT hop ht hk hte hbn ?_
          rw [← hb]
          congr 1
          apply List.map_congr_left
          intro q hq
          rw [Z1V hN hl (Z15 (by simp [hop,Op.operands];exact ⟨q.1,by simpa using hq⟩))]
 ·
  rename_i ty l c hop
  cases ht:T ty with
  | none=>rw [ht] at h;simp at h
  | some ti=>
    cases hl:evO S.t l <;> rw [ht,hl] at h <;> try simp only [reduceCtorEq] at h
    rename_i k1 z1
    cases hc:evO S.t c <;> rw [hc] at h <;> try simp only [reduceCtorEq] at h
    rename_i k2 z2
    cases z1 with
    | negSucc a=>simp at h
    | ofNat m=>
      cases z2 with
      | negSucc a=>simp at h
      | ofNat m'=>
        try simp only at h
        cases hk:ti.k <;> rw [hk] at h <;> simp only [reduceCtorEq] at h
        rename_i el
        cases hte:T el with
        | none=>rw [hte] at h;simp at h
        | some te=>
          rw [hte] at h
          simp only at h
          cases hbn:(!(Nat.beq m m')||(!(Nat.ble (m * te.bytes) 16777216)||(!(Nat.ble (m * te.size) 16777216)||Nat.beq te.size 0))) with
          | true=>rw [hbn] at h;simp at h
          | false=>
            rw [hbn] at h
            simp only [cond_false] at h
            simp only [Bool.or_eq_false_iff,Bool.not_eq_false'] at hbn
            obtain ⟨b1,b2,b3,b4⟩:=hbn
            have b1:=Nat.eq_of_beq_eq_true b1
            subst b1
            refine Z5e (mk:=fun k=>.sl k 1 0 m (some m) 0) hg Z Z h fun S' hlk=>?_
            refine Z4z hT hop ht hk hte (n:=m) (k1:=k1) (k2:=k2) ?_ ?_ (Nat.le_of_ble_eq_true b2) (Nat.le_of_ble_eq_true b3) (Nat.ne_of_beq_eq_false b4)
            ·rw [Z1V hN hlk (Z15 (by simp [hop,Op.operands])),hl];rfl
            ·rw [Z1V hN hlk (Z15 (by simp [hop,Op.operands])),hc];rfl
 ·
  rename_i ty x v hop
  cases ht:T ty with
  | none=>rw [ht] at h;simp at h
  | some ti=>
    rw [ht] at h
    cases hx:evO S.t x <;> rw [hx] at h <;> simp only [reduceCtorEq] at h
    rename_i k ver off ix
    cases hb:S.h.getD k .fresh <;> rw [hb] at h <;> simp only [reduceCtorEq] at h
    rename_i ty' segs ver' gr
    cases hc:(Zs (evO S.t v)&&Nat.beq (wdL (Zj (evO S.t v))) ti.size&&(Nat.beq gr 0||Nat.beq ver ver')) with
    | false=>rw [hc] at h;simp at h
    | true=>
      rw [hc] at h
      simp only [cond_true] at h
      rw [Bool.and_eq_true] at hc
      cases ix with
      | cons _ _=>simp [updO] at h
      | nil=>
        simp only [updO] at h
        cases hs:Z1i segs off (Zj (evO S.t v)) with
        | none=>rw [hs] at h;simp at h
        | some segs'=>
          rw [hs] at h
          simp only [Option.some.injEq,Prod.mk.injEq] at h
          obtain ⟨rfl,rfl⟩:=h
          refine ⟨⟨_,_,rfl,Z9e hT hgo hop ht (by rw [hN.evG,hx]) hb (by rw [hN.evG];exact hc.1) (fun hgr=>?_) (fun K' hK=>?_),fun n hn=>by simp [hang] at hn,fun k hk=>by simpa [wN] using hk,rfl,rfl⟩,rfl⟩
          ·have:=hc.2
           simp only [Bool.or_eq_true] at this
           rcases this with h1 | h1
           ·exact absurd (Nat.eq_of_beq_eq_true h1) hgr
           ·exact Nat.eq_of_beq_eq_true h1
          ·simp only [updK,hN.evG,hs];exact hK
 ·
  rename_i op hn1 hn2 hn3 hn4 hn5
  cases hp:(Zx T S.h (evO S.t) o.op).get with
  | none=>rw [hp] at h;simp at h
  | some x=>
    rw [hp] at h
    refine Z6D hg h fun S' hl hb C E m a w hr=>?_
    have hpu:Zx T S'.h (evG [] S'.t) o.op=Zx T S.h (evO S.t) o.op:=Zaz (fun x hx=>Z1V hN hl (Z15 hx)) fun k hk=>by
     simp only [List.getD_eq_getElem?_getD]
     rw [hb k hk]
    exact Z4f hT hr.rel (hr.evs .nil) o (by rw [hpu];exact ZfH hp)
theorem OpD.toC {n:Nat} {K:Eff→Nat→St→Prop} {K':St→Prop} {S:St} (h:OpD P ops o n K S) (hN:NG S.t) (hK:∀ e n',K e n' (e.put S)→K' (e.put S)):OpC P T ops o K' S:=by
 obtain ⟨e,n',h1,h2,_,_,h5⟩:=h.out
 refine ⟨fun C E m a w hr=>?_⟩
 have h3:=h2.out S Z Z (fun _ _=>rfl) (fun _ _=>rfl) (fun d _=>hN.kill d) C E m a w hr
 unfold opW at h3 ⊢
 have next:∀ a' w',(∃ E' m',Ext E m (vers S.h) E' m' (vers (e.put S).h)∧Rep E' C m' (e.put S) a' w')→∃ E' m' S',K' S'∧Ext E m (vers S.h) E' m' (vers S'.h)∧Rep E' C m' S' a' w':=
  fun a' w' ⟨E',m',k1,k2⟩=>⟨E',m',_,hK _ _ h5,k1,k2⟩
 split
 ·rename_i hw;rw [if_pos hw] at h3;exact ZU h3 next
 ·rename_i hw;rw [if_neg hw] at h3;exact next _ _ h3
def ung (o:Oper):Oper:={ o with guard:=none }
theorem Z7W {t:List SV} {rs:List Nat} {b:Bool} (h:gdO ops t o=some (rs,b)) {S:St} (hl:Like rs t S.t) {E C m a w} (hr:Rep E C m S a w):Region.wanted o (yielded ops a.tmps)=b:=by
 unfold gdO at h
 cases ho:o.guard with
 | none=>rw [ho] at h;simp at h;simp [Region.wanted,ho,h.2]
 | some jw=>
   obtain ⟨j,want⟩:=jw
   rw [ho] at h
   simp only at h
   cases hd:(ops[j]?).bind (·.dst) with
   | none=>rw [hd] at h;simp at h
   | some d=>
     rw [hd] at h
     simp only at h
     have hy:yielded ops a.tmps j=match a.tmps[d]? with | some (.bool b)=>some b | _=>none:=by simp only [yielded,hd];rfl
     have slot:∀ z,t.getD d .dead=z→z≠.dead→rs=[d]→∃ u,a.tmps[d]?=some u∧SlotOk E m (vers S.h) S.t u z:=fun z hz hne hrs=>by
      subst hrs
      have ht':S.t.getD d .dead=z:=by rw [hl.getD (by simp),hz]
      rcases hr.slot d with hdd | ⟨x,u,h1,h2,h3,h4,h5⟩
      ·rw [hdd] at ht';exact absurd ht'.symm hne
      ·rw [h2] at ht';subst ht';exact ⟨u,h3,h5⟩
     split at h
     ·rename_i v ht
      simp only [Option.some.injEq,Prod.mk.injEq] at h
      obtain ⟨rfl,rfl⟩:=h
      obtain ⟨u,h3,h5⟩:=slot _ ht (by simp) rfl
      have hv:u=.bool v:=by have:=h5.2;simpa [den_v] using this
      simp only [Region.wanted,ho,hy,h3,hv]
      cases v <;> cases want <;> rfl
     ·rename_i vs ht
      simp only [Option.some.injEq,Prod.mk.injEq] at h
      obtain ⟨rfl,rfl⟩:=h
      obtain ⟨u,h3,h5⟩:=slot _ ht (by simp) rfl
      have hv:u=.tuple vs:=by have:=h5.2;simpa [den_v] using this
      simp only [Region.wanted,ho,hy,h3,hv]
      cases want <;> rfl
     ·simp at h
theorem ZdS {E m V t}:SlotOk E m V t undef udf:=⟨by simp [udf,Ok],by simp [udf,den,wrapV,cells,undef]⟩
theorem OpC.skip {K:St→Prop} {S:St} {rs:List Nat} (hg:gdO ops S.t o=some (rs,false)) (hN:NG S.t) (hK:K ⟨setT S.t o.dst udf,S.h⟩):OpC P T ops o K S:=by
 refine ⟨fun C E m a w hr=>?_⟩
 unfold opW
 rw [Z7W hg (fun _ _=>rfl) hr]
 simp only [Bool.false_eq_true,if_false]
 refine ⟨E,m,_,hK,.refl ..,?_⟩
 have:=hr.put o.dst (x:=udf) (v:=undef) fun _ _=>ZdS
 rwa [ZQ fun d _=>hN.kill d] at this
theorem OpC.want {K:St→Prop} {S:St} {rs:List Nat} (hg:gdO ops S.t o=some (rs,true)) (h:OpC P T ops (ung o) K S):OpC P T ops o K S:=by
 refine ⟨fun C E m a w hr=>?_⟩
 have h1:=h.out C E m a w hr
 unfold opW at h1 ⊢
 rw [Z7W hg (fun _ _=>rfl) hr]
 simp only [if_true]
 rw [show Region.wanted (ung o) (yielded ops a.tmps)=true from rfl,if_pos rfl] at h1
 exact h1
theorem OpD.skip {n:Nat} {K:Eff→Nat→St→Prop} {S:St} {rs:List Nat} (hg:gdO ops S.t o=some (rs,false)) (hK:K ⟨o.dst,udf,rs,[],[]⟩ n ((⟨o.dst,udf,rs,[],[]⟩:Eff).put S)):OpD P ops o n K S:=by
 refine ⟨⟨_,_,rfl,⟨fun S' _ _ h1 h2 h3 C E m a w hr=>?_⟩,fun n hn=>by simp [hang,udf] at hn,fun k hk=>by simp [wN] at hk,hK⟩⟩
 unfold opW
 rw [Z7W hg h1 hr]
 simp only [Bool.false_eq_true,if_false]
 refine ⟨E,m,.refl ..,?_⟩
 have:=hr.put o.dst (x:=udf) (v:=undef) fun _ _=>ZdS
 rwa [ZQ h3] at this
def Eff.also (e:Eff) (rs:List Nat):Eff:={ e with rs:=rs++e.rs }
theorem OpD.want {n:Nat} {K:Eff→Nat→St→Prop} {S:St} {rs:List Nat} (hg:gdO ops S.t o=some (rs,true)) (h:OpD P ops (ung o) n (fun e n' S'=>K (e.also rs) n' S') S):OpD P ops o n K S:=by
 obtain ⟨e,n',h1,h2,h3,h4,h5⟩:=h.out
 refine ⟨⟨e.also rs,n',h1,⟨fun S' k1 k2 k3 k4 k5 C E m a w hr=>?_⟩,fun n hn=>List.mem_append_right _ (h3 n hn),h4,h5⟩⟩
 have h6:=h2.out S' k1 k2 (fun n hn=>k3 n (List.mem_append_right _ hn)) k4 k5 C E m a w hr
 unfold opW at h6 ⊢
 rw [Z7W hg (fun n hn=>k3 n (List.mem_append_left _ hn)) hr]
 simp only [if_true]
 rw [show Region.wanted (ung o) (yielded ops a.tmps)=true from rfl,if_pos rfl] at h6
 exact h6
end
end
section
def eqBy:List UInt8→List UInt8→Bool
 | [],[]=>true
 | a::r,b::s=>Nat.beq a.toNat b.toNat&&eqBy r s
 | _,_=>false
theorem eqBy_iff:∀ {a b:List UInt8},eqBy a b=true ↔ a=b
 | [],[]=>by simp [eqBy]
 | [],_::_=>by simp [eqBy]
 | _::_,[]=>by simp [eqBy]
 | a::r,b::s=>by
   simp only [eqBy,Bool.and_eq_true,eqBy_iff (a:=r) (b:=s),List.cons.injEq]
   constructor
   ·rintro ⟨h1,h2⟩
    exact ⟨UInt8.toNat_inj.1 (Nat.eq_of_beq_eq_true h1),h2⟩
   ·rintro ⟨rfl,h2⟩
    exact ⟨Nat.beq_refl _,h2⟩
def Z3A (l:List UInt8):List (SV×SV)→Nat→Option (Option (Nat×SV))
 | [],_=>some none
 | (.s k,v)::r,i=>bif eqBy k l then some (some (i,v)) else Z3A l r (i+1)
 | _,_=>none
theorem ZdT (a b:List UInt8):((⟨⟨a⟩⟩:ByteArray) == ⟨⟨b⟩⟩)=eqBy a b:=by
 rw [Bool.eq_iff_iff,eqBy_iff]
 show ((⟨a⟩:Array UInt8) == ⟨b⟩)=true ↔ a=b
 simp
theorem Z71 (a b:List UInt8):Instr.sameNow .string (.string ⟨⟨a⟩⟩) (.string ⟨⟨b⟩⟩)=some (eqBy b a):=by
 simp only [Instr.sameNow,ZdT]
 congr 1
 rw [Bool.eq_iff_iff,eqBy_iff,eqBy_iff]
 exact eq_comm
theorem Z7i (E:Env) (l:List UInt8):∀ (kv:List (SV×SV)) (i:Nat) (es:List MapEntry) (r:Option (Nat×SV)),es.map (fun e=>(e.key,e.val))=kv.map (fun p=>(den E p.1,den E p.2))→Z3A l kv i=some r →
 Instr.findNow .string (.string ⟨⟨l⟩⟩) es i=some (r.map fun q=>(q.1,den E q.2))∧(∀ j v,r=some (j,v)→∃ k,i≤j∧kv[j - i]?=some (.s l,v)∧k=j)
 | [],i,es,r,he,h=>by
   simp at he;subst he
   simp [Z3A] at h;subst h
   exact ⟨rfl,fun j v hr=>by cases hr⟩
 | (x,v)::kv,i,es,r,he,h=>by
   cases es with
   | nil=>simp at he
   | cons e es=>
     simp only [List.map_cons,List.cons.injEq,Prod.mk.injEq] at he
     cases x <;> try (simp [Z3A] at h;done)
     rename_i k
     simp only [Z3A] at h
     have hk:e.key=.string ⟨⟨k⟩⟩:=by rw [he.1.1];simp [den,wrapV,cells]
     cases hq:eqBy k l with
     | true=>
       rw [hq] at h
       simp only [cond_true,Option.some.injEq] at h
       subst h
       have:=eqBy_iff.1 hq
       subst this
       refine ⟨by simp only [Instr.findNow,hk,Z71,hq,he.1.2,Option.map_some],fun j u hr=>?_⟩
       simp only [Option.some.injEq,Prod.mk.injEq] at hr
       obtain ⟨rfl,rfl⟩:=hr
       exact ⟨i,Nat.le_refl _,by simp,rfl⟩
     | false=>
       rw [hq] at h
       simp only [cond_false] at h
       obtain ⟨h1,h2⟩:=Z7i E l kv (i+1) es r he.2 h
       refine ⟨by simp only [Instr.findNow,hk,Z71,hq,h1],fun j u hr=>?_⟩
       obtain ⟨k2,q1,q2,q3⟩:=h2 j u hr
       exact ⟨k2,by omega,by rw [show j - i=(j - (i+1))+1 by omega];simpa using q2,q3⟩
section
variable {P:Program} {T:Tb} {ops:Array Oper} {o:Oper}
theorem Z4D {w:World} {r:Nat} {es:Array MapEntry} {clock:Nat} (hb:w.heap[r]?=some (.map es clock)):(getObj r).run P w=.ok (.map es clock) w:=by
 simp [getObj,Sem.run,hb]
theorem Z7X {w:World} {r:Nat} {es:Array MapEntry} {clock:Nat} (o:Obj) (hb:w.heap[r]?=some (.map es clock)):(setObj r o).run P w=.ok () (Z13 w r o):=by
 simp [setObj,Sem.run,hb,Z13]
theorem TiOk.map_und {t:TypeId} {ti:TI} (hti:TiOk P t ti) {a b:TypeId} (hk:ti.k=.map a b):P.underlying t=some (.map a b):=by
 obtain ⟨d,hd,hkk⟩:=hti.desc
 rw [hk] at hkk
 cases d <;> simp [kokB] at hkk
 rw [hd];simp [hkk]
theorem Z9H (hT:TabOk P T) {e:TypeId} {te:TI} (hte:T e=some te) (E:Env) (w:World):(zeroValue e).run P w=.ok (den E (Z1P te)) w:=by
 have h:=hT.zv e te hte
 cases hi:P.info? e with
 | none=>rw [hi] at h;simp at h
 | some i=>
   rw [hi] at h
   simp only [Option.map_some,Option.some.injEq] at h
   have hs:den E (Z1P te)=den E0 (Z1P te):=by
    have hz:=(hT.ti e te hte).zok
    unfold Z1P
    cases te.k.agg with
    | true=>simp only [cond_true,den_agg];rw [OkL.E0 hz]
    | false=>
      simp only [cond_false]
      cases hz0:te.zero with
      | nil=>simp [den,wrapV,cells]
      | cons y r=>
        rw [hz0] at hz
        simp only [OkL] at hz
        exact Z2u (m:=fun _=>none) (V:=[]) (fun k v hv=>by obtain ⟨n,hn,_⟩:=hv;simp at hn) _ hz.1.2
   rw [hs]
   simp [zeroValue,typeInfo,hi,h]
theorem ZfI (hT:TabOk P T) {e:TypeId} {te:TI} (hte:T e=some te) (hl:live (Z1P te)=true) {m:Mem} {V:List Nat}:Gd m V (Z1P te):=by
 refine ⟨?_,hl⟩
 have hz:=(hT.ti e te hte).zok
 have hz2:OkL m V te.zero:=OkL.mono (fun _ _ h=>by cases h) _ _ _ (fun k v hv=>by obtain ⟨n,hn,_⟩:=hv;simp at hn) hz
 unfold Z1P at hl ⊢
 cases ha:te.k.agg with
 | true=>simp only [cond_true,Ok];exact hz2
 | false=>
   simp only [cond_false]
   cases hz0:te.zero with
   | nil=>simp [Ok]
   | cons y r=>
     rw [hz0] at hz2
     simp only [OkL] at hz2
     exact hz2.1.2
def Z5I (ok:Bool) (v:SV) (b:Bool):SV:=bif ok then .tup [v,.b b] else v
def Z3B (T:Tb) (h:List SB) (ty:TypeId) (x k:SV) (ok:Bool):Option (SV×List Nat):=
 match T ty with
 | some ti=>match ti.k with
   | .map kt et=>match T kt,T et,k with
     | some tk,some te,.s l=>(match tk.k with
       | .str=>bif live (Z1P te) then (match x with
         | .raw (.map none)=>some (Z5I ok (Z1P te) false,[])
         | .map n=>(match h.getD n .fresh with
           | .mp kv _=>(match Z3A l kv 0 with
             | some none=>some (Z5I ok (Z1P te) false,[n])
             | some (some (_,v))=>some (Z5I ok v true,[n])
             | none=>none)
           | _=>none)
         | _=>none) else none
       | _=>none)
     | _,_,_=>none
   | _=>none
 | none=>none
theorem Z7j {E:Env} {m:Mem} {V:List Nat} {v:SV} (ok b:Bool) (hv:Gd m V v):Gd m V (Z5I ok v b)∧den E (Z5I ok v b)=if ok then .tuple #[den E v,.bool b] else den E v:=by
 cases ok with
 | false=>exact ⟨hv,rfl⟩
 | true=>
   refine ⟨⟨?_,rfl⟩,?_⟩
   ·simp only [Z5I,cond_true,Ok,OkA]
    exact ⟨⟨hv.2,hv.1⟩,⟨rfl,trivial⟩,trivial⟩
   ·simp only [Z5I,cond_true,den,wrapV,cells,List.headD_cons,denL,if_true]
theorem Z1G (w:World) (b:Bool) (n:Nat) {kt:TypeId} (hk:P.underlying kt=some .string) (v:Value):(Instr.checkKey b (n+1) kt v).run P w=.ok () w:=by
 simp [Instr.checkKey,Z6 hk]
theorem ZfJ (hT:TabOk P T) {E C m h w} (hr:Rel E C m h w) {ty:TypeId} {x k r:SV} {ok:Bool} {rb:List Nat} (hx:Gd m (vers h) x) (hl:Z3B T h ty x k ok=some (r,rb)) :
 (Instr.lookup ty (den E x) (den E k) ok).run P w=.ok (den E r) w∧Gd m (vers h) r:=by
 unfold Z3B at hl
 cases ht:T ty with
 | none=>rw [ht] at hl;simp at hl
 | some ti=>
   rw [ht] at hl
   simp only at hl
   cases hk:ti.k <;> rw [hk] at hl <;> simp only [reduceCtorEq] at hl
   rename_i kt et
   have hu:=(hT.ti ty ti ht).map_und hk
   cases htk:T kt with
   | none=>rw [htk] at hl;simp at hl
   | some tk=>
     cases hte:T et with
     | none=>rw [htk,hte] at hl;simp at hl
     | some te=>
       rw [htk,hte] at hl
       cases k <;> simp only [reduceCtorEq] at hl
       rename_i l
       cases hkk:tk.k <;> rw [hkk] at hl <;> simp only [reduceCtorEq] at hl
       have huk:=(hT.ti kt tk htk).str hkk
       cases hz:live (Z1P te) with
       | false=>rw [hz] at hl;simp at hl
       | true=>
         rw [hz] at hl
         simp only [cond_true] at hl
         have hgz:Gd m (vers h) (Z1P te):=ZfI hT hte hz
         have hrz:=Z9H hT hte E w
         cases x <;> try (simp at hl;done)
         ·rename_i v
          cases v <;> try (simp at hl;done)
          rename_i mo
          cases mo <;> try (simp at hl;done)
          simp only [Option.some.injEq,Prod.mk.injEq] at hl
          obtain ⟨rfl,rfl⟩:=hl
          obtain ⟨g1,g2⟩:=Z7j (E:=E) ok false hgz
          refine ⟨?_,g1⟩
          rw [g2]
          simp only [Instr.lookup,Sem.run_bind,Z6 hu,Result.andThen_ok,den_v.2.2.2.1,Sem.run_pure,Z1G (P:=P) w _ _ huk,Instr.findKey,Z6 huk,Instr.findNow,hrz]
         ·rename_i n
          simp only at hl
          cases hB:h.getD n .fresh <;> rw [hB] at hl <;> try (simp at hl;done)
          rename_i kv ver
          simp only at hl
          have hkB:=getD_some hB (by simp)
          obtain ⟨q0,b,c,es,clock,q1,q2,q3,q4⟩:=hr.bl n _ hkB
          cases hf:Z3A l kv 0 with
          | none=>rw [hf] at hl;simp at hl
          | some fr=>
            rw [hf] at hl
            obtain ⟨f1,f2⟩:=Z7i E l kv 0 es.toList fr q3 hf
            have hobj:(getObj b).run P w=.ok (.map es clock) w:=Z4D q2
            have hden:den E (.map n)=.map (some b):=by simp [den,wrapV,cells,Env.blk,q1]
            cases fr with
            | none=>
              simp only [Option.some.injEq,Prod.mk.injEq] at hl
              obtain ⟨rfl,rfl⟩:=hl
              obtain ⟨g1,g2⟩:=Z7j (E:=E) ok false hgz
              refine ⟨?_,g1⟩
              rw [g2,hden]
              simp only [Instr.lookup,Sem.run_bind,Z6 hu,Result.andThen_ok,den_v.2.2.1,Sem.run_pure,hobj,Z1G (P:=P) w _ _ huk,Instr.findKey,Z6 huk,f1,Option.map_none,hrz]
            | some q=>
              obtain ⟨j,v⟩:=q
              simp only [Option.some.injEq,Prod.mk.injEq] at hl
              obtain ⟨rfl,rfl⟩:=hl
              obtain ⟨_,_,f3,_⟩:=f2 j v rfl
              have hm:=q4 _ (List.mem_of_getElem? f3)
              obtain ⟨g1,g2⟩:=Z7j (E:=E) (m:=m) (V:=vers h) (v:=v) ok true ⟨hm.2.1,hm.2.2⟩
              refine ⟨?_,g1⟩
              rw [g2,hden]
              simp only [Instr.lookup,Sem.run_bind,Z6 hu,Result.andThen_ok,den_v.2.2.1,Sem.run_pure,hobj,Z1G (P:=P) w _ _ huk,Instr.findKey,Z6 huk,f1,Option.map_some]
def putM (l:List UInt8) (v:SV) (kv:List (SV×SV)):Option (List (SV×SV)):=
 match Z3A l kv 0 with
 | some none=>some (kv++[(.s l,v)])
 | some (some (j,_))=>some (kv.set j (.s l,v))
 | none=>none
theorem Z9I (hT:TabOk P T) {t:List SV} {h:List SB} {ty:TypeId} {x k v:Operand} (hop:o.op=.mapUpdate ty x k v) (hg:Zt ops t o=some []) {ti tk:TI} {kt et:TypeId} (ht:T ty=some ti) (hk:ti.k=.map kt et) (htk:T kt=some tk) (hkk:tk.k=.str)
 {n ver:Nat} (hx:evG [] t x=.map n) {l:List UInt8} (hl:evG [] t k=.s l) (hv:live (evG [] t v)=true) {kv kv':List (SV×SV)} (hh:h[n]?=some (.mp kv ver)) (hp:putM l (evG [] t v) kv=some kv') :
 Yld P ops o ⟨o.dst,.dead,Zc o [],[n],[(n,.mp kv' ver)]⟩ ⟨t,h⟩:=by
 refine ⟨fun S' _ _ h1 h2 h3 C E m a w hr=>?_⟩
 have hlk:Like (Zc o []) t S'.t:=h1
 have hops:=ZO hlk
 rw [hop] at hops
 have ex:evG [] S'.t x=.map n:=by rw [ZL (hops x (by simp [Op.operands])),hx]
 have ek:evG [] S'.t k=.s l:=by rw [ZL (hops k (by simp [Op.operands])),hl]
 have ev:evG [] S'.t v=evG [] t v:=ZL (hops v (by simp [Op.operands]))
 obtain ⟨t',h'⟩:=S'
 have hh':h'[n]?=some (.mp kv ver):=by rw [h2 n (by simp)];exact hh
 have hg':=Z14 hg (Z1j hlk)
 unfold opW
 rw [show Region.wanted o (yielded ops a.tmps)=true by simp [Region.wanted,Z1f hg'],if_pos rfl]
 have hevs:=hr.evs .nil
 obtain ⟨gx,rx⟩:=hevs.live (o:=x) (by rw [ex];rfl)
 obtain ⟨gk,rk⟩:=hevs.live (o:=k) (by rw [ek];rfl)
 obtain ⟨gv,rv⟩:=hevs.live (o:=v) (by rw [ev];exact hv)
 rw [ex] at gx rx
 rw [ek] at gk rk
 rw [ev] at gv rv
 obtain ⟨q0,b,c,es,clock,q1,q2,q3,q4⟩:=hr.rel.bl n _ hh'
 have hobj:(getObj b).run P w=.ok (.map es clock) w:=Z4D q2
 have hden:den E (.map n)=.map (some b):=by simp [den,wrapV,cells,Env.blk,q1]
 have hu:=(hT.ti ty ti ht).map_und hk
 have huk:=(hT.ti kt tk htk).str hkk
 have hlt:=Zw q2
 have key:∃ es' clock',(Instr.mapUpdate ty (.map (some b)) (.string ⟨⟨l⟩⟩) (den E (evG [] t v))).run P w=.ok () (Z13 w b (.map es' clock'))∧MapHas E kv' es'.toList∧∀ p ∈ kv',(Ok m (vers h') p.1∧live p.1=true)∧Ok m (vers h') p.2∧live p.2=true:=by
  unfold putM at hp
  cases hf:Z3A l kv 0 with
  | none=>rw [hf] at hp;simp at hp
  | some fr=>
    rw [hf] at hp
    obtain ⟨f1,f2⟩:=Z7i E l kv 0 es.toList fr q3 hf
    have hset:∀ ob,(setObj b ob).run P w=.ok () (Z13 w b ob):=fun ob=>Z7X ob q2
    cases fr with
    | none=>
      simp only [Option.some.injEq] at hp
      subst hp
      refine ⟨es.push { key:=.string ⟨⟨l⟩⟩,val:=den E (evG [] t v),born:=clock },clock+1,?_,?_,?_⟩
      ·simp only [Instr.mapUpdate,Sem.run_bind,Z6 hu,Result.andThen_ok,hobj,Z1G (P:=P) w _ _ huk,Instr.findKey,Z6 huk,f1,Option.map_none,Sem.run_pure,hset]
      ·unfold MapHas at q3 ⊢
       rw [Array.toList_push,List.map_append,List.map_append,q3]
       simp [den,wrapV,cells]
      ·intro p hp
       rcases List.mem_append.1 hp with hp | hp
       ·exact q4 p hp
       ·simp at hp;subst hp
        exact ⟨⟨by simp [Ok],rfl⟩,gv.1,gv.2⟩
    | some q=>
      obtain ⟨j,u⟩:=q
      simp only [Option.some.injEq] at hp
      subst hp
      obtain ⟨_,_,f3,_⟩:=f2 j u rfl
      rw [Nat.sub_zero] at f3
      have hjl:=(List.getElem?_eq_some_iff.1 f3).1
      have hes:∃ e,es[j]?=some e∧e.key=.string ⟨⟨l⟩⟩:=by
       have h5:=congrArg (fun z=>z[j]?) q3
       simp only [List.getElem?_map,f3,Option.map_some] at h5
       cases he:es.toList[j]? with
       | none=>rw [he] at h5;simp at h5
       | some e=>
         rw [he] at h5
         simp only [Option.map_some,Option.some.injEq,Prod.mk.injEq] at h5
         exact ⟨e,by simpa using he,by rw [h5.1];simp [den,wrapV,cells]⟩
      obtain ⟨e,he1,he2⟩:=hes
      refine ⟨es.modify j fun e=>{ e with key:=.string ⟨⟨l⟩⟩,val:=den E (evG [] t v) },clock,?_,?_,?_⟩
      ·have hst:(Instr.keyThatStays (.string ⟨⟨l⟩⟩) (.string ⟨⟨l⟩⟩)).run P w=.ok (.string ⟨⟨l⟩⟩) w:=by simp [Instr.keyThatStays,Instr.sameBits,ZdT,(eqBy_iff (a:=l) (b:=l)).2 rfl]
       simp only [Instr.mapUpdate,Sem.run_bind,Z6 hu,Result.andThen_ok,hobj,Z1G (P:=P) w _ _ huk,Instr.findKey,Z6 huk,f1,Option.map_some,Sem.run_pure,he1,Option.getD_some,he2,hst,hset]
      ·unfold MapHas at q3 ⊢
       rw [List.map_set,← q3]
       apply List.ext_getElem?
       intro i
       rw [List.getElem?_map,Array.getElem?_toList,Array.getElem?_modify,List.getElem?_set,List.getElem?_map,List.length_map,Array.length_toList]
       have hjs:j < es.size:=(Array.getElem?_eq_some_iff.1 he1).1
       by_cases hij:j=i
       ·subst hij
        simp [he1,hjs,den,wrapV,cells]
       ·simp [hij]
      ·intro p hp
       rcases List.mem_or_eq_of_mem_set hp with hp | rfl
       ·exact q4 p hp
       ·exact ⟨⟨by simp [Ok],rfl⟩,gv.1,gv.2⟩
 obtain ⟨es',clock',k1,k2,k3⟩:=key
 have hrun:(execOp a.eval o).run P w=.ok .skip (Z13 w b (.map es' clock')):=by
  simp only [execOp,hop,rx,rk,rv,hden,den_v.2.2.1,Sem.run_bind,k1,Result.andThen_ok,Sem.run_pure]
 simp only [Oper.wp,hrun,Oper.upon]
 have hrel:=hr.rel.set (w':=Z13 w b (.map es' clock')) (B':=.mp kv' ver) hh' rfl ⟨c,by rw [q0];exact q1⟩ (fun c2 hc=>by obtain ⟨c3,he2⟩:=hc;rw [q0,q1] at he2;cases he2;rfl) ⟨rfl,rfl,rfl,by first | exact Nat.le_refl _ | exact Nat.le_succ _⟩ (fun i hi=>Z62 hi _) ⟨q0,b,c,es',clock',q1,Z3v hlt _,k2,k3⟩
 have hx2:Ext E m (vers h') E m (vers (h'.set n (.mp kv' ver))):=by rw [ZJ (B':=.mp kv' ver) hh' rfl];exact .refl ..
 refine ⟨E,m,hx2,?_⟩
 have:=(hr.up hx2 hrel).put o.dst (x:=.dead) (v:=undef) fun d hd=>trivial
 have hpc:putF t' o.dst .dead=setT t' o.dst .dead:=ZQ h3
 simp only at this
 rw [hpc] at this
 exact this
theorem Z9J {S:St} {ty:TypeId} (hop:o.op=.makeMap ty none):Makes P o S (.mp [] 1) (fun k=>.map k):=by
 refine ⟨rfl,fun m V k hk=>⟨by simp only [Ok];exact hk,rfl⟩,fun C E m a w hr=>?_⟩
 refine ⟨.map #[] 0,.map (some w.heap.size),?_,fun k E' V' hE hV hlen=>?_,fun k E' he=>by simp [den,wrapV,cells,Env.blk,he]⟩
 ·simp only [execOp,hop,Instr.makeMap,Option.map_none,Sem.run_bind,run_newObj,Result.andThen_ok,Sem.run_pure]
  rfl
 ·exact ⟨rfl,_,_,_,_,hlen,heap_alloc_new w _,by simp [MapHas],fun p hp=>by cases hp⟩
end
end
section
section
variable {α:Type} {d:α} {n:Nat} {enc:α→List SV} {xs:List α}
def Zac (enc:α→List SV):Prop:=∀ x m V,OkL m V (enc x)→OkL m [] (enc x)
theorem ZbO {E C m t h a w} (hr:Rep E C m ⟨t,h⟩ a w) {k ver N g:Nat} {ty:TypeId} (hk:h[k]?=some (.mem ty [.arr N α d n enc xs] ver (g+1))) (hn:n=g+1) (hv:ver≠0) (hw:∀ x,wdL (enc x)=n) (hfr:Zac enc) :
 ∃ m' b c,Ext E m (vers h) E m' (vers (h.set k (.gone ver)))∧Rep E C m' ⟨t,h.set k (.gone ver)⟩ a w∧Lies m' E k ver N n α enc xs d b c∧∀ j,j < N→OkL m' [] (enc (xs.getD j d)):=by
 have hvs:vers (h.set k (.gone ver))=vers h:=ZJ (B':=.gone ver) hk rfl
 have hkl:k < h.length:=(List.getElem?_eq_some_iff.1 hk).1
 have hgk:(h.set k (.gone ver))[k]?=some (.gone ver):=by simp [List.getElem?_set,hkl]
 have hge:∀ j,j≠k→(h.set k (.gone ver))[j]?=h[j]?:=fun j hj=>List.getElem?_set_ne (Ne.symm hj)
 have hblk:∀ j b,Zk E (h.set k (.gone ver)) j b→j≠k∧Zk E h j b:=by
  rintro j b ⟨B',hB',hb⟩
  by_cases hj:j=k
  ·subst hj;rw [hgk] at hB';cases hB';exact hb.elim
  ·rw [hge j hj] at hB';exact ⟨hj,B',hB',hb⟩
 obtain ⟨o1,_,o3⟩:=hr.rel.bl k _ hk
 obtain ⟨b,c,sp,e1,e2,e3,_⟩:=o3 hv
 have hat:Zk E h k b:=⟨_,hk,hv,c,e1⟩
 obtain ⟨s1,s2⟩:=hr.rel.sp k b hat
 have hm1:∀ b' o,m b'=some o→(fun b'=>if b'=b then some (.cells (cellsL E [.arr N α d n enc xs]++sp).toArray ty (0,0)) else m b') b'=some o:=fun b' o ho=>by
  have:b'≠b:=fun e=>by subst e;rw [s1] at ho;cases ho
  simp only [if_neg this];exact ho
 have hx:Ext E m (vers h) E (fun b'=>if b'=b then some (.cells (cellsL E [.arr N α d n enc xs]++sp).toArray ty (0,0)) else m b') (vers (h.set k (.gone ver))):=⟨hm1,fun _ _ h=>by rw [hvs];exact h,fun _ _ _=>rfl⟩
 have oA:Ok m (vers h) (.arr N α d n enc xs):=o1.1.2
 have oE:∀ j,j < N→OkL m [] (enc (xs.getD j d)):=fun j hj=>hfr _ _ _ (oA.2.2 j hj)
 refine ⟨_,b,c,hx,hr.up hx ?_,⟨e1,?_,_,_,_,if_pos rfl,?_⟩,fun j hj=>(oE j hj).mono hm1 _ _ _ (fun _ _ h=>h)⟩
 ·refine ⟨hr.rel.os,hr.rel.tape,hr.rel.output,?_,hr.rel.fr,⟨?_,hr.rel.mf.2.mono hm1⟩,?_,?_,?_,?_⟩
  ·intro b' o ho
   by_cases hb:b'=b
   ·subst hb;simp only [if_true] at ho;cases ho;exact e2
   ·simp only [if_neg hb] at ho;exact hr.rel.im b' o ho
  ·intro b' o ho
   have:b'≠b:=fun e=>by subst e;rw [s2] at ho;cases ho
   simp only [if_neg this];exact hr.rel.mf.1 b' o ho
  ·intro j B' hB'
   by_cases hj:j=k
   ·subst hj;rw [hgk] at hB';cases hB';trivial
   ·rw [hge j hj] at hB'
    exact (hr.rel.bl j B' hB').mono hx (fun _ _=>rfl) (fun _ _=>rfl)
  ·rw [hvs];exact hr.rel.nn
  ·intro j b' hb
   obtain ⟨h1,h2⟩:=hblk j b' hb
   have:b'≠b:=fun e=>by subst e;exact h1 (hr.rel.inj j k _ h2 hat)
   simp only [if_neg this];exact hr.rel.sp j b' h2
  ·intro i j b' h1 h2;exact hr.rel.inj i j b' (hblk i b' h1).2 (hblk j b' h2).2
 ·have h6:=length_cellsL E [.arr N α d n enc xs] _ o1
  simp only [wdL,wd,Nat.add_zero] at h6
  have h7:N * n≤c * n:=by
   have h8:N * n≤c * (g+1):=by omega
   rwa [← hn] at h8
  exact Nat.le_of_mul_le_mul_right h7 (by omega)
 ·intro j hj u v hu
  have hst:cellsL E (enc (xs.getD j d))=cellsL E0 (enc (xs.getD j d)):=cellsL_stable (m:=m) (V:=[]) (fun k v hv=>(Z1I hv).elim) _ (oE j hj)
  have h1:=Z37 (E:=E) oA hj (u:=u) (c:=v) (by rw [hst];exact hu)
  simp only [List.getElem?_toArray,cellsL,List.append_nil]
  rw [List.getElem?_append_left (List.getElem?_eq_some_iff.1 h1).1]
  exact h1
section
variable {P:Program} {T:Tb} {ops:Array Oper} {o:Oper}
end
theorem Ze4 {β:Type} {e:β} {q:Nat} {en:β→List SV} (f:α→List β) (g:α→Option Addr) (c:α→Nat):Zac fun x=>[.imm β e q en (f x) (g x) (c x)]:=fun x m V h=>by
 simp only [OkL,Ok,isUnit] at h ⊢
 exact h
end
end
theorem Rel.recell {E C m H w} (h:Rel E C m H w) {k ver g:Nat} {ty:TypeId} {segs segs':List SV} (hk:H[k]?=some (.mem ty segs ver g)) (hc:∀ E,cellsL E segs'=cellsL E segs) (ho:∀ m V,OkL m V segs→OkL m V segs'):Rel E C m (H.set k (.mem ty segs' ver g)) w:=by
 have hvs:vers (H.set k (.mem ty segs' ver g))=vers H:=ZJ (B':=.mem ty segs' ver g) hk rfl
 have hkl:k < H.length:=(List.getElem?_eq_some_iff.1 hk).1
 have hgk:(H.set k (.mem ty segs' ver g))[k]?=some (.mem ty segs' ver g):=by simp [List.getElem?_set,hkl]
 have hge:∀ j,j≠k→(H.set k (.mem ty segs' ver g))[j]?=H[j]?:=fun j hj=>List.getElem?_set_ne (Ne.symm hj)
 have hblk:∀ j b,Zk E (H.set k (.mem ty segs' ver g)) j b→Zk E H j b:=by
  rintro j b ⟨B',hB',hb⟩
  by_cases hj:j=k
  ·subst hj;rw [hgk] at hB';cases hB';exact ⟨_,hk,hb⟩
  ·rw [hge j hj] at hB';exact ⟨B',hB',hb⟩
 refine ⟨h.os,h.tape,h.output,h.im,h.fr,h.mf,?_,?_,fun j b hb=>h.sp j b (hblk j b hb),fun i j b h1 h2=>h.inj i j b (hblk i b h1) (hblk j b h2)⟩
 ·intro j B' hB'
  rw [hvs]
  by_cases hj:j=k
  ·subst hj;rw [hgk] at hB';cases hB'
   have h1:=h.bl j _ hk
   cases g with
   | zero=>
     obtain ⟨a1,b,c,a2,a3,a4⟩:=h1
     exact ⟨a1,b,c,a2,by rw [hc];exact a3,ho _ _ a4⟩
   | succ g=>
     obtain ⟨o1,o2,o3⟩:=h1
     exact ⟨ho _ _ o1,fun e=>by rw [hc];exact o2 e,fun e=>by rw [hc];exact o3 e⟩
  ·rw [hge j hj] at hB';exact h.bl j B' hB'
 ·rw [hvs];exact h.nn
theorem Shift.recell {t:List SV} {h h':List SB} (k:Nat) {ver g:Nat} {ty:TypeId} {segs:List SV} (segs':List SV) (hk:h[k]?=some (.mem ty segs ver g)) (hc:∀ E,cellsL E segs'=cellsL E segs) (ho:∀ m V,OkL m V segs→OkL m V segs') (hh:h'=h.set k (.mem ty segs' ver g)):Shift ⟨t,h⟩ ⟨t,h'⟩:=by
 subst hh
 intro C E m a w hr
 have hvs:vers (h.set k (.mem ty segs' ver g))=vers h:=ZJ (B':=.mem ty segs' ver g) hk rfl
 refine ⟨E,m,?_,hr.sz,?_,hr.df,hr.rel.recell hk hc ho⟩
 ·show Ext E m (vers h) E m (vers (h.set k (.mem ty segs' ver g)))
  rw [hvs];exact ⟨fun _ _ h=>h,fun _ _ h=>h,fun _ _ _=>rfl⟩
 ·intro n x v hx hv
  show SlotOk E m (vers (h.set k (.mem ty segs' ver g))) t v x
  rw [hvs];exact hr.sl n x v hx hv
theorem Z4q {t t':List SV} {h:List SB} (d:Nat) {x:SV} (y:SV) (hd:t[d]?=some x) (hx:(∀ b,x≠.b b)∧∀ q' b,x≠.grd q' (.b b)) (hx2:∀ E m V t v,SlotOk E m V t v x→SlotOk E m V t v y) (ht:t'=t.set d y):Shift ⟨t,h⟩ ⟨t',h⟩:=by
 subst ht
 intro C E m a w hr
 refine ⟨E,m,⟨fun _ _ h=>h,fun _ _ h=>h,fun _ _ _=>rfl⟩,?_,?_,hr.df,hr.rel⟩
 ·simpa using hr.sz
 ·intro n z v hz hv
  have hlt:d < t.length:=(List.getElem?_eq_some_iff.1 hd).1
  by_cases hn:n=d
  ·subst hn
   rw [List.getElem?_set_self hlt] at hz
   cases hz
   exact (hx2 _ _ _ _ _ (hr.sl n x v hd hv)).set_plain hd hx
  ·rw [List.getElem?_set_ne (Ne.symm hn)] at hz
   exact (hr.sl n z v hz hv).set_plain hd hx
theorem Cp.recell {X:List Value→World→(Value→World→Prop)→Prop} (hX:Z2A X) {args:List SV} {H:List SB} {K K':SV→List SB→Prop} (h:Cp X args H K)
 (hk:∀ r H1,K r H1→∃ k ty segs segs' ver g,H1[k]?=some (SB.mem ty segs ver g)∧(∀ E,cellsL E segs'=cellsL E segs)∧(∀ m V,OkL m V segs→OkL m V segs')∧K' r (H1.set k (.mem ty segs' ver g))):Cp X args H K':=
 ⟨fun C E m w hr ha=>hX _ _ _ _ (h.out C E m w hr ha) fun v w' ⟨r,H1,E',m',h1,h2,h3,h4,h5⟩=>by
  obtain ⟨k,ty,segs,segs',ver,g,k1,k2,k3,k4⟩:=hk r H1 h2
  have hvs:vers (H1.set k (.mem ty segs' ver g))=vers H1:=ZJ (B':=.mem ty segs' ver g) k1 rfl
  exact ⟨r,_,E',m',h1,k4,by rw [hvs];exact h3,by rw [hvs];exact h4,h5.recell k1 k2 k3⟩⟩
section
structure LikeE (d:Option Nat) (rs rb:List Nat) (S' S:St):Prop where
 t:S'.t.length=S.t.length
 h:S'.h.length=S.h.length
 s:∀ n ∈ rs,S'.t[n]?=S.t[n]?
 b:∀ k ∈ rb,S'.h[k]?=S.h[k]?
 k:∀ x,d=some x→Z1n x S'.t=S'.t
structure OpE (P:Program) (ops:Array Oper) (o:Oper) (n:Nat) (K:Eff→Nat→St→Prop) (S:St):Prop where
 out:∃ (A:Eff→Prop) (n':Nat) (rs rb:List Nat),(∃ e,A e) ∧
  (∀ e,A e→e.d=o.dst∧e.rs=rs∧e.rb=rb∧(∀ n ∈ hang e.v,n ∈ e.rs)∧(∀ k ∈ wN e.wb,k ∈ e.rb)∧K e n' (e.put S)) ∧
  (∀ S':St,LikeE o.dst rs rb S' S→∀ C E m a w,Rep E C m S' a w→opW P ops o a w (fun a' w'=>∃ e,A e∧∃ E' m',Ext E m (vers S'.h) E' m' (vers (e.put S').h)∧Rep E' C m' (e.put S') a' w'))
def Z8k (P:Program) (T:Tb) (ops:Array Oper):List Oper→List Bool→Nat→List Eff→(List Eff→St→Prop)→St→Prop
 | [],_,_,acc,K,S=>Ob (chk ops acc.reverse=true) (K acc.reverse S)
 | o::r,fl,n,acc,K,S=>bif fl.headD false then OpE P ops o n (fun e n' S'=>Z8k P T ops r fl.tail n' (e::acc) K S') S
   else dop P T ops o n (fun e n' S'=>Z8k P T ops r fl.tail n' (e::acc) K S') S
def Zcg (P:Program) (T:Tb) (ops:Array Oper) (fl:List Bool) (n:Nat) (K:List Eff→St→Prop) (S:St):Prop:=
 match S with
 | ⟨t,h⟩=>clrK (Z1S ops.toList) t fun t'=>appH h (List.replicate n .fresh) fun h'=>Z8k P T ops ops.toList fl h.length [] K ⟨t',h'⟩
structure PlanB (ops:Array Oper) (es:List Eff) (S0:St):Prop where
 len:es.length=ops.size
 lex:∀ i o,ops[i]?=some o→∀ p ∈ par o,p < i
 cf:∀ (i j:Nat) (e f:Eff),i < j→es[i]?=some e→es[j]?=some f→Z1d e f=true→AncR ops i j
 hg:∀ (i j:Nat) (e f:Eff),i < j→es[i]?=some e→es[j]?=some f→hasO f.d (hang e.v)=false
 hr:∀ (i:Nat) (e:Eff),es[i]?=some e→∀ n ∈ hang e.v,n ∈ e.rs
 cln:∀ (i:Nat) (e:Eff) (d:Nat),es[i]?=some e→e.d=some d→Z1n d S0.t=S0.t
 wr:∀ (i:Nat) (e:Eff),es[i]?=some e→∀ k ∈ wN e.wb,k ∈ e.rb
def YE (P:Program) (ops:Array Oper) (R:List Eff→Eff→Prop) (i:Nat) (o:Oper) (S:St) (e:Eff):Prop:=
 ∀ S':St,LikeE e.d e.rs e.rb S' S→∀ C E m a w,Rep E C m S' a w→opW P ops o a w (fun a' w'=>∃ es' e',R es' e'∧es'[i]?=some e'∧∃ E' m',Ext E m (vers S'.h) E' m' (vers (e'.put S').h)∧Rep E' C m' (e'.put S') a' w')
theorem Z4r {P:Program} {ops:Array Oper} {o:Oper} {a:Act} {w:World} {K K':Act→World→Prop} (h:opW P ops o a w K) (hk:∀ a w,K a w→K' a w):opW P ops o a w K':=by
 unfold opW at h ⊢
 split
 ·rename_i hw
  rw [if_pos hw] at h
  exact ZU h (fun a' w' k=>hk a' w' k)
 ·rename_i hw
  rw [if_neg hw] at h
  exact hk _ _ h
theorem Z8l:∀ (es fs:List Eff) (i:Nat) (L:Nat→Bool) (S:St),es.length=fs.length→(∀ j,L (i+j)=true→es[j]?=fs[j]?)→stL es i L S=stL fs i L S
 | [],[],_,_,_,_,_=>rfl
 | [],_::_,_,_,_,h,_=>by simp at h
 | _::_,[],_,_,_,h,_=>by simp at h
 | e::r,f::q,i,L,S,hl,h=>by
   simp only [stL]
   have h0:(bif L i then e.put S else S)=(bif L i then f.put S else S):=by
    cases hL:L i with
    | false=>rfl
    | true=>have:=h 0 hL;simp at this;rw [this]
   rw [h0]
   exact Z8l r q (i+1) L _ (by simpa using hl) fun j hj=>by have:=h (j+1) (by rwa [show i+(j+1)=i+1+j by omega]);simpa using this
theorem ZfV {ops:Array Oper} {es:List Eff} {S0:St} (hp:PlanB ops es S0) {listed:Array Bool} {i:Nat} {e:Eff} (hcl:Z63 ops (fun j=>listed.getD j false)) (hlt:i < listed.size) (huf:listed.getD i false=false) (he:es[i]?=some e) :
 e.put (stL es 0 (fun j=>listed.getD j false) S0)=stL es 0 (fun j=>(listed.setIfInBounds i true).getD j false) S0:=by
 have later:∀ j f,i < j→es[j]?=some f→Z1d e f=true→listed.getD j false=false:=by
  intro j f hij hf hcf
  cases hl:listed.getD j false with
  | false=>rfl
  | true=>
    have:=hp.cf i j e f hij he hf hcf (fun j=>listed.getD j false) hcl (fun o' ho' p hp'=>hcl j o' hl ho' p hp')
    simp only [huf] at this;cases this
 have hL:∀ j,(listed.setIfInBounds i true).getD j false=(decide (j=i)||listed.getD j false):=by
  intro j
  by_cases hji:j=i
  ·subst hji;simp [Array.getD,hlt]
  ·simp only [Array.getD_eq_getD_getElem?,hji,decide_false,Bool.false_or];rw [Array.getElem?_setIfInBounds_ne (Ne.symm hji)]
 have hLi:(listed.setIfInBounds i true).getD i false=true:=by rw [hL];simp
 have l1:=Z1A es 0 (fun j=>listed.getD j false) S0
 have l2:=Z1A es 0 (fun j=>(listed.setIfInBounds i true).getD j false) S0
 have ht:(e.put (stL es 0 (fun j=>listed.getD j false) S0)).t=(stL es 0 (fun j=>(listed.setIfInBounds i true).getD j false) S0).t:=by
  apply List.ext_getElem?
  intro n
  by_cases hd:e.d=some n
  ·refine (Z7e hd es 0 i S0 _ he (by simpa using hLi) (fun j f hij hf hfd=>?_) l1.1).symm
   simp only [Nat.zero_add,hL]
   rw [later j f hij hf (by simp [Z1d,ZcL,hd,hfd])]
   simp;omega
  ·simp only [Eff.put]
   rw [Z2x hd]
   refine Z2y es 0 S0 S0 Z Z fun j f hf hfd=>?_
   simp only [Nat.zero_add,hL]
   have:j≠i:=fun e'=>by subst e';rw [he] at hf;cases hf;exact hd hfd
   simp [this]
 have hh:(e.put (stL es 0 (fun j=>listed.getD j false) S0)).h=(stL es 0 (fun j=>(listed.setIfInBounds i true).getD j false) S0).h:=by
  apply List.ext_getElem?
  intro n
  by_cases hd:n ∈ wN e.wb
  ·refine (Z8D hd es 0 i S0 _ he (by simpa using hLi) (fun j f hij hf hfd=>?_) l1.2).symm
   simp only [Nat.zero_add,hL]
   rw [later j f hij hf (by simp [Z1d,Z5y hd (hp.wr j f hf n hfd)])]
   simp;omega
  ·simp only [Eff.put]
   rw [Z3e hd]
   refine Z31 es 0 S0 S0 Z Z fun j f hf hfd=>?_
   simp only [Nat.zero_add,hL]
   have:j≠i:=fun e'=>by subst e';rw [he] at hf;cases hf;exact hd hfd
   simp [this]
 cases hA:e.put (stL es 0 (fun j=>listed.getD j false) S0)
 cases hB:stL es 0 (fun j=>(listed.setIfInBounds i true).getD j false) S0
 rw [hA,hB] at ht hh
 simp only at ht hh
 rw [ht,hh]
theorem Ze5 {ops:Array Oper} {es:List Eff} {S0:St} (hp:PlanB ops es S0) {listed:Array Bool} {i:Nat} {e:Eff} {o:Oper} (hcl:Z63 ops (fun j=>listed.getD j false)) (huf:listed.getD i false=false) (he:es[i]?=some e) (ho:ops[i]?=some o) (hpar:∀ p ∈ par o,listed.getD p false=true) :
 LikeE e.d e.rs e.rb (stL es 0 (fun j=>listed.getD j false) S0) (stL es 0 (fun j=>decide (j < i)) S0):=by
 have later:∀ j f,i < j→es[j]?=some f→Z1d e f=true→listed.getD j false=false:=by
  intro j f hij hf hcf
  cases hl:listed.getD j false with
  | false=>rfl
  | true=>
    have:=hp.cf i j e f hij he hf hcf (fun j=>listed.getD j false) hcl (fun o' ho' p hp'=>hcl j o' hl ho' p hp')
    simp only [huf] at this;cases this
 have earlier:∀ j f,j < i→es[j]?=some f→Z1d f e=true→listed.getD j false=true:=by
  intro j f hij hf hcf
  refine hp.cf j i f e hij hf he hcf (fun j=>listed.getD j false) hcl (fun o' ho' p hp'=>?_)
  rw [ho] at ho';cases ho'
  exact hpar p hp'
 have same:∀ j f,es[j]?=some f→(Z1d e f=true∧Z1d f e=true)→decide (j < i)=listed.getD j false:=by
  intro j f hf hcf
  rcases Nat.lt_trichotomy j i with h | h | h
  ·rw [earlier j f h hf hcf.2];simp [h]
  ·subst h;rw [huf];simp
  ·rw [later j f h hf hcf.1];simp;omega
 refine ⟨by rw [(Z1A ..).1,(Z1A ..).1],by rw [(Z1A ..).2,(Z1A ..).2],fun n hn=>(Z2y es 0 S0 S0 Z Z fun j f hf hd=>?_).symm,fun k hk=>(Z31 es 0 S0 S0 Z Z fun j f hf hd=>?_).symm,fun d hd=>?_⟩
 ·simp only [Nat.zero_add]
  refine same j f hf ⟨?_,?_⟩ <;> simp [Z1d,hasO,hd,hasN_iff.2 hn]
 ·simp only [Nat.zero_add]
  refine same j f hf ⟨?_,?_⟩ <;> simp [Z1d,Z5y hd hk]
 ·unfold Z1n
  conv=>rhs;rw [← List.map_id (stL es 0 (fun j=>listed.getD j false) S0).t]
  refine List.map_congr_left fun x hxm=>?_
  obtain ⟨n,hn⟩:=List.getElem?_of_mem hxm
  rcases Z5A es 0 S0 hn with h | ⟨j,f,hf,hl,hfd,rfl⟩
  ·have h1:=hp.cln i e d he hd
   have h2:(Z1n d S0.t)[n]?=S0.t[n]?:=by rw [h1]
   simp only [Z1n,List.getElem?_map,h,Option.map_some,Option.some.injEq] at h2
   exact h2
  ·simp only [Nat.zero_add] at hl
   cases hv:f.v <;> try rfl
   rename_i q z
   simp only [Z2t,id]
   cases hq:inG d q with
   | false=>rfl
   | true=>
     exfalso
     have hm:d ∈ hang f.v:=by rw [hv];exact Z7f hq
     have hrs:=hp.hr j f hf d hm
     rcases Nat.lt_trichotomy j i with h | h | h
     ·have:=hp.hg j i f e h hf he
      rw [hd] at this
      simp only [hasO] at this
      rw [hasN_iff.2 hm] at this;cases this
     ·subst h;rw [huf] at hl;cases hl
     ·have:=later j f h hf (by simp [Z1d,hasO,hd,hasN_iff.2 hrs])
      rw [this] at hl;cases hl
section
variable {P:Program} {ops:Array Oper} {Pl:List Eff→Prop} {S0:St}
theorem Ze6 (hp:∀ es,Pl es→PlanB ops es S0) (hy:∀ es,Pl es→∀ i o e,ops[i]?=some o→es[i]?=some e→YE P ops (fun es' e'=>Pl es'∧∀ j,j≠i→¬ AncR ops i j→es'[j]?=es[j]?) i o (stL es 0 (fun j=>decide (j < i)) S0) e) {Q:Exit→Act→World→Prop} {C:Fr} {E0:Env} {m0:Mem} {V0:List Nat}
 (hQ:∀ es,Pl es→∀ E m a w,Ext E0 m0 V0 E m (vers (stL es 0 (fun _=>true) S0).h)→Rep E C m (stL es 0 (fun _=>true) S0) a w→Q .normal a w) :
 ∀ (fuel:Nat) (listed:Array Bool) (es:List Eff) (E:Env) (m:Mem) (a:Act) (w:World),Pl es→listed.size=ops.size→listed.toList.count false=fuel→Z63 ops (fun j=>listed.getD j false) →
   Ext E0 m0 V0 E m (vers (stL es 0 (fun j=>listed.getD j false) S0).h)→Rep E C m (stL es 0 (fun j=>listed.getD j false) S0) a w→wpAny P .any ops Q fuel listed a w:=by
 have all:∀ (listed:Array Bool) (es:List Eff) (E:Env) (m:Mem) (a:Act) (w:World),Pl es→listed.size=ops.size→Region.ready .any ops listed=[] →
  Ext E0 m0 V0 E m (vers (stL es 0 (fun j=>listed.getD j false) S0).h)→Rep E C m (stL es 0 (fun j=>listed.getD j false) S0) a w→Q .normal a w:=by
  intro listed es E m a w hes hs hr hx hrep
  have hall:∀ i,i < ops.size→listed.getD i false=true:=by
   intro i
   induction i using Nat.strongRecOn with
   | _ i ih=>
     intro hi
     cases hl:listed.getD i false with
     | true=>rfl
     | false=>
       exfalso
       have ho:ops[i]?=some ops[i]:=Array.getElem?_eq_getElem hi
       have:i ∈ Region.ready .any ops listed:=by
        refine mem_ready.2 ⟨?_,ops[i],ho,fun e he hb=>?_⟩
        ·simp [Array.getD,hs,hi] at hl ⊢;exact hl
        ·have hpm:e.on ∈ par ops[i]:=List.mem_map.2 ⟨e,List.mem_filter.2 ⟨by simpa using he,hb⟩,rfl⟩
         have:=(hp es hes).lex i _ ho _ hpm
         exact ih _ this (by omega)
       rw [hr] at this;cases this
  have heq:=Z2z es 0 (fun j=>listed.getD j false) (fun _=>true) S0 fun j hj=>by simpa using hall j (by rw [← (hp es hes).len];exact hj)
  rw [heq] at hx hrep
  exact hQ es hes E m a w hx hrep
 intro fuel
 induction fuel with
 | zero=>
   intro listed es E m a w hes hs hc hcl hx hrep
   have hr:Region.ready .any ops listed=[]:=by
    cases h:Region.ready .any ops listed with
    | nil=>rfl
    | cons i r=>
      exfalso
      obtain ⟨h1,_⟩:=Z3S (i:=i) (ops:=ops) (listed:=listed) (by rw [h];simp)
      have h3:=(Z3T h1).2.2
      have:=List.count_eq_zero.1 hc
      exact this (List.mem_of_getElem? h3)
   exact ⟨hr,all listed es E m a w hes hs hr hx hrep⟩
 | succ fuel ih=>
   intro listed es E m a w hes hs hc hcl hx hrep
   refine ⟨fun hr=>all listed es E m a w hes hs hr hx hrep,fun i hi=>?_⟩
   obtain ⟨hun,o,ho,hpar⟩:=Z3S hi
   obtain ⟨hlt,huf,hgf⟩:=Z3T hun
   have hlen:=(hp es hes).len
   have hie:i < es.length:=by rw [hlen,← hs];exact hlt
   have he:es[i]?=some es[i]:=List.getElem?_eq_getElem hie
   generalize es[i]=e at he
   have h1:=hy es hes i o e ho he _ (Ze5 (hp es hes) hcl huf he ho hpar) C E m a w hrep
   have next:∀ a' w',(∃ es' e',(Pl es'∧∀ j,j≠i→¬ AncR ops i j→es'[j]?=es[j]?)∧es'[i]?=some e'∧∃ E' m',Ext E m (vers (stL es 0 (fun j=>listed.getD j false) S0).h) E' m' (vers (e'.put (stL es 0 (fun j=>listed.getD j false) S0)).h)∧Rep E' C m' (e'.put (stL es 0 (fun j=>listed.getD j false) S0)) a' w') →
    wpAny P .any ops Q fuel (listed.setIfInBounds i true) a' w':=by
    rintro a' w' ⟨es',e',⟨hes',hag⟩,he',E',m',k1,k2⟩
    have hst:stL es 0 (fun j=>listed.getD j false) S0=stL es' 0 (fun j=>listed.getD j false) S0:=by
     refine Z8l es es' 0 _ S0 (by rw [hlen,(hp es' hes').len]) fun j hj=>(hag j ?_ ?_).symm
     ·rintro rfl;simp only [Nat.zero_add] at hj;rw [huf] at hj;cases hj
     ·intro han
      have hj:listed.getD j false=true:=by simpa using hj
      have:=han (fun j=>listed.getD j false) hcl (fun o' ho' p hp'=>hcl j o' hj ho' p hp')
      simp only [huf] at this;cases this
    rw [hst] at k1 k2 hx
    rw [ZfV (hp es' hes') hcl hlt huf he'] at k1 k2
    refine ih _ es' E' m' a' w' hes' (by simpa using hs) ?_ ?_ (hx.trans k1) k2
    ·have hlt':i < listed.toList.length:=by simpa using hlt
     have hv:listed.toList[i]=false:=by
      have:=hgf;rw [List.getElem?_eq_getElem hlt'] at this;simpa using this
     rw [Array.toList_setIfInBounds,List.count_set hlt',hv,hc]
     simp
    ·intro j o' hj ho' p hp'
     by_cases hji:j=i
     ·subst hji
      rw [ho] at ho';cases ho'
      have:=hpar p hp'
      by_cases hpj:p=j
      ·subst hpj;rw [huf] at this;cases this
      ·simp only [Array.getD_eq_getD_getElem?];rw [Array.getElem?_setIfInBounds_ne (Ne.symm hpj)];simpa [Array.getD_eq_getD_getElem?] using this
     ·simp only [Array.getD_eq_getD_getElem?] at hj
      rw [Array.getElem?_setIfInBounds_ne (Ne.symm hji)] at hj
      have:=hcl j o' (by simpa [Array.getD_eq_getD_getElem?] using hj) ho' p hp'
      by_cases hpj:p=i
      ·subst hpj;simp only [huf] at this;cases this
      ·simp only [Array.getD_eq_getD_getElem?];rw [Array.getElem?_setIfInBounds_ne (Ne.symm hpj)];simpa [Array.getD_eq_getD_getElem?] using this
   unfold opW at h1
   unfold wpOp
   simp only [ho]
   by_cases hw:Region.wanted o (yielded ops a.tmps)=true
   ·rw [if_pos hw] at h1 ⊢
    exact .inl (ZU h1 next)
   ·rw [if_neg hw] at h1 ⊢
    exact next _ _ h1
theorem ZfW (hm:P.follows .mixedOrders=true) (hp:∀ es,Pl es→PlanB ops es S0) (hy:∀ es,Pl es→∀ i o e,ops[i]?=some o→es[i]?=some e→YE P ops (fun es' e'=>Pl es'∧∀ j,j≠i→¬ AncR ops i j→es'[j]?=es[j]?) i o (stL es 0 (fun j=>decide (j < i)) S0) e) (hn:∃ es,Pl es) {id:Nat} {Q:Exit→Act→World→Prop} {C E m a w} (hr:Rep E C m S0 a w)
 (hQ:∀ es,Pl es→∀ E' m' a' w',Ext E m (vers S0.h) E' m' (vers (stL es 0 (fun _=>true) S0).h)→Rep E' C m' (stL es 0 (fun _=>true) S0) a' w'→Q .normal a' w'):(Code.region id ops true).wp P Q a w:=by
 obtain ⟨es,hes⟩:=hn
 refine wp_region_any hm ?_
 have h0:(fun j=>(Array.replicate ops.size false).getD j false)=fun _=>false:=by
  funext j
  simp only [Array.getD_eq_getD_getElem?,Array.getElem?_replicate]
  split <;> rfl
 have hrep:Rep E C m S0 a { w with drawn:=w.drawn+1 }:=⟨hr.sz,hr.sl,hr.df,⟨hr.rel.os,hr.rel.tape,⟨hr.rel.output.1,hr.rel.output.2.trans (Nat.le_succ _)⟩,hr.rel.im,hr.rel.fr,hr.rel.mf,hr.rel.bl,hr.rel.nn,hr.rel.sp,hr.rel.inj⟩⟩
 refine Ze6 hp hy hQ ops.size _ es E m a _ hes (by simp) (by simp) ?_ ?_ ?_
 ·intro j o hj;rw [h0] at hj;cases hj
 ·rw [h0,Z2j];exact .refl ..
 ·rw [h0,Z2j];exact hrep
end
def EachB (ops:Array Oper) (es:List Eff):Prop:=∀ (i:Nat) (o:Oper) (e:Eff),ops[i]?=some o→es[i]?=some e→e.d=o.dst∧(∀ n ∈ hang e.v,n ∈ e.rs)∧(∀ k ∈ wN e.wb,k ∈ e.rb)
theorem EachB.snoc {ops:Array Oper} {acc:List Eff} {o:Oper} {e:Eff} (h:EachB ops acc.reverse) (ho:ops[acc.length]?=some o) (he:e.d=o.dst∧(∀ n ∈ hang e.v,n ∈ e.rs)∧(∀ k ∈ wN e.wb,k ∈ e.rb)):EachB ops (e::acc).reverse:=by
 intro i o' e' ho' he'
 rw [List.reverse_cons] at he'
 by_cases hi:i < acc.length
 ·rw [List.getElem?_append_left (by simpa using hi)] at he'
  exact h i o' e' ho' he'
 ·have hi':i=acc.length:=by
   have:=(List.getElem?_eq_some_iff.1 he').1
   simp at this;omega
  subst hi'
  rw [List.getElem?_append_right (by simp)] at he'
  simp at he';subst he'
  rw [ho] at ho';cases ho'
  exact he
theorem ZfX {P:Program} {ops:Array Oper} {S0:St} (hcl:∀ (i:Nat) (o:Oper) (d:Nat),ops[i]?=some o→o.dst=some d→Z1n d S0.t=S0.t) {es:List Eff} (hlen:es.length=ops.size) (hck:chk ops es=true) (hb:EachB ops es):PlanB ops es S0:=by
 simp only [chk,Bool.and_eq_true] at hck
 have hca:=Z3z (pre:=[]) hck.2
 have has:=Z3I (ops:=ops) ops.toList [] (fun x o hx=>by simpa using hx) (fun j i hb=>by simp at hb)
 have get:∀ i e,es[i]?=some e→∃ o,ops[i]?=some o:=fun i e he=>by
  have:=(List.getElem?_eq_some_iff.1 he).1
  exact ⟨ops[i]'(by rw [← hlen];exact this),Array.getElem?_eq_getElem _⟩
 refine ⟨hlen,fun i o ho p hp'=>?_,fun i j e f hij he hf hcf=>?_,fun i j e f hij he hf=>(hca i j e f hij (by simp) (by simpa using he) (by simpa using hf)).2,fun i e he=>?_,fun i e d he hd=>?_,fun i e he=>?_⟩
 ·have:=Z3V hck.1 i o (by simpa using ho) p hp'
  omega
 ·exact has j i ((hca i j e f hij (by simp) (by simpa using he) (by simpa using hf)).1 hcf)
 ·obtain ⟨o,ho⟩:=get i e he
  exact (hb i o e ho he).2.1
 ·obtain ⟨o,ho⟩:=get i e he
  exact hcl i o d ho (by rw [← (hb i o e ho he).1];exact hd)
 ·obtain ⟨o,ho⟩:=get i e he
  exact (hb i o e ho he).2.2
theorem pre_st {es acc:List Eff} {S0:St} (hl:acc.length≤es.length) (h:∀ j,j < acc.length→es[j]?=acc[j]?):stL es 0 (fun j=>decide (j < acc.length)) S0=stL acc 0 (fun _=>true) S0:=by
 have e:es=acc++es.drop acc.length:=by
  apply List.ext_getElem?
  intro j
  by_cases hj:j < acc.length
  ·rw [List.getElem?_append_left hj,h j hj]
  ·rw [List.getElem?_append_right (by omega),List.getElem?_drop];congr 1;omega
 rw [e,Z22]
 have h1:∀ (fs:List Eff) (i:Nat) (S:St),acc.length≤i→stL fs i (fun j=>decide (j < acc.length)) S=S:=by
  intro fs
  induction fs with
  | nil=>intro i S _;rfl
  | cons f r ih=>
    intro i S hi
    simp only [stL]
    rw [show decide (i < acc.length)=false by simp;omega,cond_false]
    exact ih (i+1) S (by omega)
 rw [h1 _ _ _ (by omega)]
 exact Z2z acc 0 _ _ S0 fun j hj=>by simpa using hj
theorem Z50 {P:Program} {T:Tb} (hT:TabOk P T) {ops:Array Oper} {S0:St} (hcl:∀ (i:Nat) (o:Oper) (d:Nat),ops[i]?=some o→o.dst=some d→Z1n d S0.t=S0.t) :
 ∀ (l:List Oper) (fl:List Bool) (n:Nat) (acc:List Eff) (K:List Eff→St→Prop) (S:St),(∀ x:Nat,l[x]?=ops[acc.length+x]?)→acc.length+l.length=ops.size→S=stL acc.reverse 0 (fun _=>true) S0→EachB ops acc.reverse→Z8k P T ops l fl n acc K S →
 ∃ Pl:List Eff→Prop,(∃ es,Pl es)∧(∀ es,Pl es→PlanB ops es S0∧(∀ j,j < acc.length→es[j]?=acc.reverse[j]?)∧K es (stL es 0 (fun _=>true) S0)) ∧
   (∀ es,Pl es→∀ i o e,acc.length≤i→ops[i]?=some o→es[i]?=some e→YE P ops (fun es' e'=>Pl es'∧(∀ j,j < i→es'[j]?=es[j]?)∧(fl.getD (i - acc.length) false=false→es'=es)) i o (stL es 0 (fun j=>decide (j < i)) S0) e)
 | [],fl,n,acc,K,S,hl,hsz,hst,hb,h=>by
   have hlen:acc.length=ops.size:=by simpa using hsz
   refine ⟨fun es=>es=acc.reverse,⟨_,rfl⟩,?_,?_⟩
   ·rintro es rfl
    exact ⟨ZfX (P:=P) hcl (by simpa using hlen) h.ob hb,fun _ _=>rfl,by rw [← hst];exact h.k⟩
   ·rintro es rfl i o e hi ho he
    have:=(List.getElem?_eq_some_iff.1 he).1
    simp at this;omega
 | o::r,fl,n,acc,K,S,hl,hsz,hst,hb,h=>by
   have ho:ops[acc.length]?=some o:=by have:=hl 0;simpa using this.symm
   have hl':∀ (e:Eff) (x:Nat),r[x]?=ops[(e::acc).length+x]?:=fun e x=>by have:=hl (x+1);simpa [Nat.add_assoc,Nat.add_comm 1 x] using this
   have hsz':∀ e:Eff,(e::acc).length+r.length=ops.size:=fun e=>by simp at hsz ⊢;omega
   have hst':∀ e:Eff,e.put S=stL (e::acc).reverse 0 (fun _=>true) S0:=fun e=>by rw [List.reverse_cons,Z22,← hst];rfl
   have hflt:∀ i,acc.length+1≤i→fl.tail.getD (i - (acc.length+1)) false=fl.getD (i - acc.length) false:=fun i hi=>by
    cases fl with
    | nil=>rfl
    | cons b q=>rw [show i - acc.length=(i - (acc.length+1))+1 by omega];rfl
   have hpre:∀ {e:Eff} {es:List Eff},(∀ j,j < (e::acc).length→es[j]?=(e::acc).reverse[j]?)→es[acc.length]?=some e∧∀ j,j < acc.length→es[j]?=acc.reverse[j]?:=fun {e es} hj=>by
    refine ⟨?_,fun j hj'=>?_⟩
    ·have:=hj acc.length (by simp)
     rw [this,List.reverse_cons,List.getElem?_append_right (by simp)];simp
    ·have:=hj j (by simp;omega)
     rw [this,List.reverse_cons,List.getElem?_append_left (by simpa using hj')]
   have hpst:∀ {es:List Eff},PlanB ops es S0→(∀ j,j < acc.length→es[j]?=acc.reverse[j]?)→stL es 0 (fun j=>decide (j < acc.length)) S0=S:=fun {es} hp hj=>by
    have:=pre_st (acc:=acc.reverse) (es:=es) (S0:=S0) (by rw [hp.len];simp;omega) (fun j hj'=>hj j (by simpa using hj'))
    rw [hst,← this];simp
   simp only [Z8k] at h
   cases hf:fl.headD false with
   | false=>
     rw [hf,cond_false] at h
     obtain ⟨e,n',h1,h2,h3,h4,h5⟩:=(Z9f hT h).out
     obtain ⟨Pl,hne,hbs,hy⟩:=Z50 hT hcl r fl.tail n' (e::acc) K _ (hl' e) (hsz' e) (hst' e) (hb.snoc ho ⟨h1,h3,h4⟩) h5
     refine ⟨Pl,hne,fun es hes=>⟨(hbs es hes).1,(hpre (hbs es hes).2.1).2,(hbs es hes).2.2⟩,fun es hes i o' e' hi ho' he'=>?_⟩
     by_cases hia:i=acc.length
     ·subst hia
      rw [ho] at ho';cases ho'
      have hp:=hpre (hbs es hes).2.1
      rw [hp.1] at he';cases he'
      rw [hpst (hbs es hes).1 hp.2]
      intro S' hlk C E m a w hr
      refine Z4r (h2.out S' hlk.t hlk.h hlk.s hlk.b hlk.k C E m a w hr) ?_
      rintro a' w' ⟨E',m',k1,k2⟩
      exact ⟨es,e,⟨hes,fun _ _=>rfl,fun _=>rfl⟩,hp.1,E',m',k1,k2⟩
     ·have:=hy es hes i o' e' (by simp;omega) ho' he'
      simp only [List.length_cons] at this
      rw [hflt i (by omega)] at this
      exact this
   | true=>
     rw [hf,cond_true] at h
     obtain ⟨A,n',rs,rb,⟨e0,he0⟩,hA,hyA⟩:=h.out
     have hrec:=fun (e:Eff) (he:A e)=>Z50 hT hcl r fl.tail n' (e::acc) K _ (hl' e) (hsz' e) (hst' e) (hb.snoc ho ⟨(hA e he).1,(hA e he).2.2.2.1,(hA e he).2.2.2.2.1⟩) (hA e he).2.2.2.2.2
     refine ⟨fun es=>∃ (e:Eff) (he:A e),(hrec e he).choose es,?_,?_,?_⟩
     ·obtain ⟨es,hes⟩:=(hrec e0 he0).choose_spec.1
      exact ⟨es,e0,he0,hes⟩
     ·rintro es ⟨e,he,hes⟩
      have hbs:=(hrec e he).choose_spec.2.1 es hes
      exact ⟨hbs.1,(hpre hbs.2.1).2,hbs.2.2⟩
     ·rintro es ⟨e,he,hes⟩ i o' e' hi ho' he'
      have hbs:=(hrec e he).choose_spec.2.1 es hes
      by_cases hia:i=acc.length
      ·subst hia
       rw [ho] at ho';cases ho'
       have hp:=hpre hbs.2.1
       rw [hp.1] at he';cases he'
       rw [hpst hbs.1 hp.2]
       intro S' hlk C E m a w hr
       rw [(hA e he).1,(hA e he).2.1,(hA e he).2.2.1] at hlk
       refine Z4r (hyA S' hlk C E m a w hr) ?_
       rintro a' w' ⟨e2,he2,E',m',k1,k2⟩
       obtain ⟨es2,hes2⟩:=(hrec e2 he2).choose_spec.1
       have hbs2:=(hrec e2 he2).choose_spec.2.1 es2 hes2
       have hp2:=hpre hbs2.2.1
       refine ⟨es2,e2,⟨⟨e2,he2,hes2⟩,fun j hj=>by rw [hp2.2 j hj,hp.2 j hj],fun hff=>?_⟩,hp2.1,E',m',k1,k2⟩
       exfalso
       rw [Nat.sub_self] at hff
       cases fl with
       | nil=>simp at hf
       | cons b q=>simp at hf hff;rw [hf] at hff;cases hff
      ·have:=(hrec e he).choose_spec.2.2 es hes i o' e' (by simp;omega) ho' he'
       intro S' hlk C E m a w hr
       refine Z4r (this S' hlk C E m a w hr) ?_
       rintro a' w' ⟨es2,e2,⟨q1,q2,q3⟩,q4⟩
       simp only [List.length_cons] at q3
       rw [hflt i (by omega)] at q3
       exact ⟨es2,e2,⟨⟨e,he,q1⟩,q2,q3⟩,q4⟩
def flOk (ops:Array Oper) (fl:List Bool) (js:List Nat):Bool:=
 (List.range ops.size).all fun i=>!fl.getD i false||(List.range ops.size).all fun j=>Nat.ble j i||Nat.testBit ((ancs ops.toList []).getD j 0) i||hasN j js
theorem Zh2 {P:Program} {T:Tb} (hT:TabOk P T) (hm:P.follows .mixedOrders=true) (n:Nat) (fl:List Bool) (js:List Nat) {Fl:List (Option Eff)} {id:Nat} {ops:Array Oper} {K:Exit→St→Prop} {S:St} (hfl:flOk ops fl js=true) (h:Zcg P T ops fl n (fun es S'=>js.map (fun j=>es[j]?)=Fl∧K .normal S') S):WpC P (.region id ops true) K S:=by
 obtain ⟨t,hh⟩:=S
 unfold Zcg at h
 simp only [Z8H,Z47] at h
 refine ⟨fun C E m a w hr=>?_⟩
 obtain ⟨Pl,hne,hbs,hy⟩:=Z50 hT (S0:=⟨t.map (clrG (Z1S ops.toList)),hh++List.replicate n .fresh⟩) (fun i o d ho hd=>ZaA (Z4V (l:=ops.toList) (x:=i) (by simpa using ho) hd) t) ops.toList fl _ [] _ _ (fun x=>by simp) (by simp) rfl (fun i o e ho he=>by simp at he) h
 have hr0:=hr.clr (Z1S ops.toList)
 have hr1:Rep E C m ⟨t.map (clrG (Z1S ops.toList)),hh++List.replicate n .fresh⟩ a w:=hr0.up (Ext.pad E m hh n) (hr0.rel.pad n)
 have has:=Z3I (ops:=ops) ops.toList [] (fun x o hx=>by simpa using hx) (fun j i hb=>by simp at hb)
 refine ZfW hm (fun es hes=>(hbs es hes).1) (fun es hes i o e ho he=>?_) hne hr1 fun es hes E' m' a' w' k1 k2=>⟨E',m',_,(hbs es hes).2.2.2,(Ext.pad E m hh n).trans k1,k2⟩
 intro S' hlk C E m a w hr
 refine Z4r (hy es hes i o e (Nat.zero_le _) ho he S' hlk C E m a w hr) ?_
 rintro a' w' ⟨es2,e2,⟨q1,q2,q3⟩,q4⟩
 refine ⟨es2,e2,⟨q1,fun j hji han=>?_⟩,q4⟩
 cases hfi:fl.getD i false with
 | false=>rw [q3 (by simpa using hfi)]
 | true=>
   rcases Nat.lt_trichotomy j i with hj | hj | hj
   ·exact q2 j hj
   ·exact absurd hj hji
   ·have hi:i < ops.size:=by
     rw [← (hbs es hes).1.len]
     exact (List.getElem?_eq_some_iff.1 he).1
    by_cases hjs:j < ops.size
    ·have h1:=List.all_eq_true.1 hfl i (List.mem_range.2 hi)
     rw [hfi] at h1
     simp only [Bool.not_true,Bool.false_or] at h1
     have h2:=List.all_eq_true.1 h1 j (List.mem_range.2 hjs)
     simp only [Bool.or_eq_true] at h2
     rcases h2 with (h2 | h2) | h2
     ·have:=Nat.le_of_ble_eq_true h2;omega
     ·exact absurd (has j i h2) han
     ·have hm1:=(hbs es hes).2.2.1
      have hm2:=(hbs es2 q1).2.2.1
      have:=hm2.trans hm1.symm
      exact List.map_inj_left.1 this j (hasN_iff.1 h2)
    ·rw [List.getElem?_eq_none (by rw [(hbs es2 q1).1.len];omega),List.getElem?_eq_none (by rw [(hbs es hes).1.len];omega)]
section
variable {P:Program} {T:Tb} {ops:Array Oper} {o:Oper}
theorem Ze7 {n:Nat} {K:Eff→Nat→St→Prop} {t:List SV} {h:List SB} {c:Call} (hop:o.op=.call c) {fo:Operand} (hcal:c.callee=.value fo) (hg:Zt ops t o=some []) {f:FuncId} {fst caps:List SV} (hf:calB (evG [] t fo)=some (f,fst,caps))
 (ks:List Nat) (nn:Nat) {ns:List Nat} (hnn:(List.range nn).map (fun i=>n+i)=ns) {ρ:Nat→Nat} (hρ:rho (ks++ns) h.length=ρ) {args0:List SV} {H0:List SB} {K0:SV→List SB→Prop} (hc:Ctr P f args0 H0 K0)
 (ha:fst++(c.args.toList.map (evG [] t)++caps)=renL ρ args0) (hl:(c.args.toList.map (evG [] t)).all live=true) (hnd:Z1U (ks++ns)=true) (hks:ks.length=H0.length) (hH:Lent ρ h H0 0) (hns:Z10 h ns=true)
 (hsz:∀ r H',K0 r H'→(H0.length≤H'.length∧H'.length≤(ks++ns).length)∧hang (ren ρ r)=[]) (hne:∃ r H',K0 r H')
 (hK:∀ r H',K0 r H'→Z2U (ren ρ r) fun r=>setD t o.dst r fun t'=>Z4B h (zipB ρ H' 0) fun h'=>K ⟨o.dst,r,Zc o [],ks++ns,zipB ρ H' 0⟩ (n+nn) ⟨t',h'⟩):OpE P ops o n K ⟨t,h⟩:=by
 subst hnn
 simp only [Z1e,Z2C,Z4k] at hK
 have hρk:∀ i,i < (ks++(List.range nn).map (fun i=>n+i)).length→ρ i ∈ ks++(List.range nn).map (fun i=>n+i):=fun i hi=>by
  rw [← hρ];simp only [rho,List.getD_eq_getElem?_getD,List.getElem?_eq_getElem hi,Option.getD_some]
  exact List.getElem_mem hi
 refine ⟨⟨fun e=>∃ r H',K0 r H'∧e=⟨o.dst,ren ρ r,Zc o [],ks++(List.range nn).map (fun i=>n+i),zipB ρ H' 0⟩,n+nn,Zc o [],ks++(List.range nn).map (fun i=>n+i),?_,?_,?_⟩⟩
 ·obtain ⟨r,H',hk⟩:=hne
  exact ⟨_,r,H',hk,rfl⟩
 ·rintro e ⟨r,H',hk,rfl⟩
  refine ⟨rfl,rfl,rfl,fun m hm=>?_,fun k hm=>?_,hK r H' hk⟩
  ·have:=(hsz r H' hk).2
   simp only at hm
   rw [this] at hm;cases hm
  ·obtain ⟨j,h1,rfl⟩:=ZdM hm
   rw [Nat.zero_add]
   exact hρk j (Nat.lt_of_lt_of_le h1 (hsz r H' hk).1.2)
 ·intro S' hlkE C E m a w hr
  have hlk:Like (Zc o []) t S'.t:=fun n hn=>hlkE.s n hn
  have hops:=ZO hlk
  rw [hop] at hops
  have e1:evG [] S'.t fo=evG [] t fo:=ZL (hops fo (by simp [Op.operands,Call.operands,hcal]))
  have e2:c.args.toList.map (evG [] S'.t)=c.args.toList.map (evG [] t):=List.map_congr_left fun x hx=>ZL (hops x (by simp [Op.operands,Call.operands];exact .inr (by simpa using hx)))
  have h2:=hlkE.b
  have h3:=hlkE.k
  have hlen':S'.h.length=h.length:=hlkE.h
  obtain ⟨t',h'⟩:=S'
  have hlen':h'.length=h.length:=hlen'
  have hρ':rho (ks++(List.range nn).map (fun i=>n+i)) h'.length=ρ:=by rw [hlen',hρ]
  have hsz0:H0.length≤(ks++(List.range nn).map (fun i=>n+i)).length:=by rw [List.length_append,hks];omega
  have hH':Lent ρ h' H0 0:=Z6e (fun j hj=>by rw [Nat.zero_add];exact h2 _ (hρk j (by omega))) hH
  have hns':Z10 h' ((List.range nn).map (fun i=>n+i))=true:=Z5E (fun k hk=>h2 k (List.mem_append_right _ hk)) hns
  have hc2:=Z6A ZK hc h' ks ((List.range nn).map (fun i=>n+i)) hnd hks (by rw [hρ'];exact hH') hns' (fun r H' hk=>(hsz r H' hk).1)
  rw [hρ',← ha,← e2] at hc2
  have hh:=(OpC.call (T:=fun _=>none) (ops:=ops) (t:=t') (h:=h') (K:=fun S''=>∃ r H',K0 r H'∧S''=⟨putF t' o.dst (ren ρ r),setB h' (zipB ρ H' 0)⟩) hop hcal (Z14 hg (Z1j hlk)) (by rw [e1];exact hf) rfl (by rw [e2];exact hl) hc2 (fun r h'' hk=>by
   obtain ⟨r1,H',hk0,rfl,rfl⟩:=hk
   rw [ZV]
   exact ⟨r1,H',hk0,rfl⟩)).out C E m a w hr
  refine Z4r hh ?_
  rintro a' w' ⟨E',m',S'',⟨r,H',hk,rfl⟩,k1,k2⟩
  rw [ZQ h3] at k2
  exact ⟨_,⟨r,H',hk,rfl⟩,E',m',k1,k2⟩
end
end
end SX
end Go.Proofs.YtdddpbmcoimgdaaGreatDoor
