/- A part of SX: symbolic and concrete runs of the program, with contracts of functions; lemmas without further conditions. Shortened by a tool (mini.py). -/
import Derived.Laws.BytesString
import Derived.Test.YtdddpbmcoimgdaaGreatDoorJAB
import Derived.Test.YtdddpbmcoimgdaaGreatDoorJAA
set_option linter.unusedVariables false
set_option linter.unusedSimpArgs false
set_option linter.unusedSectionVars false
set_option maxRecDepth 100000
namespace Go.Proofs.YtdddpbmcoimgdaaGreatDoor
namespace SX
open Go Go.Proofs
section
def Z1W:List SV→Option (List Int)
 | []=>some []
 | .i .u8 n::r=>(match Z1W r with | some l=>some (n::l) | none=>none)
 | .ints .u8 _ xs::r=>(match Z1W r with | some l=>some (xs++l) | none=>none)
 | _=>none
theorem Z5J (E:Env):∀ {l:List SV} {ns:List Int},Z1W l=some ns→cellsL E l=ns.map (.int .u8)
 | [],ns,h=>by simp [Z1W] at h;subst h;rfl
 | x::r,ns,h=>by
   unfold Z1W at h
   split at h
   ·rename_i hh;cases hh
   ·rename_i n r' hh
    cases hh
    cases hr:Z1W r with
    | none=>rw [hr] at h;simp at h
    | some l=>
      rw [hr] at h;simp at h;subst h
      simp [cellsL,cells,Z5J E hr]
   ·rename_i n xs r' hh
    cases hh
    cases hr:Z1W r with
    | none=>rw [hr] at h;simp at h
    | some l=>
      rw [hr] at h;simp at h;subst h
      simp [cellsL,cells,Z5J E hr]
   ·cases h
def Z48 (ns:List Int):List UInt8:=ns.map fun n=>UInt8.ofNat n.toNat
def isU8:TK→Bool
 | .int .u8=>true
 | _=>false
def Z3X:TK→Bool
 | .str=>true
 | _=>false
def strR (T:Tb) (h:List SB) (src dst:TypeId) (x:SV):Option (SV×List Nat):=
 match T src,T dst with
 | some ti,some td=>match ti.k with
   | .slice e=>match T e with
     | some te=>bif isU8 te.k&&Z3X td.k then (match x with
       | .nils=>some (.s [],[])
       | .sl k ver off len _ _=>(match len with
         | 0=>some (.s [],[])
         | _+1=>(match h.getD k .fresh with
           | .mem _ segs ver' _=>bif Nat.beq ver ver'&&!Nat.beq ver 0 then (match Z1B segs off len with
             | some l=>(match Z1W l with
               | some ns=>some (.s (Z48 ns),[k])
               | none=>none)
             | none=>none) else none
           | _=>none))
       | _=>none) else none
     | none=>none
   | _=>none
 | _,_=>none
theorem ZcS (ns:List Int):∀ s:List UInt8,ns.foldl (fun (r:ByteArray) n=>r.push (UInt8.ofNat n.toNat)) ⟨⟨s⟩⟩=⟨⟨s++Z48 ns⟩⟩:=by
 induction ns with
 | nil=>intro s;simp [Z48]
 | cons n ns ih=>
   intro s
   simp only [List.foldl_cons]
   have:(⟨⟨s⟩⟩:ByteArray).push (UInt8.ofNat n.toNat)=⟨⟨s++[UInt8.ofNat n.toNat]⟩⟩:=by
    show (⟨Array.push ⟨s⟩ _⟩:ByteArray)=_
    simp
   rw [this,ih]
   simp [Z48]
section
variable {P:Program} {T:Tb} {ops:Array Oper} {o:Oper}
theorem ZgP {k:TK} (h:isU8 k=true):k=.int .u8:=by unfold isU8 at h;split at h <;> first | rfl | cases h
theorem ZaL {k:TK} (h:Z3X k=true):k=.str:=by unfold Z3X at h;split at h <;> first | rfl | cases h
theorem TiOk.int_und {t:TypeId} {ti:TI} (hti:TiOk P t ti) {k:IntKind} (hk:ti.k=.int k):P.underlying t=some (.int k):=by
 obtain ⟨d,hd,hkk⟩:=hti.desc
 rw [hk] at hkk
 cases d <;> simp [kokB] at hkk
 rw [hd];simp [hkk]
theorem ZgQ (hT:TabOk P T) {E C m h w} (hr:Rel E C m h w) {src dst:TypeId} {x r:SV} {rb:List Nat} (hx:Gd m (vers h) x) (hl:strR T h src dst x=some (r,rb)) :
 (convert src dst (den E x)).run P w=.ok (den E r) w∧Gd m (vers h) r:=by
 unfold strR at hl
 cases ht:T src with
 | none=>rw [ht] at hl;simp at hl
 | some ti=>
   cases htd:T dst with
   | none=>rw [ht,htd] at hl;simp at hl
   | some td=>
     rw [ht,htd] at hl
     simp only at hl
     cases hk:ti.k <;> rw [hk] at hl <;> try (simp at hl;done)
     rename_i e
     simp only at hl
     cases hte:T e with
     | none=>rw [hte] at hl;simp at hl
     | some te=>
       rw [hte] at hl
       simp only at hl
       cases hb:(isU8 te.k&&Z3X td.k) with
       | false=>rw [hb] at hl;simp at hl
       | true=>
         rw [hb] at hl
         rw [Bool.and_eq_true] at hb
         simp only [cond_true] at hl
         have u1:=(hT.ti src ti ht).slice hk
         have u2:=(hT.ti dst td htd).str (ZaL hb.2)
         have u3:=(hT.ti e te hte).int_und (ZgP hb.1)
         have conv:∀ (ao:Option Addr) (l c:Nat) (v:Value),(Conv.bytesToString (.slice ao l c)).run P w=.ok v w→(convert src dst (.slice ao l c)).run P w=.ok v w:=fun ao l c v hv=>by
          cases ao with
          | none=>simp only [convert,Sem.run_bind,Z6 u1,Z6 u2,Result.andThen_ok,Z6 u3,hv]
          | some a=>simp only [convert,Sem.run_bind,Z6 u1,Z6 u2,Result.andThen_ok,Z6 u3,hv]
         have none0:∀ l c,(Conv.bytesToString (.slice none l c)).run P w=.ok (.string ⟨⟨[]⟩⟩) w:=fun l c=>by
          simp only [Conv.bytesToString,Sem.run_pure]
          rfl
         have some0:∀ (a:Addr) (l c:Nat) (ns:List Int),(loadCells a l).run P w=.ok (ns.map (Value.int .u8)).toArray w→(Conv.bytesToString (.slice (some a) l c)).run P w=.ok (.string ⟨⟨Z48 ns⟩⟩) w:=fun a l c ns h=>by
          rw [run_bytesToString w a l c ns h]
          have:=ZcS ns []
          simp only [List.nil_append] at this
          rw [← this]
          rfl
         cases x <;> try (simp at hl;done)
         case nils=>
          simp only [Option.some.injEq,Prod.mk.injEq] at hl
          obtain ⟨rfl,rfl⟩:=hl
          refine ⟨?_,Gd_s _⟩
          rw [den_v.2.2.2.2,den_v.2.2.1]
          exact conv _ _ _ _ (none0 _ _)
         case sl k ver off len cap dc=>
          cases len with
          | zero=>
            simp only [Option.some.injEq,Prod.mk.injEq] at hl
            obtain ⟨rfl,rfl⟩:=hl
            refine ⟨?_,Gd_s _⟩
            rw [den_v.2.2.1]
            simp only [den,wrapV,cells,List.headD_cons]
            cases E k ver with
            | none=>exact conv _ _ _ _ (none0 _ _)
            | some q=>
              refine conv _ _ _ _ (some0 _ _ _ [] ?_)
              have:=run_loadCells_list (P:=P) w ⟨q.1,if cap=none∧0=0∧q.2=dc then 0 else off,none⟩ [] (fun j v hv=>by simp at hv)
              simpa using this
          | succ len'=>
            simp only at hl
            cases hB:h.getD k .fresh <;> rw [hB] at hl <;> try (simp at hl;done)
            rename_i e2 segs ver' gw
            simp only at hl
            cases hv:(Nat.beq ver ver'&&!Nat.beq ver 0) with
            | false=>rw [hv] at hl;simp at hl
            | true=>
              rw [hv] at hl
              simp only [cond_true] at hl
              simp only [Bool.and_eq_true,Bool.not_eq_true'] at hv
              have hv1:=Nat.eq_of_beq_eq_true hv.1
              have hv2:=Nat.ne_of_beq_eq_false hv.2
              subst hv1
              cases hc:Z1B segs off (len'+1) with
              | none=>rw [hc] at hl;simp at hl
              | some l=>
                rw [hc] at hl
                simp only at hl
                cases hbo:Z1W l with
                | none=>rw [hbo] at hl;simp at hl
                | some ns=>
                  rw [hbo] at hl
                  simp only [Option.some.injEq,Prod.mk.injEq] at hl
                  obtain ⟨rfl,rfl⟩:=hl
                  refine ⟨?_,Gd_s _⟩
                  obtain ⟨b,c,k1,k2,k3⟩:=Z6f hr (getD_some hB (by simp)) hv2
                  obtain ⟨o1,o2,o3⟩:=Z5F E hc k2
                  have hden:den E (.sl k ver off (len'+1) cap dc)=.slice (some ⟨b,off,none⟩) (len'+1) (cap.getD (c - dc)):=by simp [den,wrapV,cells,k1]
                  rw [hden,den_v.2.2.1]
                  refine conv _ _ _ _ (some0 _ _ _ ns ?_)
                  have:=run_loadCells_list (P:=P) w ⟨b,off,none⟩ (cellsL E l) (fun j v hv=>by rw [ZD];exact k3 _ _ (o3 j v hv))
                  rw [o2,Z5J E hbo] at this
                  exact this
def srcO (T:Tb) (h:List SB) (tx:TypeId) (sz:Nat) (x:SV):Option (Nat×List SV×List Nat):=
 match T tx with
 | some ti=>match ti.k,x with
   | .slice _,.nils=>some (0,[],[])
   | .slice _,.sl j vj off n _ _=>(match n with
     | 0=>some (0,[],[])
     | n+1=>(match h.getD j .fresh with
       | .mem _ segs vj' _=>bif Nat.beq vj vj'&&!Nat.beq vj 0 then (match Z1B segs off ((n+1) * sz) with
         | some l=>some (n+1,l,[j])
         | none=>none) else none
       | _=>none))
   | .str,.s l=>bif Nat.beq sz 1 then some (l.length,[.ints .u8 l.length (Z5d l)],[]) else none
   | _,_=>none
 | none=>none
theorem ZgR {t:List SV} {h:List SB} {x:Operand} {tx:TypeId} {sz n:Nat} {news:List SV} {rb:List Nat} {v:SV} (hv:evG [] t x=v) (hs:srcO T h tx sz v=some (n,news,rb)):SrcA T t h x tx sz n news rb:=by
 unfold srcO at hs
 cases ht:T tx with
 | none=>rw [ht] at hs;simp at hs
 | some ti=>
   rw [ht] at hs
   simp only at hs
   split at hs
   ·rename_i hk
    simp at hs;obtain ⟨rfl,rfl,rfl⟩:=hs
    exact .nil hv ht hk
   ·rename_i j vj off m cj dj hk
    split at hs
    ·simp at hs;obtain ⟨rfl,rfl,rfl⟩:=hs
     exact .sl0 hv ht hk
    ·rename_i m
     cases hB:h.getD j .fresh <;> rw [hB] at hs <;> try (simp at hs;done)
     rename_i e2 segs vj' gj
     simp only at hs
     cases hb:(Nat.beq vj vj'&&!Nat.beq vj 0) with
     | false=>rw [hb] at hs;simp at hs
     | true=>
       rw [hb] at hs
       simp only [cond_true] at hs
       simp only [Bool.and_eq_true,Bool.not_eq_true'] at hb
       have h1:=Nat.eq_of_beq_eq_true hb.1
       subst h1
       cases hc:Z1B segs off ((m+1) * sz) with
       | none=>rw [hc] at hs;simp at hs
       | some l=>
         rw [hc] at hs
         simp at hs;obtain ⟨rfl,rfl,rfl⟩:=hs
         exact .sl hv ht hk (getD_some hB (by simp)) (Nat.ne_of_beq_eq_false hb.2) hc
   ·rename_i l hk
    cases hb:Nat.beq sz 1 with
    | false=>rw [hb] at hs;simp at hs
    | true=>
      rw [hb] at hs
      simp at hs;obtain ⟨rfl,rfl,rfl⟩:=hs
      exact .str hv ht hk (Nat.eq_of_beq_eq_true hb)
   ·simp at hs
def Z2g:List SV→List SV
 | []=>[]
 | .ints k n xs::r=>xs.map (.i k)++Z2g r
 | x::r=>x::Z2g r
theorem Z7k (E:Env) {m:Mem} {V:List Nat}:∀ l:List SV,cellsL E (Z2g l)=cellsL E l∧(OkL m V l→OkL m V (Z2g l))
 | []=>⟨rfl,id⟩
 | x::r=>by
   have hi:∀ (k:IntKind) (xs:List Int),cellsL E (xs.map (SV.i k))=xs.map (.int k):=fun k xs=>by
    induction xs with
    | nil=>rfl
    | cons y ys ih=>simp [cellsL,cells,ih]
   have ho:∀ (k:IntKind) (xs:List Int),OkL m V (xs.map (SV.i k)):=fun k xs=>by
    induction xs with
    | nil=>trivial
    | cons y ys ih=>simp only [List.map_cons,OkL];exact ⟨⟨rfl,by simp [Ok]⟩,ih⟩
   obtain ⟨h1,h2⟩:=Z7k E r
   cases x
   case ints k n xs=>exact ⟨by simp only [Z2g,Zl,cellsL,h1,hi,cells],fun h=>by simp only [OkL] at h;exact OkL_append.2 ⟨ho k xs,h2 h.2⟩⟩
   all_goals exact ⟨by simp only [Z2g,cellsL,h1],fun h=>by simp only [Z2g,OkL] at h ⊢;exact ⟨h.1,h2 h.2⟩⟩
theorem Joins.flat (olds news:List SV):Joins olds news (olds++Z2g news):=
 ⟨fun E=>by rw [Zl,(Z7k (m:=fun _=>none) (V:=[]) E news).1],fun m V h1 h2=>OkL_append.2 ⟨h1,(Z7k E0 news).2 h2⟩⟩
def Z7Y (o:Oper) (k ver len g:Nat) (e:TypeId) (bytes wd:Nat) (rb:List Nat) (cut:Option (List SV)) (news:List SV) (n:Nat):Option Eff:=
 match n with
 | 0=>bif Nat.beq wd (len * (g+1)) then some ⟨o.dst,.sl k ver 0 len none 0,Zc o [],k::rb,[]⟩ else none
 | n+1=>bif Nat.ble (len+(n+1)) maxLen&&Nat.ble ((len+(n+1)) * bytes) 140737488355328&&!hasN k rb then (match cut with
   | some olds=>some (rowE o k ver len (n+1) g e (olds++Z2g news) rb)
   | none=>none) else none
def appR (T:Tb) (p:Nat) (o:Oper) (S:St) (s x:Operand) (ty tx:TypeId):Option Eff:=
 match T ty with
 | some ti=>match ti.k with
   | .slice e=>match T e with
     | some te=>match te.size with
       | g+1=>match srcO T S.h tx (g+1) (evO S.t x) with
         | some (n,news,rb)=>match evO S.t s with
           | .nils=>(match n with
             | 0=>some ⟨o.dst,.nils,Zc o [],rb,[]⟩
             | n+1=>bif isFr (S.h.getD p (.gone 0))&&Nat.ble (0+(n+1)) maxLen&&Nat.ble ((0+(n+1)) * te.bytes) 140737488355328 then some (appE o p 0 (n+1) g e ([]++Z2g news) ([]++rb)) else none)
           | .sl k ver off len (some c) dc=>(match n with
             | 0=>bif Nat.ble len c then some ⟨o.dst,.sl k ver off len (some c) dc,Zc o [],rb,[]⟩ else none
             | n+1=>bif Nat.ble (len+(n+1)) c then none else
               (match (match len with
                | 0=>some (([]:List SV),([]:List Nat))
                | len+1=>(match S.h.getD k .fresh with
                  | .mem _ segs ver' _=>bif Nat.beq ver ver'&&!Nat.beq ver 0 then (match Z1B segs off ((len+1) * (g+1)) with
                    | some l=>some (l,[k])
                    | none=>none) else none
                  | _=>none)) with
               | some (olds,rb1)=>bif isFr (S.h.getD p (.gone 0))&&Nat.ble (len+(n+1)) maxLen&&Nat.ble ((len+(n+1)) * te.bytes) 140737488355328 then some (appE o p len (n+1) g e (olds++Z2g news) (rb1++rb)) else none
               | none=>none))
           | .sl k ver 0 len none 0=>(match S.h.getD k .fresh with
             | .mem e' segs ver' (g'+1)=>bif Nat.beq e' e&&Nat.beq ver ver'&&Nat.beq g' g then
              Z7Y o k ver len g e te.bytes (wdL segs) rb (Z17 segs (len * (g+1))) news n else none
             | _=>none)
           | _=>none
         | none=>none
       | 0=>none
     | none=>none
   | _=>none
 | none=>none
theorem ZfK {h:List SB} {p:Nat} (hf:isFr (h.getD p (.gone 0))=true):h[p]?=some .fresh:=by
 cases hB:h.getD p (.gone 0) <;> rw [hB] at hf <;> try (cases hf;done)
 exact getD_some hB (by simp)
theorem ZgS (hT:TabOk P T) {p n n2:Nat} {S:St} {s x:Operand} {ty tx:TypeId} {e:Eff} (hg:o.guard=none) (hN:NG S.t) (hop:o.op=.call { callee:=.builtin .append,args:=#[s,x],argTypes:=#[ty,tx] }) (h:appR T p o S s x ty tx=some e) :
 OpD P ops o n (fun e2 n' _=>e2=e∧n'=n2) S∧notG e.v=true:=by
 obtain ⟨t,hh⟩:=S
 have hgo:=Z1F (ops:=ops) (o:=o) t hg
 unfold appR at h
 simp only at h
 cases ht:T ty with
 | none=>rw [ht] at h;simp at h
 | some ti=>
   rw [ht] at h
   simp only at h
   cases hk:ti.k <;> rw [hk] at h <;> try (simp at h;done)
   rename_i el
   simp only at h
   cases hte:T el with
   | none=>rw [hte] at h;simp at h
   | some te=>
     rw [hte] at h
     simp only at h
     cases hsz:te.size with
     | zero=>rw [hsz] at h;simp at h
     | succ g=>
       rw [hsz] at h
       simp only at h
       cases hs:srcO T hh tx (g+1) (evO t x) with
       | none=>rw [hs] at h;simp at h
       | some q=>
         obtain ⟨m,news,rb⟩:=q
         rw [hs] at h
         simp only at h
         have hsrc:SrcA T t hh x tx te.size m news rb:=by rw [hsz];exact ZgR (hN.evG x) hs
         have mk:∀ e0:Eff,e0.d=o.dst→notG e0.v=true→(∀ k ∈ wN e0.wb,k ∈ e0.rb)→Yld P ops o e0 ⟨t,hh⟩→some e0=some e→OpD P ops o n (fun e2 n' _=>e2=e∧n'=n2) ⟨t,hh⟩∧notG e.v=true:=fun e0 h1 h2 h3 h4 h5=>by
          cases h5
          exact ⟨⟨⟨_,n2,h1,h4,(fun n (hn:n ∈ hang e.v)=>by rw [Z6g h2] at hn;cases hn),h3,rfl,rfl⟩⟩,h2⟩
         have fin1:∀ (len cap:Nat) (olds:List SV) (rb1:List Nat) (m:Nat),SrcA T t hh x tx te.size (m+1) news rb→BaseA t hh s te.size len cap olds rb1→cap < len+(m+1)→(bif isFr (hh.getD p (.gone 0))&&Nat.ble (len+(m+1)) maxLen&&Nat.ble ((len+(m+1)) * te.bytes) 140737488355328 then some (appE o p len (m+1) g el (olds++Z2g news) (rb1++rb)) else none)=some e →
          OpD P ops o n (fun e2 n' _=>e2=e∧n'=n2) ⟨t,hh⟩∧notG e.v=true:=fun len cap olds rb1 m hsrc hb hlt h=>by
          cases hc:(isFr (hh.getD p (.gone 0))&&Nat.ble (len+(m+1)) maxLen&&Nat.ble ((len+(m+1)) * te.bytes) 140737488355328) with
          | false=>rw [hc] at h;simp at h
          | true=>
            rw [hc] at h
            simp only [cond_true] at h
            simp only [Bool.and_eq_true] at hc
            exact mk _ Z Z (fun k hk=>by simp [appE,wN] at hk ⊢;exact .inl hk) (Z70 hT hop hgo ht hk hte hsz hb hsrc (ZfK hc.1.1) (Joins.flat olds news) hlt (Nat.le_of_ble_eq_true hc.1.2) (Nat.le_of_ble_eq_true hc.2)) h
         cases hb:evO t s <;> rw [hb] at h <;> try (simp at h;done)
         case nils=>
          simp only at h
          have hbe:evG [] t s=.nils:=by rw [hN.evG,hb]
          cases m with
          | zero=>
            exact mk _ Z Z (fun k hk=>by simp [wN] at hk) (Z4l (rb:=[]) hT hop hgo ht hk hte hbe (.inl rfl) hsrc) h
          | succ m=>exact fin1 0 0 [] [] m hsrc (.nil hbe) (by omega) h
         case sl k ver off len cap dc=>
          have hbe:evG [] t s=.sl k ver off len cap dc:=by rw [hN.evG,hb]
          cases cap with
          | some c=>
            simp only at h
            cases m with
            | zero=>
              simp only at h
              cases hc:Nat.ble len c with
              | false=>rw [hc] at h;simp at h
              | true=>
                rw [hc] at h
                exact mk _ Z Z (fun k hk=>by simp [wN] at hk) (Z4l (rb:=[]) hT hop hgo ht hk hte hbe (.inr (.inl ⟨_,_,_,_,_,_,rfl,Nat.le_of_ble_eq_true hc⟩)) hsrc) h
            | succ m=>
              simp only at h
              cases hc:Nat.ble (len+(m+1)) c with
              | true=>rw [hc] at h;simp at h
              | false=>
                rw [hc] at h
                simp only [cond_false] at h
                have hlt:c < len+(m+1):=by
                 rcases Nat.lt_or_ge c (len+(m+1)) with h1 | h1
                 ·exact h1
                 ·have:=Nat.ble_eq_true_of_le h1;rw [this] at hc;cases hc
                cases len with
                | zero=>exact fin1 0 c [] [] m hsrc (.sl0 hbe) hlt h
                | succ len=>
                  simp only at h
                  cases hB:hh.getD k .fresh <;> rw [hB] at h <;> try (simp at h;done)
                  rename_i e2 segs ver' gw
                  simp only at h
                  cases hv:(Nat.beq ver ver'&&!Nat.beq ver 0) with
                  | false=>rw [hv] at h;simp at h
                  | true=>
                    rw [hv] at h
                    simp only [cond_true] at h
                    simp only [Bool.and_eq_true,Bool.not_eq_true'] at hv
                    have h1:=Nat.eq_of_beq_eq_true hv.1
                    subst h1
                    cases hca:Z1B segs off ((len+1) * (g+1)) with
                    | none=>rw [hca] at h;simp at h
                    | some l=>
                      rw [hca] at h
                      exact fin1 (len+1) c l [k] m hsrc (.sl hbe (getD_some hB (by simp)) (Nat.ne_of_beq_eq_false hv.2) (by rw [hsz];exact hca)) hlt h
          | none=>
            cases off with
            | succ _=>simp at h
            | zero=>
              cases dc with
              | succ _=>simp at h
              | zero=>
                simp only at h
                cases hB:hh.getD k .fresh <;> rw [hB] at h <;> try (simp at h;done)
                rename_i e' segs ver' gw
                cases gw with
                | zero=>simp at h
                | succ g'=>
                  simp only at h
                  cases hc:(Nat.beq e' el&&Nat.beq ver ver'&&Nat.beq g' g) with
                  | false=>rw [hc] at h;simp at h
                  | true=>
                    rw [hc] at h
                    simp only [cond_true] at h
                    simp only [Bool.and_eq_true] at hc
                    have c1:=Nat.eq_of_beq_eq_true hc.1.1
                    have c2:=Nat.eq_of_beq_eq_true hc.1.2
                    have c3:=Nat.eq_of_beq_eq_true hc.2
                    subst c1;subst c2;subst c3
                    have hkB:=getD_some hB (by simp)
                    cases m with
                    | zero=>
                      simp only [Z7Y] at h
                      cases hc4:Nat.beq (wdL segs) (len * (g'+1)) with
                      | false=>rw [hc4] at h;simp at h
                      | true=>
                        rw [hc4] at h
                        have c4:=Nat.eq_of_beq_eq_true hc4
                        exact mk _ Z Z (fun k hk=>by simp [wN] at hk) (Z4l (rb:=[k]) hT hop hgo ht hk hte hbe (.inr (.inr ⟨_,_,_,_,_,_,rfl,hkB,c4,rfl⟩)) hsrc) h
                    | succ m=>
                      simp only [Z7Y] at h
                      cases hc2:(Nat.ble (len+(m+1)) maxLen&&Nat.ble ((len+(m+1)) * te.bytes) 140737488355328&&!hasN k rb) with
                      | false=>rw [hc2] at h;simp at h
                      | true=>
                        rw [hc2] at h
                        simp only [Bool.and_eq_true,Bool.not_eq_true'] at hc2
                        simp only [cond_true] at h
                        cases hcut:Z17 segs (len * (g'+1)) with
                        | none=>rw [hcut] at h;simp at h
                        | some olds=>
                          rw [hcut] at h
                          simp only at h
                          exact mk _ Z Z (fun k hk=>by simp [rowE,wN] at hk ⊢;exact .inl hk) (ZbM hT hop hgo ht hk hte hsz hbe hkB (by rw [hsz];exact hcut) hsrc (fun hm=>by rw [hasN_iff.2 hm] at hc2;cases hc2.2) (Joins.flat olds news) (Nat.succ_pos m) (Nat.le_of_ble_eq_true hc2.1.1) (Nat.le_of_ble_eq_true hc2.1.2)) h
def eff2 (T:Tb) (n:Nat) (o:Oper) (S:St):Option (Eff×Nat):=
 match o.op with
 | .call ⟨.builtin .append,args,ats⟩=>(match args.toList,ats.toList with
   | [s,x],[ty,tx]=>(match appR T n o S s x ty tx with
     | some e=>fV e.v fun v=>some ({ e with v:=v },n)
     | none=>none)
   | _,_=>none)
 | .makeMap ty r=>(match r with
   | none=>newE S.h o (.mp [] 1) (.map n) n
   | some _=>none)
 | .lookup ty x k ok=>(match Z3B T S.h ty (evO S.t x) (evO S.t k) ok with
   | some (v,rb)=>valE o v rb n
   | none=>none)
 | .mapUpdate ty x k v=>(match T ty,evO S.t x,evO S.t k with
   | some ti,.map j,.s l=>(match ti.k with
     | .map kt et=>(match T kt,S.h.getD j .fresh with
       | some tk,.mp kv ver=>bif Z3X tk.k&&live (evO S.t v) then (match putM l (evO S.t v) kv with
         | some kv'=>some (⟨o.dst,.dead,Zc o [],[j],[(j,.mp kv' ver)]⟩,n)
         | none=>none) else none
       | _,_=>none)
     | _=>none)
   | _,_,_=>none)
 | .convert src dst x=>(match strR T S.h src dst (evO S.t x) with
   | some (v,rb)=>valE o v rb n
   | none=>eff1 T n o S)
 | _=>eff1 T n o S
theorem ZcT {h h':List SB} {ty:TypeId} {x k r:SV} {ok:Bool} {rb:List Nat} (hl:Z3B T h ty x k ok=some (r,rb)) (hh:∀ j ∈ rb,h'[j]?=h[j]?):Z3B T h' ty x k ok=some (r,rb):=by
 unfold Z3B at hl ⊢
 cases ht:T ty with
 | none=>rw [ht] at hl;simp at hl
 | some ti=>
   rw [ht] at hl
   simp only at hl ⊢
   cases hk:ti.k <;> rw [hk] at hl <;> try (simp at hl;done)
   rename_i kt et
   simp only at hl ⊢
   cases htk:T kt with
   | none=>rw [htk] at hl;simp at hl
   | some tk=>
     cases hte:T et with
     | none=>rw [htk,hte] at hl;simp at hl
     | some te=>
       rw [htk,hte] at hl
       cases k <;> try (simp at hl;done)
       rename_i l
       simp only at hl ⊢
       cases hkk:tk.k <;> rw [hkk] at hl <;> try (simp at hl;done)
       simp only at hl ⊢
       cases hz:live (Z1P te) with
       | false=>rw [hz] at hl;simp at hl
       | true=>
         rw [hz] at hl
         simp only [cond_true] at hl ⊢
         cases x
         case raw v=>
          cases v <;> try exact hl
          rename_i mo
          cases mo <;> exact hl
         case map n=>
          have key:h'.getD n .fresh=h.getD n .fresh:=by
           have hn:n ∈ rb:=by
            cases hB:h.getD n .fresh <;> simp only [hB] at hl <;> try (simp at hl;done)
            rename_i kv ver
            cases hf:Z3A l kv 0 with
            | none=>rw [hf] at hl;simp at hl
            | some q=>rw [hf] at hl;cases q <;> simp at hl <;> rw [← hl.2] <;> simp
           simp only [List.getD_eq_getElem?_getD,hh n hn]
          simp only [key];exact hl
         all_goals exact hl
theorem ZdU {h h':List SB} {src dst:TypeId} {x r:SV} {rb:List Nat} (hl:strR T h src dst x=some (r,rb)) (hh:∀ j ∈ rb,h'[j]?=h[j]?):strR T h' src dst x=some (r,rb):=by
 unfold strR at hl ⊢
 cases ht:T src with
 | none=>rw [ht] at hl;simp at hl
 | some ti=>
   cases htd:T dst with
   | none=>rw [ht,htd] at hl;simp at hl
   | some td=>
     rw [ht,htd] at hl
     simp only at hl ⊢
     cases hk:ti.k <;> rw [hk] at hl <;> try (simp at hl;done)
     rename_i e
     simp only at hl ⊢
     cases hte:T e with
     | none=>rw [hte] at hl;simp at hl
     | some te=>
       rw [hte] at hl
       simp only at hl ⊢
       cases hb:(isU8 te.k&&Z3X td.k) with
       | false=>rw [hb] at hl;simp at hl
       | true=>
         rw [hb] at hl
         simp only [cond_true] at hl ⊢
         cases x <;> try exact hl
         rename_i k ver off len cap dc
         cases len with
         | zero=>exact hl
         | succ len'=>
           simp only at hl ⊢
           have key:h'.getD k .fresh=h.getD k .fresh:=by
            have hn:k ∈ rb:=by
             cases hB:h.getD k .fresh <;> rw [hB] at hl <;> try (simp at hl;done)
             rename_i e2 segs ver' gw
             simp only at hl
             cases hv:(Nat.beq ver ver'&&!Nat.beq ver 0) with
             | false=>rw [hv] at hl;simp at hl
             | true=>
               rw [hv] at hl
               simp only [cond_true] at hl
               cases hc:Z1B segs off (len'+1) with
               | none=>rw [hc] at hl;simp at hl
               | some l=>
                 rw [hc] at hl
                 simp only at hl
                 cases hbo:Z1W l with
                 | none=>rw [hbo] at hl;simp at hl
                 | some ns=>rw [hbo] at hl;simp at hl;rw [← hl.2];simp
            simp only [List.getD_eq_getElem?_getD,hh k hn]
           rw [key];exact hl
theorem Z8M (hT:TabOk P T) {n n':Nat} {S:St} {e:Eff} (hg:o.guard=none) (hN:NG S.t) (h:eff2 T n o S=some (e,n')):OpD P ops o n (fun e2 n2 _=>e2=e∧n2=n') S∧notG e.v=true:=by
 unfold eff2 at h
 split at h
 ·
  rename_i args ats hop
  split at h
  ·rename_i s x ty tx ha hat
   cases hr:appR T n o S s x ty tx with
   | none=>rw [hr] at h;simp at h
   | some e0=>
     rw [hr] at h
     simp only [Z3W,Option.some.injEq,Prod.mk.injEq] at h
     obtain ⟨rfl,rfl⟩:=h
     have ha':args = #[s,x]:=by apply Array.ext';simpa using ha
     have hat':ats = #[ty,tx]:=by apply Array.ext';simpa using hat
     subst ha' hat'
     exact ZgS hT hg hN hop hr
  ·simp at h
 ·
  rename_i ty r hop
  cases r with
  | some _=>simp at h
  | none=>exact Z5e (mk:=fun k=>.map k) hg Z Z h fun S' hl=>Z9J hop
 ·
  rename_i ty x k ok hop
  cases hl:Z3B T S.h ty (evO S.t x) (evO S.t k) ok with
  | none=>rw [hl] at h;simp at h
  | some q=>
    obtain ⟨v,rb⟩:=q
    rw [hl] at h
    refine Z6D hg h fun S' hlk hb C E m a w hr=>?_
    have ex:evG [] S'.t x=evO S.t x:=Z1V hN hlk (Z15 (by simp [hop,Op.operands]))
    have ek:evG [] S'.t k=evO S.t k:=Z1V hN hlk (Z15 (by simp [hop,Op.operands]))
    have hl':=ZcT hl hb
    have hev:=hr.evs .nil
    have lx:live (evO S.t x)=true:=by
     cases hx:evO S.t x <;> first | rfl | (exfalso;rw [hx] at hl;unfold Z3B at hl;(repeat' split at hl) <;> simp_all)
    have lk:live (evO S.t k)=true:=by
     cases hx:evO S.t k <;> first | rfl | (exfalso;rw [hx] at hl;unfold Z3B at hl;(repeat' split at hl) <;> simp_all)
    obtain ⟨gx,rx⟩:=hev.live (o:=x) (by rw [ex];exact lx)
    obtain ⟨gk,rk⟩:=hev.live (o:=k) (by rw [ek];exact lk)
    rw [ex] at gx rx
    rw [ek] at gk rk
    obtain ⟨r1,r2⟩:=ZfJ hT hr.rel gx hl'
    exact ⟨_,by simp only [execOp,hop,rx,rk,Sem.run_bind,r1,Result.andThen_ok,Sem.run_pure],.inr ⟨r2,rfl⟩⟩
 ·
  rename_i ty x k v hop
  cases ht:T ty with
  | none=>rw [ht] at h;simp at h
  | some ti=>
    rw [ht] at h
    cases hx:evO S.t x <;> rw [hx] at h <;> try (simp at h;done)
    rename_i j
    cases hk:evO S.t k <;> rw [hk] at h <;> try (simp at h;done)
    rename_i l
    simp only at h
    cases hkk:ti.k <;> rw [hkk] at h <;> try (simp at h;done)
    rename_i kt et
    simp only at h
    cases htk:T kt with
    | none=>rw [htk] at h;simp at h
    | some tk=>
      rw [htk] at h
      cases hB:S.h.getD j .fresh <;> rw [hB] at h <;> try (simp at h;done)
      rename_i kv ver
      simp only at h
      cases hc:(Z3X tk.k&&live (evO S.t v)) with
      | false=>rw [hc] at h;simp at h
      | true=>
        rw [hc] at h
        simp only [cond_true] at h
        rw [Bool.and_eq_true] at hc
        cases hp:putM l (evO S.t v) kv with
        | none=>rw [hp] at h;simp at h
        | some kv'=>
          rw [hp] at h
          simp only [Option.some.injEq,Prod.mk.injEq] at h
          obtain ⟨rfl,rfl⟩:=h
          obtain ⟨t,hh⟩:=S
          refine ⟨⟨_,_,rfl,Z9I hT (t:=t) (h:=hh) hop (Z1F t hg) ht hkk htk (ZaL hc.1) (by rw [hN.evG,hx]) (by rw [hN.evG,hk]) (by rw [hN.evG];exact hc.2) (getD_some hB (by simp)) (by rw [hN.evG];exact hp),fun n hn=>by simp [hang] at hn,fun k hk=>by simpa [wN] using hk,rfl,rfl⟩,rfl⟩
 ·
  rename_i src dst x hop
  cases hs:strR T S.h src dst (evO S.t x) with
  | none=>rw [hs] at h;exact Zc6 hT hg hN h
  | some q=>
    obtain ⟨v,rb⟩:=q
    rw [hs] at h
    refine Z6D hg h fun S' hlk hb C E m a w hr=>?_
    have ex:evG [] S'.t x=evO S.t x:=Z1V hN hlk (Z15 (by simp [hop,Op.operands]))
    have lx:live (evO S.t x)=true:=by
     cases hx:evO S.t x <;> first | rfl | (exfalso;rw [hx] at hs;unfold strR at hs;(repeat' split at hs) <;> simp_all)
    obtain ⟨gx,rx⟩:=(hr.evs .nil).live (o:=x) (by rw [ex];exact lx)
    rw [ex] at gx rx
    obtain ⟨r1,r2⟩:=ZgQ hT hr.rel gx (ZdU hs hb)
    exact ⟨_,by simp only [execOp,hop,rx,Sem.run_bind,r1,Result.andThen_ok,Sem.run_pure],.inr ⟨r2,rfl⟩⟩
 ·exact Zc6 hT hg hN h
end
end
end SX
end Go.Proofs.YtdddpbmcoimgdaaGreatDoor
