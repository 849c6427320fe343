/- A part of SX: symbolic and concrete runs of the program, with contracts of functions; lemmas without further conditions. Shortened by a tool (mini.py). -/
import Derived.Test.YtdddpbmcoimgdaaGreatDoorJAE
import Derived.Test.YtdddpbmcoimgdaaGreatDoorJAA
set_option linter.unusedVariables false
set_option linter.unusedSimpArgs false
set_option linter.unusedSectionVars false
set_option maxRecDepth 100000
namespace Go.Proofs.YtdddpbmcoimgdaaGreatDoor
namespace SX
open Go Go.Proofs
section
universe u
noncomputable section
def gdF (ops:Array Oper) (g:Nat→SV) (o:Oper):Option (List Nat×Bool):=
 match o.guard with
 | none=>some ([],true)
 | some (j,want)=>match (ops[j]?).bind (·.dst) with
   | some d=>match g d with
     | .b v=>some ([d],v == want)
     | .raw (.tuple _)=>some ([d],false)
     | _=>none
   | none=>none
theorem ZdZ (ops:Array Oper) (c:CS) (o:Oper):gdF ops (sl c.tr c.n) o=gdO ops c.st.t o:=by
 unfold gdF gdO
 simp only [sl_eq]
 all_goals rfl
def Z6M (ev:Operand→SV) (c:Call):Option (FuncId×List SV):=
 match c.callee with
 | .value fo=>match ev fo with
   | .fn f caps=>Za3 ev c.args.toList fun ar=>bif ar.all live then some (f,Z6K ar caps) else none
   | .bm f x=>Za3 ev c.args.toList fun ar=>bif ar.all live then some (f,x::Z6K ar []) else none
   | _=>none
 | _=>none
theorem Z8f (t:List SV) (c:Call):Z6M (evO t) c=Z2F t c:=by
 unfold Z6M Z2F
 simp only [ZaX,Zb4]
 all_goals rfl
def Za7 (n:Nat) (h:List SB) {α:Sort u} (K:List SB→α):α:=ZaZ n fun l=>Z4E h l K
theorem Zb9 (n:Nat) (h:List SB) {α:Sort u} (K:List SB→α):Za7 n h K=K (h++List.replicate n .fresh):=by simp only [Za7,Z9r,Z4n]
def Z4H (e:Eff) (tr:Tre) (n:Nat) (h:List SB):CS:=match e with
 | ⟨d,v,_,_,wb⟩=>Z6J tr n h d v fun c=>match c with
   | ⟨tr',_,h'⟩=>ZcX wb h' fun h=>⟨tr',n,h⟩
theorem Zba (e:Eff) (c:CS) (hw:c.wf):(Z4H e c.tr c.n c.h).st=e.put c.st∧(Z4H e c.tr c.n c.h).wf∧(Z4H e c.tr c.n c.h).n=c.n:=by
 obtain ⟨h1,h2,h3⟩:=c.putO_wf hw e.d e.v
 have h4:=c.putO_st hw e.d e.v
 have key:Z4H e c.tr c.n c.h=⟨(c.putO e.d e.v).tr,(c.putO e.d e.v).n,setB (c.putO e.d e.v).h e.wb⟩:=by
  obtain ⟨d,v,rs,rb,wb⟩:=e
  unfold Z4H
  simp only [Zb3,ZaY]
  rw [← h2]
 rw [key]
 refine ⟨?_,h1,h2⟩
 have h5:(⟨(List.range (c.putO e.d e.v).n).map (c.putO e.d e.v).tr.get,(c.putO e.d e.v).h⟩:St)=⟨setT c.st.t e.d e.v,c.h⟩:=h4
 have h6:=congrArg St.t h5
 simp only at h6
 show (⟨_,_⟩:St)=⟨_,_⟩
 rw [h6,h3]
 rfl
def Zd1 (l:List SB):Nat→Option Nat:=@List.rec SB (fun _=>Nat→Option Nat) (fun _=>none) (fun B _ ih i=>bif isFr B then some i else ih (i+1)) l
theorem Zbb:∀ (l:List SB) (i:Nat),Zd1 l i=fst1 l i
 | [],i=>rfl
 | B::r,i=>by
   show (bif isFr B then some i else Zd1 r (i+1))=_
   rw [Zbb r,fst1]
def Zbc (lo:Nat) (l:List SB):Nat→Option Nat:=@List.rec SB (fun _=>Nat→Option Nat) (fun _=>none) (fun B _ ih i=>bif isFr B&&Nat.ble lo i then some i else ih (i+1)) l
theorem Z9s (lo:Nat):∀ (l:List SB) (i:Nat),Zbc lo l i=Z7Z lo l i
 | [],i=>rfl
 | B::r,i=>by
   show (bif isFr B&&Nat.ble lo i then some i else Zbc lo r (i+1))=_
   rw [Z9s lo r,Z7Z]
def Za8 (l:List SB):Nat→Nat:=@List.rec SB (fun _=>Nat→Nat) (fun n=>n) (fun B _ ih n=>bif isFr B then ih (n+1) else ih n) l
theorem Z7l:∀ (l:List SB) (n:Nat),Za8 l n=cntF l n
 | [],n=>rfl
 | B::r,n=>by
   show (bif isFr B then Za8 r (n+1) else Za8 r n)=_
   rw [Z7l r,Z7l r,cntF]
def runF (T:Tb) (p:Nat) (o:Oper) (tr:Tre) (n:Nat) (h:List SB):Option CS:=
 match Z6L T p (ung o) (evF tr n) h with
 | some (e,_)=>some (Z4H e tr n h)
 | none=>none
def ropF (T:Tb) (call:FRun) (ops:Array Oper) (o:Oper) (c:CS):Option CS:=
 match c with
 | ⟨tr,n,h⟩=>
 match gdF ops (sl tr n) o with
 | none=>none
 | some (_,false)=>Z6J tr n h o.dst udf some
 | some (_,true)=>match Z3C o.op with
   | some c=>(match Z6M (evF tr n) c with
     | some (f,args)=>(match call f args h with
       | some (r,h')=>bif notG r then fVF r fun r=>Z6J tr n h' o.dst r some else none
       | none=>none)
     | none=>none)
   | none=>match mkN2 o.op with
     | 0=>runF T 0 o tr n h
     | _+1=>match Zd1 h 0 with
       | some p=>fN p fun p=>runF T p o tr n h
       | none=>Za7 8 h fun h1=>fN h.length fun p=>runF T p o tr n h1
structure Sim (c c':CS) (x:Option St):Prop where
 st:x=some c'.st
 wf:c'.wf
 n:c'.n=c.n
section
variable {T:Tb} {call:FRun} {ops:Array Oper} {o:Oper}
theorem Z8R {p:Nat} {c c':CS} (hw:c.wf) (h:runF T p o c.tr c.n c.h=some c'):Sim c c' (runE T p o c.st):=by
 unfold runF at h
 rw [Zb6,Z6i,show Z5N T p (ung o) (evO c.st.t) c.h=Z5N T p (ung o) (evO c.st.t) c.st.h from rfl,Zb5] at h
 unfold runE
 cases he:eff2 T p (ung o) c.st with
 | none=>rw [he] at h;simp at h
 | some q=>
   obtain ⟨e,n'⟩:=q
   rw [he] at h
   simp only [Option.some.injEq] at h
   subst h
   obtain ⟨h1,h2,h3⟩:=Zba e c hw
   exact ⟨by simp only [Z6C,h1],h2,h3⟩
theorem Z8g {c c':CS} (hw:c.wf) {d:Option Nat} {v:SV} (h:Z6J c.tr c.n c.h d v some=some c'):Sim c c' (some ⟨setT c.st.t d v,c.h⟩):=by
 rw [Zb3] at h
 simp only [Option.some.injEq] at h
 subst h
 obtain ⟨h1,h2,h3⟩:=c.putO_wf hw d v
 exact ⟨by rw [c.putO_st hw],h1,h2⟩
theorem ZgZ {c c':CS} (hw:c.wf) (h:ropF T call ops o c=some c'):Sim c c' (rop T call ops o c.st):=by
 obtain ⟨tr,n,hh⟩:=c
 unfold ropF at h
 simp only at h
 have hg:=ZdZ ops ⟨tr,n,hh⟩ o
 simp only at hg
 unfold rop
 rw [hg] at h
 cases hgo:gdO ops (CS.st ⟨tr,n,hh⟩).t o with
 | none=>rw [hgo] at h;simp at h
 | some q=>
   obtain ⟨rs,b⟩:=q
   rw [hgo] at h
   cases b with
   | false=>
     simp only [Z4m]
     exact Z8g (c:=⟨tr,n,hh⟩) hw h
   | true=>
     simp only at h ⊢
     cases hc:Z3C o.op with
     | some cl=>
       rw [hc] at h
       simp only at h ⊢
       have he:=Z6i ⟨tr,n,hh⟩
       simp only at he
       rw [he,Z8f] at h
       cases hca:Z2F (CS.st ⟨tr,n,hh⟩).t cl with
       | none=>rw [hca] at h;simp at h
       | some fa=>
         obtain ⟨f,args⟩:=fa
         rw [hca] at h
         simp only at h ⊢
         have hcl:call f args (CS.st ⟨tr,n,hh⟩).h=call f args hh:=rfl
         rw [hcl]
         cases hr:call f args hh with
         | none=>rw [hr] at h;simp at h
         | some q=>
           obtain ⟨r,h'⟩:=q
           rw [hr] at h
           simp only [Z5g,Z3W,Z4m] at h ⊢
           cases hn:notG r with
           | false=>rw [hn] at h;simp at h
           | true=>
             rw [hn] at h
             simp only [cond_true] at h ⊢
             have:=Z8g (c:=⟨tr,n,h'⟩) hw h
             exact ⟨this.st,this.wf,this.n⟩
     | none=>
       rw [hc] at h
       simp only at h ⊢
       cases hm:mkN2 o.op with
       | zero=>rw [hm] at h;exact Z8R (c:=⟨tr,n,hh⟩) hw h
       | succ k=>
         rw [hm] at h
         simp only [Zbb] at h ⊢
         have hh':(CS.st ⟨tr,n,hh⟩).h=hh:=rfl
         rw [hh']
         cases hf:fst1 hh 0 with
         | some p=>rw [hf] at h;simp only [Z1s] at h ⊢;exact Z8R (c:=⟨tr,n,hh⟩) hw h
         | none=>
           rw [hf] at h
           simp only [Zb9,Z1s,Z3L,Z3m] at h ⊢
           generalize hh++List.replicate 8 .fresh=hz at h ⊢
           have:=Z8R (T:=T) (o:=o) (p:=hh.length) (c:=⟨tr,n,hz⟩) (c':=c') hw h
           exact ⟨this.st,this.wf,this.n⟩
end
def Za9 (T:Tb) (call:FRun) (ops:Array Oper) (l:List Oper):CS→Option CS:=@List.rec Oper (fun _=>CS→Option CS) some (fun o _ ih c=>@Option.rec CS (fun _=>Option CS) none ih (ropF T call ops o c)) l
theorem Zbd {T:Tb} {call:FRun} {ops:Array Oper}:∀ (l:List Oper) (c c':CS),c.wf→Za9 T call ops l c=some c'→Sim c c' (rreg T call ops l c.st)
 | [],c,c',hw,h=>by
   have:c=c':=by simpa [Za9] using h
   subst this
   exact ⟨rfl,hw,rfl⟩
 | o::r,c,c',hw,h=>by
   have h':@Option.rec CS (fun _=>Option CS) none (Za9 T call ops r) (ropF T call ops o c)=some c':=h
   cases ho:ropF T call ops o c with
   | none=>rw [ho] at h';simp at h'
   | some c1=>
     rw [ho] at h'
     have s1:=ZgZ hw ho
     have s2:=Zbd r c1 c' s1.wf h'
     refine ⟨?_,s2.wf,by rw [s2.n,s1.n]⟩
     simp only [rreg,s1.st,s2.st]
def Z8h (call:FRun) (lo:Nat) (o:Oper) (c:Call) (ev:Operand→SV) (h:List SB):Option Eff:=
 match Z6M ev c with
 | none=>none
 | some (f,args)=>
   fN (Z6E 60 h (nmsL args 0)) fun mk=>fNs (Z85 mk h 0) fun ks=>
   bif inNL ks args&&Z5f ks h ks then
    renC (idx ks) args fun args0=>Z84 (idx ks) h ks fun H0=>
    match call f args0 H0 with
    | none=>none
    | some (r1,H1)=>match fin true H0 r1 H1 with
      | (r0,H1)=>fNs (Z80 lo h 0 (H1.length - H0.length)) fun ns=>
        bif Z1U (ks++ns)&&Z10 h ns&&(Nat.ble H0.length H1.length&&Nat.ble H1.length (ks++ns).length)&&notG (ren (rho (ks++ns) h.length) r0) then
         fV (ren (rho (ks++ns) h.length) r0) fun r=>zipC (rho (ks++ns) h.length) H1 0 fun wb=>some ⟨o.dst,r,hang r++Zc o [],ks++ns,wb⟩
        else none
   else none
theorem Ze0 (call:FRun) (lo:Nat) (o:Oper) (c:Call) (S:St):Z8h call lo o c (evO S.t) S.h=Z6H call lo o c S:=by
 unfold Z8h Z6H
 rw [Z8f]
 all_goals rfl
def Zaa (T:Tb) (call:FRun) (lo:Nat) (ops:Array Oper) (o:Oper) (g:Nat→SV) (ev:Operand→SV) (h:List SB):Option Eff:=
 match gdF ops g o with
 | none=>none
 | some (rs,false)=>some ⟨o.dst,udf,rs,[],[]⟩
 | some (rs,true)=>Z88 rs (match Z3C o.op with
   | some c=>Z8h call lo (ung o) c ev h
   | none=>match mkN2 o.op with
     | 0=>fstE (Z6L T 0 (ung o) ev h)
     | _+1=>match Zbc lo h 0 with
       | some n=>fN n fun n=>fstE (Z6L T n (ung o) ev h)
       | none=>none)
theorem ZfS (T:Tb) (call:FRun) (lo:Nat) (ops:Array Oper) (o:Oper) (c:CS):Zaa T call lo ops o (sl c.tr c.n) (evF c.tr c.n) c.h=dop1 T call lo ops o c.st:=by
 unfold Zaa dop1
 rw [ZdZ,Z6i]
 have h1:∀ n,Z6L T n (ung o) (evO c.st.t) c.h=eff2 T n (ung o) c.st:=fun n=>(Zb6 T n (ung o) (evO c.st.t) c.h).trans (Zb5 T n (ung o) c.st)
 have h2:∀ cl,Z8h call lo (ung o) cl (evO c.st.t) c.h=Z6H call lo (ung o) cl c.st:=fun cl=>Ze0 call lo (ung o) cl c.st
 simp only [h1,h2,Z9s]
 all_goals rfl
def fEff {α:Sort u} (e:Eff) (K:Eff→α):α:=match e with
 | ⟨d,v,rs,rb,wb⟩=>fO d fun d=>fNs rs fun rs=>fNs rb fun rb=>K ⟨d,v,rs,rb,wb⟩
theorem Zh0 {α:Sort u} (e:Eff) (K:Eff→α):fEff e K=K e:=by
 obtain ⟨d,v,rs,rb,wb⟩:=e
 simp only [fEff,Z9Z,ZaR]
def Z8i (T:Tb) (call:FRun) (ops:Array Oper) (l:List Oper):Nat→List Eff→CS→Option CS:=@List.rec Oper (fun _=>Nat→List Eff→CS→Option CS)
 (fun _ acc c=>bif chk ops acc.reverse then some c else none)
 (fun o _ ih lo acc c=>match c with
  | ⟨tr,n,h⟩=>match Zaa T call lo ops o (sl tr n) (evF tr n) h with
    | some e=>fEff e fun e=>fN (maxW e.wb lo) fun lo=>ih lo (e::acc) (Z4H e tr n h)
    | none=>none) l
theorem Z6j {T:Tb} {call:FRun} {ops:Array Oper}:∀ (l:List Oper) (lo:Nat) (acc:List Eff) (c c':CS),c.wf→Z8i T call ops l lo acc c=some c'→Sim c c' (Z3D T call ops lo l acc c.st)
 | [],lo,acc,c,c',hw,h=>by
   have h':(bif chk ops acc.reverse then some c else none)=some c':=h
   simp only [Z3D]
   cases hc:chk ops acc.reverse with
   | false=>rw [hc] at h';simp at h'
   | true=>
     rw [hc] at h'
     simp at h';subst h'
     exact ⟨rfl,hw,rfl⟩
 | o::r,lo,acc,c,c',hw,h=>by
   have h':(match Zaa T call lo ops o (sl c.tr c.n) (evF c.tr c.n) c.h with
    | some e=>fEff e fun e=>fN (maxW e.wb lo) fun lo=>Z8i T call ops r lo (e::acc) (Z4H e c.tr c.n c.h)
    | none=>none)=some c':=h
   rw [ZfS] at h'
   simp only [Z3D]
   cases hd:dop1 T call lo ops o c.st with
   | none=>rw [hd] at h';simp at h'
   | some e=>
     rw [hd] at h'
     simp only [Zh0,Z1s,Z6C] at h' ⊢
     obtain ⟨h1,h2,h3⟩:=Zba e c hw
     have s2:=Z6j r _ _ _ c' h2 h'
     rw [h1] at s2
     exact ⟨s2.st,s2.wf,by rw [s2.n,h3]⟩
def Z5O (T:Tb) (call:FRun) (ops:Array Oper) (draw:Bool) (c:CS):Option CS:=
 match draw with
 | false=>Za9 T call ops ops.toList c
 | true=>fN (Z5L ops.toList) fun n=>match c with
   | ⟨tr,k,h⟩=>bif Nat.ble n (Za8 h 0) then Z8i T call ops ops.toList 0 [] ⟨tr,k,h⟩ else Za7 n h fun h1=>Z8i T call ops ops.toList 0 [] ⟨tr,k,h1⟩
theorem ZbN {T:Tb} {call:FRun} {ops:Array Oper} {draw:Bool} {c c':CS} (hw:c.wf) (h:Z5O T call ops draw c=some c'):Sim c c' (Z49 T call ops draw c.st):=by
 cases draw with
 | false=>exact Zbd _ c c' hw h
 | true=>
   obtain ⟨tr,k,hh⟩:=c
   simp only [Z5O,Z49,Z1s,Z7l,Zb9,Z3L,Z3m] at h ⊢
   have e:(CS.st ⟨tr,k,hh⟩).h=hh:=rfl
   rw [e]
   cases hb:Nat.ble (Z5L ops.toList) (cntF hh 0) with
   | true=>rw [hb] at h;exact Z6j _ _ _ ⟨tr,k,hh⟩ c' hw h
   | false=>
     rw [hb] at h
     simp only [cond_false] at h ⊢
     have:=Z6j _ _ _ ⟨tr,k,hh++List.replicate (Z5L ops.toList) .fresh⟩ c' hw h
     exact ⟨this.st,this.wf,this.n⟩
def Zab (f:CS→Option (Exit×CS)) (n:Nat):CS→Option (Exit×CS):=@Nat.rec (fun _=>CS→Option (Exit×CS)) (fun _=>none) (fun _ ih c=>match f c with
 | some (.normal,c')=>ih c'
 | r=>r) n
def ZR (T:Tb) (call:FRun) (lf:Nat):Code→CS→Option (Exit×CS)
 | .seq a b,c=>(match ZR T call lf a c with
   | some (.normal,c')=>ZR T call lf b c'
   | r=>r)
 | .cond o x y,c=>(match evF c.tr c.n o with
   | .b true=>ZR T call lf x c
   | .b false=>ZR T call lf y c
   | _=>none)
 | .block id b,c=>(match ZR T call lf b c with
   | some (.exit j,c')=>bif Nat.beq j id then some (.normal,c') else some (.exit j,c')
   | r=>r)
 | .exit id,c=>some (.exit id,c)
 | .ret,c=>some (.ret,c)
 | .skip,c=>some (.normal,c)
 | .label _,c=>some (.normal,c)
 | .region _ ops draw,c=>(match Z5O T call ops draw c with
   | some c'=>some (.normal,c')
   | none=>none)
 | .loop b,c=>Zab (ZR T call lf b) lf c
 | _,_=>none
structure Sim2 (c:CS) (e:Exit) (c':CS) (x:Option (Exit×St)):Prop where
 st:x=some (e,c'.st)
 wf:c'.wf
 n:c'.n=c.n
theorem Zbe {f:CS→Option (Exit×CS)} {g:St→Option (Exit×St)} (hf:∀ c e c',c.wf→f c=some (e,c')→Sim2 c e c' (g c.st)):∀ (n:Nat) (c:CS) (e:Exit) (c':CS),c.wf→Zab f n c=some (e,c')→Sim2 c e c' (iter g n c.st)
 | 0,c,e,c',hw,h=>by simp [Zab] at h
 | n+1,c,e,c',hw,h=>by
   have h':(match f c with
    | some (.normal,c')=>Zab f n c'
    | r=>r)=some (e,c'):=h
   simp only [iter]
   cases h1:f c with
   | none=>rw [h1] at h';simp at h'
   | some q=>
     obtain ⟨e1,c1⟩:=q
     rw [h1] at h'
     have s1:=hf c e1 c1 hw h1
     rw [s1.st]
     cases e1 <;> simp only at h' ⊢
     ·have s2:=Zbe hf n c1 e c' s1.wf h'
      exact ⟨s2.st,s2.wf,by rw [s2.n,s1.n]⟩
     all_goals
      simp only [Option.some.injEq,Prod.mk.injEq] at h'
      obtain ⟨rfl,rfl⟩:=h'
      exact ⟨rfl,s1.wf,s1.n⟩
theorem Ze1 {T:Tb} {call:FRun} (lf:Nat):∀ (b:Code) (c:CS) (e:Exit) (c':CS),c.wf→ZR T call lf b c=some (e,c')→Sim2 c e c' (ZW T call lf b c.st):=by
 intro b
 induction b with
 | skip=>intro c e c' hw h;simp [ZR] at h;obtain ⟨rfl,rfl⟩:=h;exact ⟨rfl,hw,rfl⟩
 | label l=>intro c e c' hw h;simp [ZR] at h;obtain ⟨rfl,rfl⟩:=h;exact ⟨rfl,hw,rfl⟩
 | exit id=>intro c e c' hw h;simp [ZR] at h;obtain ⟨rfl,rfl⟩:=h;exact ⟨rfl,hw,rfl⟩
 | ret=>intro c e c' hw h;simp [ZR] at h;obtain ⟨rfl,rfl⟩:=h;exact ⟨rfl,hw,rfl⟩
 | seq x y ihx ihy=>
   intro c e c' hw h
   simp only [ZR] at h
   simp only [ZW]
   cases h1:ZR T call lf x c with
   | none=>rw [h1] at h;simp at h
   | some q=>
     obtain ⟨e1,c1⟩:=q
     rw [h1] at h
     have s1:=ihx c e1 c1 hw h1
     rw [s1.st]
     cases e1 <;> simp only at h ⊢
     ·have s2:=ihy c1 e c' s1.wf h
      exact ⟨s2.st,s2.wf,by rw [s2.n,s1.n]⟩
     all_goals
      simp only [Option.some.injEq,Prod.mk.injEq] at h
      obtain ⟨rfl,rfl⟩:=h
      exact ⟨rfl,s1.wf,s1.n⟩
 | cond o x y ihx ihy=>
   intro c e c' hw h
   simp only [ZR,Z6i] at h
   simp only [ZW]
   cases he:evO c.st.t o <;> rw [he] at h <;> try (simp at h;done)
   rename_i v
   cases v with
   | true=>exact ihx c e c' hw h
   | false=>exact ihy c e c' hw h
 | block id b ih=>
   intro c e c' hw h
   simp only [ZR] at h
   simp only [ZW]
   cases h1:ZR T call lf b c with
   | none=>rw [h1] at h;simp at h
   | some q=>
     obtain ⟨e1,c1⟩:=q
     rw [h1] at h
     have s1:=ih c e1 c1 hw h1
     rw [s1.st]
     cases e1 <;> simp only at h ⊢
     case exit j=>
      cases hb:Nat.beq j id with
      | true=>rw [hb] at h;simp at h;obtain ⟨rfl,rfl⟩:=h;exact ⟨rfl,s1.wf,s1.n⟩
      | false=>rw [hb] at h;simp at h;obtain ⟨rfl,rfl⟩:=h;exact ⟨rfl,s1.wf,s1.n⟩
     all_goals
      simp only [Option.some.injEq,Prod.mk.injEq] at h
      obtain ⟨rfl,rfl⟩:=h
      exact ⟨rfl,s1.wf,s1.n⟩
 | region id ops draw=>
   intro c e c' hw h
   simp only [ZR] at h
   simp only [ZW]
   cases h1:Z5O T call ops draw c with
   | none=>rw [h1] at h;simp at h
   | some c1=>
     rw [h1] at h
     simp at h;obtain ⟨rfl,rfl⟩:=h
     have s1:=ZbN hw h1
     rw [s1.st]
     exact ⟨rfl,s1.wf,s1.n⟩
 | loop b ih=>intro c e c' hw h;exact Zbe ih lf c e c' hw h
 | rangeFunc f ps x d ih ih2=>intro c e c' hw h;simp [ZR] at h
 | scope b ih=>intro c e c' hw h;simp [ZR] at h
 | goto l=>intro c e c' hw h;simp [ZR] at h
 | refuse why=>intro c e c' hw h;simp [ZR] at h
def Z8j {α:Sort u} (args:List SV):Nat→Tre→(Tre→α)→α:=@List.rec SV (fun _=>Nat→Tre→(Tre→α)→α) (fun _ t K=>K t) (fun x _ ih i t K=>fVF x fun x=>t.set i x fun t=>ih (i+1) t K) args
def Z3M (args:List SV):Nat→Tre→Tre:=@List.rec SV (fun _=>Nat→Tre→Tre) (fun _ t=>t) (fun x _ ih i t=>ih (i+1) (t.upd i x)) args
theorem Z9t {α:Sort u}:∀ (args:List SV) (i:Nat) (t:Tre) (K:Tre→α),Z8j args i t K=K (Z3M args i t)
 | [],i,t,K=>rfl
 | x::r,i,t,K=>by
   show fVF x (fun x=>t.set i x fun t=>Z8j r (i+1) t K)=_
   rw [Z5g,Z3Y,Z9t r];rfl
theorem Z9u:∀ (args:List SV) (i:Nat) (t:Tre) (N:Nat),(∀ k,k < N→t.in k)→i+args.length≤N→(∀ k,k < N→(Z3M args i t).in k)∧∀ k,k < N→(Z3M args i t).get k=if i≤k∧k < i+args.length then args.getD (k - i) .dead else t.get k
 | [],i,t,N,hw,hl=>⟨hw,fun k hk=>by simp [Z3M];omega⟩
 | x::r,i,t,N,hw,hl=>by
   simp only [List.length_cons] at hl
   have hw':∀ k,k < N→(t.upd i x).in k:=fun k hk=>(Z3Z _ _ _ _).2 (hw k hk)
   obtain ⟨h1,h2⟩:=Z9u r (i+1) (t.upd i x) N hw' (by omega)
   refine ⟨h1,fun k hk=>?_⟩
   show (Z3M r (i+1) (t.upd i x)).get k=_
   rw [h2 k hk,Z3E _ _ _ _ (hw i (by omega))]
   simp only [List.length_cons]
   by_cases hki:k=i
   ·subst hki
    rw [if_neg (by omega),if_pos rfl,if_pos (by omega)]
    simp
   ·by_cases hlt:i+1≤k∧k < i+1+r.length
    ·rw [if_pos hlt,if_pos (by omega),show k - i=(k - (i+1))+1 by omega,List.getD_cons_succ]
    ·rw [if_neg hlt,if_neg hki,if_neg (by omega)]
def rresF (T:Tb) (fn:Func) (H:List SB) (c:CS):Option (SV×List SB):=
 match c with
 | ⟨tr,n,h⟩=>match resLF T (evF tr n) h fn.results.toList with
   | some [x]=>some (fin false H x h)
   | some xs=>some (fin false H (.tup xs) h)
   | none=>none
where
 resRF (T:Tb) (ev:Operand→SV) (h:List SB):ResultVar→Option SV
  | .tmp n=>(match ev (.tmp n) with
    | .dead=>none
    | .grd _ _=>none
    | x=>some x)
  | .cell p ty=>(match Z20 T h ty (ev (.tmp p)) with
    | .v x=>some x
    | _=>none)
 resLF (T:Tb) (ev:Operand→SV) (h:List SB):List ResultVar→Option (List SV)
  | []=>some []
  | r::rs=>match resRF T ev h r with
    | some x=>match resLF T ev h rs with
      | some xs=>some (x::xs)
      | none=>none
    | none=>none
theorem ZfT (T:Tb) (S:St) (r:ResultVar):rresF.resRF T (evO S.t) S.h r=resR T S r:=by
 cases r <;> simp only [rresF.resRF,resR,evO] <;> rfl
theorem Zbf (T:Tb) (S:St):∀ l:List ResultVar,rresF.resLF T (evO S.t) S.h l=resL T S l
 | []=>rfl
 | r::rs=>by
   simp only [rresF.resLF,resL,ZfT,Zbf T S rs]
   rfl
theorem ZfU (T:Tb) (fn:Func) (H:List SB) (c:CS):rresF T fn H c=rres T fn H c.st:=by
 obtain ⟨tr,n,h⟩:=c
 unfold rresF rres
 have he:=Z6i ⟨tr,n,h⟩
 simp only at he
 have h2:rresF.resLF T (evO (CS.st ⟨tr,n,h⟩).t) h fn.results.toList=resL T (CS.st ⟨tr,n,h⟩) fn.results.toList:=Zbf T (CS.st ⟨tr,n,h⟩) _
 simp only [he,h2]
 all_goals rfl
def Ze2 (T:Tb) (FT:FuncId→Option Func) (lf:Nat) (ih:FRun):FRun:=fun f args H=>match FT f with
 | none=>none
 | some fn=>match fn.body with
   | none=>none
   | some b=>bif Nat.ble args.length fn.ntmps&&args.all notG then
    fN fn.ntmps fun n=>fN (Nat.log2 (n+1)+1) fun d=>Za4 d fun t=>Z8j args 0 t fun t=>match ZR T ih lf b ⟨t,n,H⟩ with
     | some (.normal,c)=>rresF T fn H c
     | some (.ret,c)=>rresF T fn H c
     | _=>none
     else none
theorem Ze3 {P:Program} {T:Tb} (hT:TabOk P T) (hm:P.follows .mixedOrders=true) {FT:FuncId→Option Func} (hF:FtOk P FT) (lf:Nat) {call:FRun} (hc0:Z1L P call):Z1L P (Ze2 T FT lf call):=fun f args H r H' h=>by
 have h':(match FT f with
  | none=>none
  | some fn=>match fn.body with
    | none=>none
    | some b=>bif Nat.ble args.length fn.ntmps&&args.all notG then
     fN fn.ntmps fun k=>fN (Nat.log2 (k+1)+1) fun d=>Za4 d fun t=>Z8j args 0 t fun t=>match ZR T call lf b ⟨t,k,H⟩ with
      | some (.normal,c)=>rresF T fn H c
      | some (.ret,c)=>rresF T fn H c
      | _=>none
      else none)=some (r,H'):=h
 clear h
 cases hft:FT f with
 | none=>rw [hft] at h';simp at h'
 | some fn=>
   rw [hft] at h'
   obtain ⟨h1,h2⟩:=hF f fn hft
   simp only at h'
   cases hb:fn.body with
   | none=>rw [hb] at h';simp at h'
   | some c=>
     rw [hb] at h'
     simp only at h'
     cases hc:(Nat.ble args.length fn.ntmps&&args.all notG) with
     | false=>rw [hc] at h';simp at h'
     | true=>
       rw [hc] at h'
       simp only [cond_true,Z1s,Zb1,Z9t,ZfU] at h'
       rw [Bool.and_eq_true] at hc
       have hle:=Nat.le_of_ble_eq_true hc.1
       have hfull:∀ k,k < fn.ntmps→(full (Nat.log2 (fn.ntmps+1)+1)).in k:=fun k hk=>Zcd _ _ (by
        have:=Nat.lt_log2_self (n:=fn.ntmps+1)
        omega)
       obtain ⟨w1,w2⟩:=Z9u args 0 (full (Nat.log2 (fn.ntmps+1)+1)) fn.ntmps hfull (by omega)
       have hst:(CS.st ⟨Z3M args 0 (full (Nat.log2 (fn.ntmps+1)+1)),fn.ntmps,H⟩)=⟨args++List.replicate (fn.ntmps - args.length) .dead,H⟩:=by
        simp only [CS.st]
        congr 1
        apply List.ext_getElem?
        intro k
        rw [List.getElem?_map]
        by_cases hk:k < fn.ntmps
        ·simp only [List.getElem?_range hk,Option.map_some]
         rw [w2 k hk,Zb2]
         by_cases hka:k < args.length
         ·rw [if_pos ⟨Nat.zero_le _,by omega⟩,List.getElem?_append_left hka,Nat.sub_zero,List.getD_eq_getElem?_getD,List.getElem?_eq_getElem hka]
          rfl
         ·rw [if_neg (by omega),List.getElem?_append_right (by omega),List.getElem?_replicate,if_pos (by omega)]
        ·rw [List.getElem?_eq_none (by simpa using hk),List.getElem?_eq_none (by simp;omega)]
         rfl
       have hN:NG (args++List.replicate (fn.ntmps - args.length) .dead):=by
        intro x hx
        rcases List.mem_append.1 hx with hx | hx
        ·exact List.all_eq_true.1 hc.2 x hx
        ·rw [List.eq_of_mem_replicate hx];rfl
       cases hr:ZR T call lf c ⟨Z3M args 0 (full (Nat.log2 (fn.ntmps+1)+1)),fn.ntmps,H⟩ with
       | none=>rw [hr] at h';simp at h'
       | some q=>
         obtain ⟨e,S⟩:=q
         rw [hr] at h'
         have s1:=Ze1 lf c ⟨Z3M args 0 (full (Nat.log2 (fn.ntmps+1)+1)),fn.ntmps,H⟩ e S w1 hr
         have hst1:=s1.st
         rw [hst] at hst1
         have hru:=(ZfN hT hm hc0 lf c _ e S.st hN hst1).1
         have key:(e=.normal∨e=.ret)∧rres T fn H S.st=some (r,H'):=by
          cases e <;> simp at h'
          ·exact ⟨.inl rfl,h'⟩
          ·exact ⟨.inr rfl,h'⟩
         obtain ⟨he,hres⟩:=key
         exact ZgU hT h1 hb h2 hc.1 he hru hres
def Zd2 (T:Tb) (FT:FuncId→Option Func) (lf:Nat) (ms:List Memo) (k:Nat):FRun:=@Nat.rec (fun _=>FRun) (fun _ _ _=>none) (fun _ ih=>orc ms (Ze2 T FT lf ih)) k
theorem Zbg {P:Program} {T:Tb} (hT:TabOk P T) (hm:P.follows .mixedOrders=true) {FT:FuncId→Option Func} (hF:FtOk P FT) (lf:Nat) {ms:List Memo} (hms:∀ m ∈ ms,Z8e P m):∀ n,Z1L P (Zd2 T FT lf ms n)
 | 0=>fun f args H r H' h=>by simp [Zd2] at h
 | n+1=>orc_ok hms (Ze3 hT hm hF lf (Zbg hT hm hF lf hms n))
def Tr.getF (tr:Tr):Tb:=@Tr.rec (fun _=>Nat→Option TI) (fun _=>none) (fun k v _ _ il ir t=>bif Nat.beq t k then some v else bif Nat.blt t k then il t else ir t) tr
theorem Z5P:∀ tr:Tr,tr.getF=tr.get
 | .leaf=>rfl
 | .node k v l r=>by
   funext t
   show (bif Nat.beq t k then some v else bif Nat.blt t k then l.getF t else r.getF t)=_
   rw [Z5P l,Z5P r];rfl
def FTr.getF (tr:FTr):FuncId→Option Func:=@FTr.rec (fun _=>Nat→Option Func) (fun _=>none) (fun k v _ _ il ir t=>bif Nat.beq t k then some v else bif Nat.blt t k then il t else ir t) tr
theorem Z4Z:∀ tr:FTr,tr.getF=tr.get
 | .leaf=>rfl
 | .node k v l r=>by
   funext t
   show (bif Nat.beq t k then some v else bif Nat.blt t k then l.getF t else r.getF t)=_
   rw [Z4Z l,Z4Z r];rfl
def runM (tr:Tr) (ft:FTr) (ms:List Memo) (n:Nat):FRun:=Zd2 tr.getF ft.getF 100000 ms n
theorem Zh1 {P:Program} {tr:Tr} {ft:FTr} (hT:TabOk P tr.get) (hF:FtOk P ft.get) (hm:P.follows .mixedOrders=true) {ms:List Memo} (hms:∀ m ∈ ms,Z8e P m) (n:Nat):Z1L P (runM tr ft ms n):=by
 unfold runM
 rw [Z5P,Z4Z]
 exact Zbg hT hm hF _ hms n
end
end
end SX
end Go.Proofs.YtdddpbmcoimgdaaGreatDoor
