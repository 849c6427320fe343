/- A part of SX: symbolic and concrete runs of the program, with contracts of functions; lemmas without further conditions. Shortened by a tool (mini.py). -/
import Derived.Test.YtdddpbmcoimgdaaGreatDoorRows
import Derived.ProofKit
import Derived.LaidMore
import Derived.OpenShut
import Derived.Stop.Joined
import Derived.Carry
import Derived.SizedLaws
import Derived.ChangeMaps5
import Derived.JoinedOf
import Derived.Shelf.Strings.OnBuilder
import Derived.Test.YtdddpbmcoimgdaaGreatDoorJAB
import Derived.Test.YtdddpbmcoimgdaaGreatDoorJAC
import Derived.Test.YtdddpbmcoimgdaaGreatDoorJAE
import Derived.Test.YtdddpbmcoimgdaaGreatDoorJAH
import Derived.Test.YtdddpbmcoimgdaaGreatDoorJAK
import Derived.Test.YtdddpbmcoimgdaaGreatDoorJAA
set_option linter.unusedVariables false
set_option linter.unusedSimpArgs false
set_option linter.unusedSectionVars false
set_option maxRecDepth 100000
namespace Go.Proofs.YtdddpbmcoimgdaaGreatDoor
namespace SX
open Go Go.Proofs
def Z1 (a:Int):List (List UInt8):=
 if a=1 then [[82,65,88],[82,66,88],[82,67,88],[82,68,88],[82,83,73],[82,68,73],[82,56],[82,57]]
 else if a=2 then [[97,48],[97,49],[97,50],[97,51],[97,52],[97,53],[97,54],[97,55]]
 else if a=3 then [[88,48],[88,49],[88,50],[88,51],[88,52],[88,53],[88,54],[88,55]]
 else []
def nameF (a n:Int):List UInt8:=if 0≤n∧n < 8 then (Z1 a).getD n.toNat [] else []
def rowS (s0 s1 s2 s3 s4 s5 s6 s7:List UInt8):SB:=.mem 9 [.s s0,.s s1,.s s2,.s s3,.s s4,.s s5,.s s6,.s s7] 1 0
def Zg (h:List UInt8) (rd pr:Nat):SB:=.mem 178 [.sl 0 1 0 8 (some 8) 0,.s h,.fn rd [],.fn pr []] 1 0
theorem Zm {s0 s1 s2 s3 s4 s5 s6 s7 h:List UInt8} {rd pr:Nat}:BndH 2 [rowS s0 s1 s2 s3 s4 s5 s6 s7,Zg h rd pr]:=⟨⟨rfl,rfl,rfl,rfl,rfl,rfl,rfl,rfl,trivial⟩,⟨rfl,rfl,rfl,rfl,trivial⟩,trivial⟩
theorem Zh9 {x y:List UInt8} (h:x=y):SV.s x=SV.s y:=congrArg SV.s h
theorem Z8o {n:Int} (h0:0≤n) (h8:n < 8):n=0∨n=1∨n=2∨n=3∨n=4∨n=5∨n=6∨n=7:=by omega
theorem Z1h (s0 s1 s2 s3 s4 s5 s6 s7 h:List UInt8) (rd pr:Nat) (n:Int):Ctr Tryz.prog 133 [.ptr 1 1 0 [],.i .i64 n] [rowS s0 s1 s2 s3 s4 s5 s6 s7,Zg h rd pr]
 (fun r h'=>r=.s (if 0≤n∧n < 8 then [s0,s1,s2,s3,s4,s5,s6,s7].getD n.toNat [] else [])∧h'=[rowS s0 s1 s2 s3 s4 s5 s6 s7,Zg h rd pr]):=by
 refine Ze Z5 (fn:=Tryz.f133) Z Z Z Z Z Z Zm ?_
 refine ⟨fun h1=>⟨Zh9 ?_,_,rfl⟩,fun h1=>?_⟩
 ·have h1:(decide (n < 0)||decide ((8:Int)≤n))=true:=h1
  simp only [Bool.or_eq_true,decide_eq_true_eq] at h1
  rw [if_neg (by omega)]
 ·have h1:(decide (n < 0)||decide ((8:Int)≤n))=false:=h1
  simp only [Bool.or_eq_false_iff,decide_eq_false_iff_not] at h1
  rw [if_pos (by omega)]
  rcases Z8o (n:=n) (by omega) (by omega) with rfl | rfl | rfl | rfl | rfl | rfl | rfl | rfl
  all_goals exact ⟨fun _=>by decide,⟨rfl,_,rfl⟩⟩
theorem Zg5:Ctr Tryz.prog 129 [] [] (fun r h=>r=.ptr 1 1 0 []∧h=[rowS [82,65,88] [82,66,88] [82,67,88] [82,68,88] [82,83,73] [82,68,73] [82,56] [82,57],Zg [36] 151 152]):=by
 refine ZE Z5 (fn:=Tryz.f129) Z Z Z Z Z Z Zm (Nat.zero_le _) ?_
 refine Z1k rfl rfl rfl rfl [] 1 rfl rfl rfl Zd9 rfl rfl rfl rfl trivial rfl (fun r H' hk=>by obtain ⟨_,rfl⟩:=hk;exact ⟨Nat.zero_le _,Nat.le_refl _⟩) ?_
 rintro r H' ⟨rfl,rfl⟩
 exact ⟨rfl,_,rfl⟩
theorem Zdb:Ctr Tryz.prog 134 [] [] (fun r h=>r=.ptr 1 1 0 []∧h=[rowS [97,48] [97,49] [97,50] [97,51] [97,52] [97,53] [97,54] [97,55],Zg [] 159 160]):=by
 refine ZE Z5 (fn:=Tryz.f134) Z Z Z Z Z Z Zm (Nat.zero_le _) ?_
 refine Z1k rfl rfl rfl rfl [] 1 rfl rfl rfl Zbm rfl rfl rfl rfl trivial rfl (fun r H' hk=>by obtain ⟨_,rfl⟩:=hk;exact ⟨Nat.zero_le _,Nat.le_refl _⟩) ?_
 rintro r H' ⟨rfl,rfl⟩
 exact ⟨rfl,_,rfl⟩
theorem Zg6:Ctr Tryz.prog 135 [] [] (fun r h=>r=.ptr 1 1 0 []∧h=[rowS [88,48] [88,49] [88,50] [88,51] [88,52] [88,53] [88,54] [88,55],Zg [35] 161 162]):=by
 refine ZE Z5 (fn:=Tryz.f135) Z Z Z Z Z Z Zm (Nat.zero_le _) ?_
 refine Z1k rfl rfl rfl rfl [] 1 rfl rfl rfl Zda rfl rfl rfl rfl trivial rfl (fun r H' hk=>by obtain ⟨_,rfl⟩:=hk;exact ⟨Nat.zero_le _,Nat.le_refl _⟩) ?_
 rintro r H' ⟨rfl,rfl⟩
 exact ⟨rfl,_,rfl⟩
def locF (k:Int):List UInt8:=[UInt8.ofNat (120+k.toNat)]
theorem Z9w (a n:Int):(nameF a n).length≤3:=by
 unfold nameF
 split
 ·rename_i h
  unfold Z1
  split
  ·rcases Z8o h.1 h.2 with rfl | rfl | rfl | rfl | rfl | rfl | rfl | rfl <;> decide
  ·split
   ·rcases Z8o h.1 h.2 with rfl | rfl | rfl | rfl | rfl | rfl | rfl | rfl <;> decide
   ·split
    ·rcases Z8o h.1 h.2 with rfl | rfl | rfl | rfl | rfl | rfl | rfl | rfl <;> decide
    ·simp
 ·simp
def in64 (x:Int):Prop:=-9223372036854775808≤x∧x≤9223372036854775807
theorem Z7q {n:Int} (h:in64 n):(Lib.itoa n).length≤21:=Lib.itoa_length_le n h.1 h.2
end SX
end Go.Proofs.YtdddpbmcoimgdaaGreatDoor
set_option maxRecDepth 100000
namespace Go.Proofs.YtdddpbmcoimgdaaGreatDoor
open Go Go.ChangeShapes Go.WideShapes Go.ChangeAt Go.RowKit
theorem own:ownKnob Tryz.prog.godebug=none:=by kernel_rfl
theorem Zha:∀ t,t < Tryz.prog.types.size→SX.CompsOk Tryz.prog (· < Tryz.prog.types.size) t:=SX.compsOk_of (by kernel_rfl)
namespace SX
theorem wf64 {n:Int} (h:(Lit.int .i64 n).wf=true):in64 n:=by
 have h:(decide (IntKind.i64.min≤n)&&decide (n≤IntKind.i64.max))=true:=h
 simp only [Bool.and_eq_true,decide_eq_true_eq] at h
 exact h
theorem Z2H {ls:List LK} {row:List Value} (h:LKs (.i .i64::ls) row):∃ n r,row=.int .i64 n::r∧in64 n∧LKs ls r:=by
 cases row with
 | nil=>exact h.elim
 | cons v r=>obtain ⟨⟨n,rfl,w⟩,h2⟩:=h;exact ⟨n,r,rfl,wf64 w,h2⟩
theorem Zag {ls:List LK} {row:List Value} (h:LKs (.b::ls) row):∃ n r,row=.bool n::r∧LKs ls r:=by
 cases row with
 | nil=>exact h.elim
 | cons v r=>obtain ⟨⟨n,rfl⟩,h2⟩:=h;exact ⟨n,r,rfl,h2⟩
theorem Zhb {row:List Value} (h:LKs [] row):row=[]:=by
 cases row with
 | nil=>rfl
 | cons v r=>exact h.elim
structure InW (i:In):Prop where
 op:in64 i.op
 dst:in64 i.dst
 a:in64 i.a
 b:in64 i.b
 imm:in64 i.imm
 loc:in64 i.loc
 off:in64 i.off
 ix:in64 i.ix
 sz:in64 i.sz
 fn:in64 i.fn
 pr:in64 i.pr
 su:in64 i.su
 to:in64 i.to
def insLs:List LK:=[.i .i64,.i .i64,.i .i64,.i .i64,.i .i64,.i .i64,.i .i64,.i .i64,.i .i64,.i .i64,.b,.b,.b,.i .i64,.i .i64,.i .i64,.b]
theorem in_dec (row:List Value) (h:LKs insLs row):∃ i:In,row=cellsL E0 (ienc i)∧InW i:=by
 unfold insLs at h
 obtain ⟨x0,row0,rfl,w0,h0⟩:=Z2H h
 obtain ⟨x1,row1,rfl,w1,h1⟩:=Z2H h0
 obtain ⟨x2,row2,rfl,w2,h2⟩:=Z2H h1
 obtain ⟨x3,row3,rfl,w3,h3⟩:=Z2H h2
 obtain ⟨x4,row4,rfl,w4,h4⟩:=Z2H h3
 obtain ⟨x5,row5,rfl,w5,h5⟩:=Z2H h4
 obtain ⟨x6,row6,rfl,w6,h6⟩:=Z2H h5
 obtain ⟨x7,row7,rfl,w7,h7⟩:=Z2H h6
 obtain ⟨x8,row8,rfl,w8,h8⟩:=Z2H h7
 obtain ⟨x9,row9,rfl,w9,h9⟩:=Z2H h8
 obtain ⟨x10,row10,rfl,h10⟩:=Zag h9
 obtain ⟨x11,row11,rfl,h11⟩:=Zag h10
 obtain ⟨x12,row12,rfl,h12⟩:=Zag h11
 obtain ⟨x13,row13,rfl,w13,h13⟩:=Z2H h12
 obtain ⟨x14,row14,rfl,w14,h14⟩:=Z2H h13
 obtain ⟨x15,row15,rfl,w15,h15⟩:=Z2H h14
 obtain ⟨x16,row16,rfl,h16⟩:=Zag h15
 obtain rfl:=Zhb h16
 exact ⟨⟨x0,x1,x2,x3,x4,x5,x6,x7,x8,x9,x10,x11,x12,x13,x14,x15,x16⟩,rfl,⟨w0,w1,w2,w3,w4,w5,w6,w7,w8,w9,w13,w14,w15⟩⟩
end SX
theorem ZC {a b:Bool} (h1:a=true) (h2:b=true):(a&&b)=true:=by rw [h1,h2];rfl
theorem Zg7 {P:Program} {f:FuncId} {fn:Func} {s:ChangeSpec} {c:OpenClaim} (h0:(c.wf (OpenSpec.ofChange s))=true) (h1:(laidOutB P)=true) (h2:(mapsRowed P)=true) (h3:(fn.params.all (P.readableRec ·))=true) (h4:(namedTie P c.named s.vars)=true) (h5:((c.stops == []))=true) (h6:((P.stops == []))=true) (h7:((c.knobs == []))=true) (h8:((P.stopKnobs == []))=true) (h9:((c.inPlace == P.inPlace f))=true) (h10:((c.unfollowed == P.unfollowed f))=true) (h11:((c.recurses == P.recurses f))=true) (h12:((c.named == P.varsNamed f))=true) (h13:((c.maps == (fn.params.toList++s.plain.varTypes P).any (P.mapsRec ·)))=true) (h14:((c.ifaces == (fn.params.toList++s.plain.varTypes P).any (P.ifacesRec ·)))=true) (h15:((c.mapsOut == P.mapsAmong fn.resultTypes.toList))=true) (h16:((c.loops == (fn.params.toList++s.plain.varTypes P).any (P.loopsFrom ·)))=true) (h17:((c.wideKeys == (fn.params.toList++s.plain.varTypes P++fn.resultTypes.toList).any (P.wideKeysFrom ·)))=true) (h18:(s.vars.all (P.varReadable ·))=true) (h19:(fn.resultTypes.all (fun t=>P.readableRec t&&decide (t < P.types.size)))=true) (h20:((c.ifacesOut == fn.resultTypes.toList.any (P.ifacesRec ·)))=true) (h21:((c.loopsOut == fn.resultTypes.toList.any (P.loopsFrom ·)))=true) (h22:((c.plainKeys == P.plainKeys))=true) (h23:(c.shortTexts.isNone)=true) (h24:(P.stopsHeard)=true) (h25:(P.mayEnter)=true) (h26:((c.lifted == P.liftsFinal))=true) (h27:((P.make == some c.make))=true) (h28:((c.kinds == (if c.domain.isEmpty then [] else fn.params.toList.map fun t=>match P.underlying t with | some (.int k)=>some k | _=>none)))=true) (h29:((c.pinned == c.pinnedBy))=true) (h30:((c.veiled == (fn.params.toList++s.plain.varTypes P++fn.resultTypes.toList).any (P.veiledRec ·)))=true) (h31:(c.veiledFits P fn.params.toList (fn.params.toList++s.plain.varTypes P++fn.resultTypes.toList))=true):joinedFacts P f fn s c=true:=by
 unfold joinedFacts
 exact (ZC (ZC (ZC (ZC (ZC (ZC (ZC (ZC (ZC (ZC (ZC (ZC (ZC (ZC (ZC (ZC (ZC (ZC (ZC (ZC (ZC (ZC (ZC (ZC (ZC (ZC (ZC (ZC (ZC (ZC (ZC h0 h1) h2) h3) h4) h5) h6) h7) h8) h9) h10) h11) h12) h13) h14) h15) h16) h17) h18) h19) h20) h21) h22) h23) h24) h25) h26) h27) h28) h29) h30) h31)
section
variable {H:Type} {enc:TypeId×Value→H} {W:World} {b0:Nat} {v:Value} {d:DataW H} {p:List MemPlace} {base:Nat} {spare:Nat→Bool} {held:Bool}
end
end Go.Proofs.YtdddpbmcoimgdaaGreatDoor
set_option maxRecDepth 100000
namespace Go.Proofs.YtdddpbmcoimgdaaGreatDoor
open Go Go.ChangeShapes Go.WideShapes Go.ChangeAt Go.RowKit
namespace SX
def inZ:In:=⟨0,0,0,0,0,0,0,0,0,0,false,false,false,0,0,0,false⟩
theorem ien_w (i:In):wdL (ienc i)=17:=by simp only [ienc,wdL,wd]
theorem ien_ok (i:In) (m:Mem):OkL m [] (ienc i):=by simp [ienc,OkL,Ok,isUnit]
structure IRow where
 xs:List In
 a:Option Addr
 cap:Nat
def ir0:IRow:=⟨[],none,0⟩
def irenc (r:IRow):List SV:=[.imm In inZ 17 ienc r.xs r.a r.cap]
theorem ir_w (r:IRow):wdL (irenc r)=1:=rfl
theorem Z3p:Zac irenc:=Ze4 _ _ _
structure Tst where
 arch:Int
 name:List UInt8
 init:List Int
 regs:List (List Int)
 code:List IRow
 ca:Option Addr
 cc:Nat
 qu:Int
 cond:List Cn
 da:Option Addr
 dc:Nat
def tz8:List Int:=[0,0,0,0,0,0,0,0]
def te8 (x:List Int):List SV:=[.ints .i64 8 x]
def tsenc (t:Tst):List SV:=[.i .i64 t.arch,.s t.name,.ints .i64 3 t.init,.arr 3 (List Int) tz8 8 te8 t.regs,.imm IRow ir0 1 irenc t.code t.ca t.cc,.i .i64 t.qu,.imm Cn cn0 5 cenc t.cond t.da t.dc]
def cdLs:List LK:=List.replicate 5 (.i .i64)
theorem cd_dec (row:List Value) (h:LKs cdLs row):∃ c:Cn,row=cellsL E0 (cenc c)∧in64 c.v:=by
 match row,h with
 | [a,b,c,d,e],h=>
   obtain ⟨⟨x1,rfl,_⟩,⟨x2,rfl,_⟩,⟨x3,rfl,_⟩,⟨x4,rfl,_⟩,⟨x5,rfl,w⟩,_⟩:=h
   exact ⟨⟨x1,x2,x3,x4,x5⟩,rfl,wf64 w⟩
 | [],h=>exact h.elim
 | [_],h=>exact h.2.elim
 | [_,_],h=>exact h.2.2.elim
 | [_,_,_],h=>exact h.2.2.2.elim
 | [_,_,_,_],h=>exact h.2.2.2.2.elim
 | _::_::_::_::_::_::_,h=>exact h.2.2.2.2.2.elim
theorem ints_of:∀ (n:Nat) (row:List Value),LKs (List.replicate n (.i .i64)) row→∃ xs:List Int,xs.length=n∧row=xs.map (.int .i64)∧∀ x ∈ xs,in64 x
 | 0,[],_=>⟨[],rfl,rfl,fun x hx=>by cases hx⟩
 | 0,_::_,h=>h.elim
 | n+1,[],h=>h.elim
 | n+1,v::cs,h=>by
   obtain ⟨⟨x,rfl,w⟩,h2⟩:=h
   obtain ⟨xs,e1,rfl,e2⟩:=ints_of n cs h2
   exact ⟨x::xs,by simp [e1],rfl,fun y hy=>by
    rcases List.mem_cons.1 hy with rfl | hy
    ·exact wf64 w
    ·exact e2 y hy⟩
structure TsW (t:Tst):Prop where
 arch:in64 t.arch
 nm:t.name.length≤maxLen
 init:t.init.length=3∧∀ x ∈ t.init,in64 x
 regs:t.regs.length=3∧∀ r ∈ t.regs,r.length=8∧∀ x ∈ r,in64 x
 code:t.code.length≤t.cc∧t.cc≤maxLen
 rows:∀ r ∈ t.code,r.xs.length≤r.cap∧r.cap≤maxLen∧∀ i ∈ r.xs,InW i
 qu:in64 t.qu
 cond:t.cond.length≤t.dc∧t.dc≤maxLen∧∀ c ∈ t.cond,in64 c.v
end SX
section
variable {H:Type} {enc:TypeId×Value→H} {W:World} {b0:Nat} {v:Value} {d:DataW H} {p:List MemPlace} {base:Nat} {spare:Nat→Bool} {held:Bool}
theorem ZeG {fuel:Nat} {c:List Value} {x:DataW H×List MemPlace} (h:DataW.trod enc Tryz.prog W base spare held fuel 38 c=some x) :
 ∃ r:SX.IRow,c=SX.cellsL SX.E0 (SX.irenc r)∧SX.OkL (SX.memQ W) [] (SX.irenc r)∧r.xs.length≤r.cap∧r.cap≤maxLen∧∀ i ∈ r.xs,SX.InW i:=by
 obtain ⟨xs,a,cap,rfl,h1,h2,h3⟩:=SX.open_immQ (t:=38) (e:=56) Tryz.underlying38 SX.inZ SX.ienc (n:=17) (by kernel_rfl) (by decide) SX.ien_w SX.InW (fun m row y hy hl=>by
  obtain ⟨i,e,w⟩:=SX.in_dec row (SX.trod_flat 40 56 SX.insLs (by kernel_rfl) (by kernel_rfl) m row y hy)
  exact ⟨i,e,SX.ien_ok i _,w⟩) h
 exact ⟨⟨xs,a,cap⟩,rfl,⟨⟨rfl,h1⟩,trivial⟩,(by have h1:=h1;simp only [SX.Ok] at h1;exact h1.1),h2,h3⟩
theorem Zdc {fuel:Nat} {c:List Value} {x:DataW H×List MemPlace} (h:DataW.trod enc Tryz.prog W base spare held fuel 25 c=some x) :
 ∃ (rs:List SX.IRow) (a:Option Addr) (cap:Nat),c=[.slice a rs.length cap]∧SX.Ok (SX.memQ W) [] (.imm SX.IRow SX.ir0 1 SX.irenc rs a cap)∧cap≤maxLen∧∀ r ∈ rs,r.xs.length≤r.cap∧r.cap≤maxLen∧∀ i ∈ r.xs,SX.InW i:=
 SX.open_immQ (t:=25) (e:=38) Tryz.underlying25 SX.ir0 SX.irenc (n:=1) (by kernel_rfl) (by decide) SX.ir_w _ (fun m row y hy _=>ZeG hy) h
theorem Zdd {fuel:Nat} {c:List Value} {x:DataW H×List MemPlace} (h:DataW.trod enc Tryz.prog W base spare held fuel 26 c=some x) :
 ∃ (xs:List SX.Cn) (a:Option Addr) (cap:Nat),c=[.slice a xs.length cap]∧SX.Ok (SX.memQ W) [] (.imm SX.Cn SX.cn0 5 SX.cenc xs a cap)∧cap≤maxLen∧∀ c ∈ xs,SX.in64 c.v:=
 SX.open_immQ (t:=26) (e:=79) Tryz.underlying26 SX.cn0 SX.cenc (n:=5) (by kernel_rfl) (by decide) (fun _=>rfl) _ (fun m row y hy _=>by
  obtain ⟨i,e,w⟩:=SX.cd_dec row (SX.trod_flat 40 79 SX.cdLs (by kernel_rfl) (by kernel_rfl) m row y hy)
  exact ⟨i,e,by simp [SX.cenc,SX.OkL,SX.Ok,SX.isUnit],w⟩) h
end
end Go.Proofs.YtdddpbmcoimgdaaGreatDoor
set_option maxRecDepth 100000
namespace Go.Proofs.YtdddpbmcoimgdaaGreatDoor
open Go Go.ChangeShapes Go.WideShapes Go.ChangeAt Go.RowKit
theorem Z2R {α:Type} (L:List α) (a n b:Nat) (h:b=a+n):L.drop a=(L.drop a).take n++L.drop b:=by
 subst h
 rw [← List.drop_drop,List.take_append_drop]
theorem rows3 (xs:List Int) (h:xs.length=24):[xs.take 8,(xs.drop 8).take 8,(xs.drop 16).take 8].flatten=xs:=by
 have h1:=Z2R xs 0 8 8 rfl
 have h2:=Z2R xs 8 8 16 rfl
 have h3:=Z2R xs 16 8 24 rfl
 rw [show xs.drop 24=[] from List.drop_of_length_le (by omega),List.append_nil] at h3
 rw [List.drop_zero] at h1
 simp only [List.flatten_cons,List.flatten_nil,List.append_nil]
 rw [← h3,← h2,← h1]
section
variable {H:Type} {enc:TypeId×Value→H} {W:World} {b0:Nat} {v:Value} {d:DataW H} {p:List MemPlace} {base:Nat} {spare:Nat→Bool} {held:Bool}
theorem ZeH (hv:Value.okWide Tryz.prog W .any b0 28 v) (h:DataW.Trod enc Tryz.prog W base spare held 28 v d p) :
 ∃ t:SX.Tst,v=SX.den (fun _ _=>none) (.agg (SX.tsenc t))∧SX.Ok (SX.memQ W) [] (.agg (SX.tsenc t))∧SX.TsW t:=by
 obtain ⟨cs,rfl,hsz⟩:=okWide_struct Tryz.underlying28 hv
 obtain ⟨fuel,hf⟩:=h
 obtain ⟨xs,n,_,_,hl,hlen,hg⟩:=DataW.trod_struct Tryz.underlying28 hf
 generalize hL:cs.toList=L at *
 have hcs:cs=L.toArray:=by rw [← hL]
 subst hcs
 have hl:L.length=32:=hl.trans (by kernel_rfl)
 have hx:∀ i,i < 7→∃ y,xs[i]?=some y:=fun i hi=>⟨_,List.getElem?_eq_getElem (by rw [hlen];exact hi)⟩
 obtain ⟨y0,q0⟩:=hx 0 (by decide)
 obtain ⟨y1,q1⟩:=hx 1 (by decide)
 obtain ⟨y2,q2⟩:=hx 2 (by decide)
 obtain ⟨y3,q3⟩:=hx 3 (by decide)
 obtain ⟨y4,q4⟩:=hx 4 (by decide)
 obtain ⟨y5,q5⟩:=hx 5 (by decide)
 obtain ⟨y6,q6⟩:=hx 6 (by decide)
 have g0:DataW.trod enc Tryz.prog W base spare held n 3 ((L.drop 0).take 1)=some y0:=(hg 0 _ rfl).trans q0
 have g1:DataW.trod enc Tryz.prog W base spare held n 9 ((L.drop 1).take 1)=some y1:=(hg 1 _ rfl).trans q1
 have g2:DataW.trod enc Tryz.prog W base spare held n 22 ((L.drop 2).take 3)=some y2:=(hg 2 _ rfl).trans q2
 have g3:DataW.trod enc Tryz.prog W base spare held n 24 ((L.drop 5).take 24)=some y3:=(hg 3 _ rfl).trans q3
 have g4:DataW.trod enc Tryz.prog W base spare held n 25 ((L.drop 29).take 1)=some y4:=(hg 4 _ rfl).trans q4
 have g5:DataW.trod enc Tryz.prog W base spare held n 3 ((L.drop 30).take 1)=some y5:=(hg 5 _ rfl).trans q5
 have g6:DataW.trod enc Tryz.prog W base spare held n 26 ((L.drop 31).take 1)=some y6:=(hg 6 _ rfl).trans q6
 obtain ⟨ar,e0,_,w0⟩:=DataW.trod_int Tryz.underlying3 g0
 obtain ⟨s,e1,_,w1⟩:=DataW.trod_string Tryz.underlying9 g1
 obtain ⟨ini,l2,e2,w2⟩:=SX.ints_of 3 _ (SX.trod_flat 40 22 (List.replicate 3 (.i .i64)) (by kernel_rfl) (by kernel_rfl) n _ y2 g2)
 obtain ⟨rg,l3,e3,w3⟩:=SX.ints_of 24 _ (SX.trod_flat 40 24 (List.replicate 24 (.i .i64)) (by kernel_rfl) (by kernel_rfl) n _ y3 g3)
 obtain ⟨code,ca,cc,e4,k4,b4,w4⟩:=Zdc g4
 obtain ⟨qu,e5,_,w5⟩:=DataW.trod_int Tryz.underlying3 g5
 obtain ⟨cond,da,dc,e6,k6,b6,w6⟩:=Zdd g6
 have f4:=k4
 have f6:=k6
 simp only [SX.Ok] at f4 f6
 have hcut:L=(L.drop 0).take 1++((L.drop 1).take 1++((L.drop 2).take 3++((L.drop 5).take 24++((L.drop 29).take 1++((L.drop 30).take 1++(L.drop 31).take 1))))):=by
  have c0:=Z2R L 0 1 1 rfl
  have c1:=Z2R L 1 1 2 rfl
  have c2:=Z2R L 2 3 5 rfl
  have c3:=Z2R L 5 24 29 rfl
  have c4:=Z2R L 29 1 30 rfl
  have c5:=Z2R L 30 1 31 rfl
  have c6:=Z2R L 31 1 32 rfl
  rw [List.drop_of_length_le (show L.length≤32 by omega),List.append_nil] at c6
  rw [← c6,← c5,← c4,← c3,← c2,← c1,← c0,List.drop_zero]
 rw [e0,e1,e2,e3,e4,e5,e6] at hcut
 have r3:=rows3 rg l3
 have l8:∀ a,a≤16→((rg.drop a).take 8).length=8:=fun a ha=>by simp;omega
 have m8:∀ a,∀ x ∈ (rg.drop a).take 8,SX.in64 x:=fun a x hx=>w3 x (List.mem_of_mem_drop (List.mem_of_mem_take hx))
 refine ⟨⟨ar,s.data.toList,ini,[rg.take 8,(rg.drop 8).take 8,(rg.drop 16).take 8],code,ca,cc,qu,cond,da,dc⟩,?_,?_,?_⟩
 ·rw [SX.den_agg,hcut]
  simp only [SX.tsenc,SX.cellsL,SX.cells,SX.te8,List.append_nil]
  rw [show List.range 3=[0,1,2] from rfl]
  simp only [List.flatMap_cons,List.flatMap_nil,List.getD_cons_zero,List.getD_cons_succ,List.append_nil]
  rw [← List.map_append,← List.map_append]
  have r3:rg.take 8++((rg.drop 8).take 8++(rg.drop 16).take 8)=rg:=by simpa using r3
  rw [r3]
 ·simp only [SX.Ok,SX.tsenc,SX.OkL,SX.isUnit,true_and,and_true]
  refine ⟨l2,⟨⟨rfl,fun x=>rfl,fun j hj=>?_⟩,⟨f4,f6⟩⟩⟩
  have hj:j=0∨j=1∨j=2:=by omega
  rcases hj with rfl | rfl | rfl
  ·exact ⟨⟨rfl,l8 0 (by decide)⟩,trivial⟩
  ·exact ⟨⟨rfl,l8 8 (by decide)⟩,trivial⟩
  ·exact ⟨⟨rfl,l8 16 (by decide)⟩,trivial⟩
 ·refine ⟨SX.wf64 w0,by simpa using w1,⟨l2,w2⟩,⟨rfl,fun r hr=>?_⟩,⟨f4.1,b4⟩,w4,SX.wf64 w5,⟨f6.1,b6,w6⟩⟩
  simp only [List.mem_cons,List.not_mem_nil,or_false] at hr
  rcases hr with rfl | rfl | rfl
  ·exact ⟨l8 0 (by decide),m8 0⟩
  ·exact ⟨l8 8 (by decide),m8 8⟩
  ·exact ⟨l8 16 (by decide),m8 16⟩
end
end Go.Proofs.YtdddpbmcoimgdaaGreatDoor
namespace Go.Proofs.YtdddpbmcoimgdaaGreatDoor
namespace SX
open Go Go.Proofs
def ZeZ:List SV:=[.s [],.raw .nilFunc,.raw .nilFunc,.raw .nilFunc,.raw .nilFunc,
 .s [88,56,54],.fn 92 [],.fn 93 [],.fn 94 [],.fn 95 [],
 .s [82,73,83,67,86],.fn 96 [],.fn 97 [],.fn 98 [],.fn 99 [],
 .s [65,82,77],.fn 100 [],.fn 101 [],.fn 102 [],.fn 103 []]
theorem ZbA:Ctr Tryz.prog 45 [] [] (fun r H=>r=.sl 0 1 0 4 (some 4) 0∧H=[.mem 99 ZeZ 1 0]):=by
 refine Ctr.enter Z5 (fn:=Tryz.f45) Z Z Z Z Z ?_
 exact ⟨rfl,rfl⟩
end SX
end Go.Proofs.YtdddpbmcoimgdaaGreatDoor
set_option maxRecDepth 100000
namespace Go.Proofs.YtdddpbmcoimgdaaGreatDoor
open Go.Shelf in
theorem Zdn:Builder.Extra Tryz.prog Z5i:=⟨⟨by kernel_rfl,by kernel_rfl⟩,Tryz.underlying5,Tryz.isAgg5,Tryz.sizeOf5,Tryz.zeroValue5,by kernel_rfl,by kernel_rfl,by kernel_rfl,by decide⟩
namespace SX
open Go Go.Proofs
theorem drNo:Z5X=false:=rfl
def nmF (ns:List (List UInt8)) (n:Int):List UInt8:=if 0≤n∧n < 8 then ns.getD n.toNat [] else []
def strB (xs:List (List UInt8)):SB:=.mem 9 (xs.map .s) 1 0
theorem ZcB (E:Env):∀ xs:List (List UInt8),cellsL E (xs.map .s)=xs.map fun x=>Value.string ⟨⟨x⟩⟩
 | []=>rfl
 | x::r=>by simp [cellsL,cells,ZcB E r]
theorem Z3N {M:Nat}:∀ xs:List (List UInt8),BndL M (xs.map .s)
 | []=>trivial
 | x::r=>⟨rfl,Z3N r⟩
theorem ZhK (xs:List (List UInt8)) (n:Nat) (hn:xs.length=n) (hn2:n≤1000) (sep:List UInt8) (hl:(Lib.join xs sep).length≤140737488355328) :
 Ctr Tryz.prog 218 [.sl 0 1 0 n (some n) 0,.s sep] [strB xs] (fun r h=>r=.s (Lib.join xs sep)∧h=[strB xs]):=
 Zbi drNo (fn:=Tryz.f218) Tryz.func218 Z Z (fun m=>trivial) rfl fun C E m w hr ha=>by
  obtain ⟨_,b,c,e1,e2,_⟩:=hr.bl 0 _ rfl
  have hbs:b < w.heap.size:=Zw e2
  have hargs:(denL E [.sl 0 1 0 n (some n) 0,.s sep]).toArray = #[.slice (some ⟨b,0,none⟩) (xs.map fun x=>(⟨⟨x⟩⟩:ByteArray)).length n,.string ⟨⟨sep⟩⟩]:=by
   simp [denL,wrapV,cells,e1,hn]
  have hmm:(xs.map fun x=>(⟨⟨x⟩⟩:ByteArray)).map (·.data.toList)=xs:=by simp [Function.comp_def]
  rw [hargs]
  have:=Any.strings_Join Zd8 Zdn b 0 n (xs.map fun x=>(⟨⟨x⟩⟩:ByteArray)) ⟨⟨sep⟩⟩ w (fun j x hx=>by
   rw [Z1E e2,Nat.zero_add,ZcB]
   simp only [List.getElem?_map,Option.map_eq_some_iff] at hx ⊢
   obtain ⟨y,hy,rfl⟩:=hx
   exact ⟨y,hy,rfl⟩) hbs (by simp;omega) (by simp;omega) (by rw [hmm];exact hl)
  rw [hmm] at this
  exact this
def Z7 (name:List UInt8) (xs:List (List UInt8)):List UInt8:=(name++[32])++Lib.join xs [44]
theorem Zb (name:List UInt8) (xs:List (List UInt8)) (n:Nat) (hn:xs.length=n) (h0:0 < n) (hn2:n≤1000) (hl:(Lib.join xs [44]).length≤100000) (hnm:name.length≤100000) :
 Ctr Tryz.prog 183 [.s name,.sl 0 1 0 n (some n) 0] [strB xs] (fun r h=>r=.s (Z7 name xs)∧h=[strB xs]):=by
 refine Ze Z5 (fn:=Tryz.f183) Z Z Z Z Z Z ⟨Z3N xs,trivial⟩ ?_
 refine ⟨fun h=>?_,fun _=>?_⟩
 ·have h:decide ((n:Int)=0)=true:=h
  have:=of_decide_eq_true h
  omega
 refine ⟨fun _=>?_,?_⟩
 ·show name.length+1≤9223372036854775807
  omega
 refine Z9 Z Z Z Z Z Z (fun _=>ZhK xs n hn hn2 [44] (by omega)) ?_
 refine ⟨fun _=>?_,⟨rfl,_,rfl⟩⟩
 show (name++[32]).length+(Lib.join xs [44]).length≤9223372036854775807
 simp;omega
def endF (z:Int) (e0 e1 e2 e3:List UInt8):List UInt8:=if z=1 then e0 else if z=2 then e1 else if z=4 then e2 else if z=8 then e3 else []
theorem ZB (z:Int) (e0 e1 e2 e3:List UInt8):Ctr Tryz.prog 182 [.i .i64 z,.sl 0 1 0 4 (some 4) 0] [strB [e0,e1,e2,e3]] (fun r h=>r=.s (endF z e0 e1 e2 e3)∧h=[strB [e0,e1,e2,e3]]):=by
 refine Ze Z5 (fn:=Tryz.f182) Z Z Z Z Z Z ⟨Z3N _,trivial⟩ ?_
 refine WpC.loop Z5 (β:=Nat) (fun k=>k≤4∧(0 < k→z≠1)∧(1 < k→z≠2)∧(2 < k→z≠4)∧(3 < k→z≠8)) (fun k=>[(9,.i .i64 k)]) (fun _=>[strB [e0,e1,e2,e3]]) (fun k=>4 - k) 0 1048176 ⟨by decide,fun h=>absurd h (by decide),fun h=>absurd h (by decide),fun h=>absurd h (by decide),fun h=>absurd h (by decide)⟩ ?_ ?_
 ·exact ⟨rfl,⟨⟨rfl,rfl,rfl⟩,trivial⟩,⟨[],rfl⟩,⟨Z3N _,trivial⟩,rfl⟩
 ·rintro k ⟨hk,h1,h2,h3,h4⟩
  rcases (by omega:k=0∨k=1∨k=2∨k=3∨k=4) with rfl | rfl | rfl | rfl | rfl
  ·refine ⟨fun _=>?_,fun h=>absurd h (by decide)⟩
   refine ⟨fun _=>by decide,⟨fun _=>by decide,?_⟩⟩
   refine ⟨fun h=>?_,fun h=>?_⟩
   ·have e:z=1:=of_decide_eq_true h
    refine ⟨s_cg ?_,_,rfl⟩
    unfold endF
    rw [if_pos e]
   ·have e:¬ z=1:=of_decide_eq_false h
    exact ⟨1,⟨by decide,fun _=>e,fun h=>absurd h (by decide),fun h=>absurd h (by decide),fun h=>absurd h (by decide)⟩,by decide,rfl,⟨⟨rfl,rfl,rfl⟩,trivial⟩,⟨[],rfl⟩,⟨Z3N _,trivial⟩,rfl⟩
  ·refine ⟨fun _=>?_,fun h=>absurd h (by decide)⟩
   refine ⟨fun _=>by decide,⟨fun _=>by decide,?_⟩⟩
   refine ⟨fun h=>?_,fun h=>?_⟩
   ·have e:z=2:=of_decide_eq_true h
    refine ⟨s_cg ?_,_,rfl⟩
    unfold endF
    rw [if_neg (h1 (by decide))]
    rw [if_pos e]
   ·have e:¬ z=2:=of_decide_eq_false h
    exact ⟨2,⟨by decide,fun _=>h1 (by decide),fun _=>e,fun h=>absurd h (by decide),fun h=>absurd h (by decide)⟩,by decide,rfl,⟨⟨rfl,rfl,rfl⟩,trivial⟩,⟨[],rfl⟩,⟨Z3N _,trivial⟩,rfl⟩
  ·refine ⟨fun _=>?_,fun h=>absurd h (by decide)⟩
   refine ⟨fun _=>by decide,⟨fun _=>by decide,?_⟩⟩
   refine ⟨fun h=>?_,fun h=>?_⟩
   ·have e:z=4:=of_decide_eq_true h
    refine ⟨s_cg ?_,_,rfl⟩
    unfold endF
    rw [if_neg (h1 (by decide))]
    rw [if_neg (h2 (by decide))]
    rw [if_pos e]
   ·have e:¬ z=4:=of_decide_eq_false h
    exact ⟨3,⟨by decide,fun _=>h1 (by decide),fun _=>h2 (by decide),fun _=>e,fun h=>absurd h (by decide)⟩,by decide,rfl,⟨⟨rfl,rfl,rfl⟩,trivial⟩,⟨[],rfl⟩,⟨Z3N _,trivial⟩,rfl⟩
  ·refine ⟨fun _=>?_,fun h=>absurd h (by decide)⟩
   refine ⟨fun _=>by decide,⟨fun _=>by decide,?_⟩⟩
   refine ⟨fun h=>?_,fun h=>?_⟩
   ·have e:z=8:=of_decide_eq_true h
    refine ⟨s_cg ?_,_,rfl⟩
    unfold endF
    rw [if_neg (h1 (by decide))]
    rw [if_neg (h2 (by decide))]
    rw [if_neg (h3 (by decide))]
    rw [if_pos e]
   ·have e:¬ z=8:=of_decide_eq_false h
    exact ⟨4,⟨by decide,fun _=>h1 (by decide),fun _=>h2 (by decide),fun _=>h3 (by decide),fun _=>e⟩,by decide,rfl,⟨⟨rfl,rfl,rfl⟩,trivial⟩,⟨[],rfl⟩,⟨Z3N _,trivial⟩,rfl⟩
  ·refine ⟨fun h=>absurd h (by decide),fun _=>⟨s_cg ?_,_,rfl⟩⟩
   unfold endF
   rw [if_neg (h1 (by decide)),if_neg (h2 (by decide)),if_neg (h3 (by decide)),if_neg (h4 (by decide))]
def orF (ns:List (List UInt8)) (h:List UInt8) (r n:Int):List UInt8:=if 0≤r then nmF ns r else h++Lib.itoa n
theorem Z3k (s0 s1 s2 s3 s4 s5 s6 s7 h:List UInt8) (rd pr:Nat) (r n:Int) (hn:in64 n) (hh:h.length≤10):Ctr Tryz.prog 184 [.ptr 1 1 0 [],.i .i64 r,.i .i64 n] [rowS s0 s1 s2 s3 s4 s5 s6 s7,Zg h rd pr]
 (fun x h'=>x=.s (orF [s0,s1,s2,s3,s4,s5,s6,s7] h r n)∧h'=[rowS s0 s1 s2 s3 s4 s5 s6 s7,Zg h rd pr]):=by
 have hi:=Z7q hn
 refine Ze Z5 (fn:=Tryz.f184) Z Z Z Z Z Z Zm ?_
 refine ⟨fun h1=>?_,fun h1=>?_⟩
 ·have h1:(0:Int)≤r:=of_decide_eq_true h1
  refine Z9 Z Z Z Z Z Z (fun _=>Z1h s0 s1 s2 s3 s4 s5 s6 s7 h rd pr r) ?_
  refine ⟨s_cg ?_,_,rfl⟩
  unfold orF nmF
  rw [if_pos h1]
 ·have h1:¬ (0:Int)≤r:=of_decide_eq_false h1
  refine WpC.dr Z5 mixed 0 ?_
  refine Zp Z Z Z Z Z Z Z (fun _=>Z6Q n hn.1 hn.2) ?_
  refine ⟨fun _=>?_,?_⟩
  ·show h.length+(Lib.itoa n).length≤9223372036854775807
   omega
  refine ⟨by kernel_rfl,?_⟩
  refine ⟨s_cg ?_,_,rfl⟩
  unfold orF
  rw [if_neg h1]
end SX
end Go.Proofs.YtdddpbmcoimgdaaGreatDoor
