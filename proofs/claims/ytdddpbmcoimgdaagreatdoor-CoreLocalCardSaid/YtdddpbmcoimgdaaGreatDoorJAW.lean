/- A part of SX: symbolic and concrete runs of the program, with contracts of functions; lemmas without further conditions. Shortened by a tool (mini.py). -/
import Derived.Test.YtdddpbmcoimgdaaGreatDoorJAH
import Derived.Test.YtdddpbmcoimgdaaGreatDoorJAM
import Derived.Test.YtdddpbmcoimgdaaGreatDoorJAT
import Derived.Test.YtdddpbmcoimgdaaGreatDoorJAA
set_option linter.unusedVariables false
set_option linter.unusedSimpArgs false
set_option linter.unusedSectionVars false
set_option maxRecDepth 100000
namespace Go.Proofs.YtdddpbmcoimgdaaGreatDoor
namespace SX
open Go Go.Proofs
def xFnB:SB:=.mem 9 [.s ([]),.s ([65,68,68]),.s ([83,85,66]),.s ([88,79,82]),.s ([65,78,68]),.s ([79,82])] 1 0
theorem Z2p:Ctr Tryz.prog 174 [] [] (fun r h=>r=.sl 0 1 0 6 (some 6) 0∧h=[xFnB]):=by
 refine ZE Z5 (fn:=Tryz.f174) Z Z Z Z Z Z (⟨⟨rfl,rfl,rfl,rfl,rfl,rfl,trivial⟩,trivial⟩:BndH 1 [xFnB]) (Nat.zero_le _) ?_
 exact ⟨rfl,_,rfl⟩
theorem Zh (a n:Int):(nmF (Z1 a) n).length≤3:=Z9w a n
def szT (a z:Int):List UInt8:=if a=1 then endF z [66] [87] [76] [81] else if a=2 then endF z [98] [104] [119] [100] else endF z [66] [72] [87] []
def fnT (a n:Int):List UInt8:=if a=2 then [[],[97,100,100],[115,117,98],[120,111,114],[97,110,100],[111,114]].getD n.toNat [] else if a=3 then [[],[65,68,68],[83,85,66],[69,79,82],[65,78,68],[79,82,82]].getD n.toNat [] else [[],[65,68,68],[83,85,66],[88,79,82],[65,78,68],[79,82]].getD n.toNat []
def brT (a:Int) (z:Bool):List UInt8:=if a=2 then (bif z then [98,101,113,122] else [98,110,101,122]) else if a=3 then (bif z then [67,66,90] else [67,66,78,90]) else (bif z then [74,90] else [74,78,90])
theorem join2 {x y:List UInt8}:Lib.join [x,y] [44]=x++([44]++y):=by simp [Lib.join,List.intercalate]
def hL (a:Int):List UInt8:=if a=1 then [36] else if a=3 then [35] else []
theorem Z6W {a:Int} {i:In} (ha:accB i=true):(atF (Z1 a) i).length≤40:=by
 obtain ⟨h1,h2,h3,h4⟩:=Z6U ha
 have hi:=Z45 h2.1 h2.2
 have hn:=Zh a i.ix
 unfold atF offF ixF locF
 simp only [List.length_append,List.length_cons,List.length_nil]
 split <;> split <;> simp <;> omega
section
def pxT (i:In) (lb:List UInt8):List UInt8:=
 if i.op=1 then Z7 [77,79,86] [nmF (Z1 1) i.dst,orF (Z1 1) [36] (-1) i.imm]
 else if i.op=2 then Z7 [77,79,86] [nmF (Z1 1) i.dst,nmF (Z1 1) i.a]
 else if i.op=3 then (if i.dst=i.a then Z7 (fnT 1 i.fn) [nmF (Z1 1) i.dst,orF (Z1 1) [36] i.b i.imm] else [])
 else if i.op=4 then (if i.acq=true∨i.wk=true then [] else Z7 ([77,79,86]++szT 1 i.sz) [nmF (Z1 1) i.dst,atF (Z1 1) i])
 else if i.op=5 then (if i.rel=true then [] else Z7 ([77,79,86]++szT 1 i.sz) [atF (Z1 1) i,orF (Z1 1) [36] i.a i.imm])
 else if i.op=6 then (if i.dst=i.a∧i.acq=true∧i.rel=true then (if i.fn=6 then Z7 ([88,67,72,71]++szT 1 i.sz) [nmF (Z1 1) i.a,atF (Z1 1) i] else Z7 ([88,65,68,68]++szT 1 i.sz) [atF (Z1 1) i,nmF (Z1 1) i.a]) else [])
 else if i.op=7 then (if i.pr=3∧i.su=3 then [77,70,69,78,67,69] else [])
 else if i.op=9 then Z7 (brT 1 i.ze) [nmF (Z1 1) i.a,lb]
 else []
def sidT (n:Int):List UInt8:=if n=1 then [114] else if n=2 then [119] else if n=3 then [114,119] else []
def amT (i:In):List UInt8:=((((if i.fn=1 then [97,109,111,97,100,100,46] else [97,109,111,115,119,97,112,46])++szT 2 i.sz)++(if i.acq=true then [46,97,113] else []))++(if i.rel=true then [46,114,108] else []))
def pvT (i:In) (lb:List UInt8):List UInt8:=
 if i.op=1 then Z7 [108,105] [nmF (Z1 2) i.dst,orF (Z1 2) [] (-1) i.imm]
 else if i.op=2 then Z7 [109,118] [nmF (Z1 2) i.dst,nmF (Z1 2) i.a]
 else if i.op=3 then (if 0≤i.b then Z7 (fnT 2 i.fn) [nmF (Z1 2) i.dst,nmF (Z1 2) i.a,nmF (Z1 2) i.b] else Z7 (fnT 2 i.fn++[105]) [nmF (Z1 2) i.dst,nmF (Z1 2) i.a,orF (Z1 2) [] (-1) i.imm])
 else if i.op=4 then (if i.acq=true∨i.wk=true then [] else Z7 ([108]++szT 2 i.sz) [nmF (Z1 2) i.dst,atF (Z1 2) i])
 else if i.op=5 then (if i.rel=true∨i.a < 0 then [] else Z7 ([115]++szT 2 i.sz) [nmF (Z1 2) i.a,atF (Z1 2) i])
 else if i.op=6 then Z7 (amT i) [nmF (Z1 2) i.dst,nmF (Z1 2) i.a,atF (Z1 2) i]
 else if i.op=7 then Z7 [102,101,110,99,101] [sidT i.pr,sidT i.su]
 else if i.op=9 then Z7 (brT 2 i.ze) [nmF (Z1 2) i.a,lb]
 else []
def ldT (acq wk:Bool):List UInt8:=if wk=true then [76,68,65,80,82] else if acq=true then [76,68,65,82] else [76,68,82]
def stT (rel:Bool):List UInt8:=if rel=true then [83,84,76,82] else [83,84,82]
def swT (i:In):List UInt8:=(((if i.fn=1 then [76,68,65,68,68] else [83,87,80])++(if i.acq=true then [65] else []))++(if i.rel=true then [76] else []))++szT 3 i.sz
def paT (i:In) (lb:List UInt8):List UInt8:=
 if i.op=1 then Z7 [77,79,86] [nmF (Z1 3) i.dst,orF (Z1 3) [35] (-1) i.imm]
 else if i.op=2 then Z7 [77,79,86] [nmF (Z1 3) i.dst,nmF (Z1 3) i.a]
 else if i.op=3 then Z7 (fnT 3 i.fn) [nmF (Z1 3) i.dst,nmF (Z1 3) i.a,orF (Z1 3) [35] i.b i.imm]
 else if i.op=4 then Z7 (ldT i.acq i.wk++szT 3 i.sz) [nmF (Z1 3) i.dst,atF (Z1 3) i]
 else if i.op=5 then (if i.a < 0 then [] else Z7 (stT i.rel++szT 3 i.sz) [nmF (Z1 3) i.a,atF (Z1 3) i])
 else if i.op=6 then Z7 (swT i) [nmF (Z1 3) i.a,nmF (Z1 3) i.dst,atF (Z1 3) i]
 else if i.op=7 then (if i.pr=3∧i.su=3 then Z7 [68,77,66] [[83,89]] else if i.pr=1∧i.su=3 then Z7 [68,77,66] [[76,68]] else if i.pr=2∧i.su=2 then Z7 [68,77,66] [[83,84]] else [])
 else if i.op=8 then [73,83,66]
 else if i.op=9 then Z7 (brT 3 i.ze) [nmF (Z1 3) i.a,lb]
 else []
theorem jn2 {x y:List UInt8}:Lib.join [x,y] [44]=x++([44]++y):=by simp [Lib.join,List.intercalate]
theorem jn3 {x y z:List UInt8}:Lib.join [x,y,z] [44]=x++([44]++(y++([44]++z))):=by simp [Lib.join,List.intercalate]
theorem ZcC {n:List UInt8} {xs:List (List UInt8)}:Z7 n xs≠[]:=by unfold Z7;simp
variable {dst a b imm loc off ix sz fn pr su to:Int} {acq wk rel ze:Bool} {lb:List UInt8}
theorem Z8x (hd:dst=a):pxT ⟨3,dst,a,b,imm,loc,off,ix,sz,fn,acq,wk,rel,pr,su,to,ze⟩ lb=Z7 (fnT 1 fn) [nmF (Z1 1) dst,orF (Z1 1) [36] b imm]:=if_pos hd
theorem pxT_3n (hd:¬ dst=a):pxT ⟨3,dst,a,b,imm,loc,off,ix,sz,fn,acq,wk,rel,pr,su,to,ze⟩ lb=[]:=if_neg hd
theorem pxT_6d (hd:¬ dst=a):pxT ⟨6,dst,a,b,imm,loc,off,ix,sz,fn,acq,wk,rel,pr,su,to,ze⟩ lb=[]:=by simp [pxT,hd]
theorem pxT_6 (hd:dst=a):pxT ⟨6,dst,a,b,imm,loc,off,ix,sz,fn,true,wk,true,pr,su,to,ze⟩ lb=(if fn=6 then Z7 ([88,67,72,71]++szT 1 sz) [nmF (Z1 1) a,atF (Z1 1) ⟨6,dst,a,b,imm,loc,off,ix,sz,fn,true,wk,true,pr,su,to,ze⟩] else Z7 ([88,65,68,68]++szT 1 sz) [atF (Z1 1) ⟨6,dst,a,b,imm,loc,off,ix,sz,fn,true,wk,true,pr,su,to,ze⟩,nmF (Z1 1) a]):=by subst hd;simp [pxT]
theorem pxT_6a:pxT ⟨6,dst,a,b,imm,loc,off,ix,sz,fn,false,wk,rel,pr,su,to,ze⟩ lb=[]:=by simp [pxT]
theorem pxT_6r:pxT ⟨6,dst,a,b,imm,loc,off,ix,sz,fn,acq,wk,false,pr,su,to,ze⟩ lb=[]:=by simp [pxT]
theorem pxT_4a:pxT ⟨4,dst,a,b,imm,loc,off,ix,sz,fn,true,wk,rel,pr,su,to,ze⟩ lb=[]:=by simp [pxT]
theorem pxT_4w:pxT ⟨4,dst,a,b,imm,loc,off,ix,sz,fn,acq,true,rel,pr,su,to,ze⟩ lb=[]:=by simp [pxT]
end
section
theorem Zf {t n:List UInt8} {xs:List (List UInt8)} (h:t=Z7 n xs):SV.tup [.s (Z7 n xs),.b true]=SV.tup [.s t,.b (!decide (t=[]))]:=by subst h;rw [decide_eq_false ZcC];rfl
theorem Z2r {t:List UInt8} (h:t=[]):SV.tup [.s [],.b false]=SV.tup [.s t,.b (!decide (t=[]))]:=by subst h;rfl
theorem Zgy {t n:List UInt8} (h:t=n) (hn:n≠[]):SV.tup [.s n,.b true]=SV.tup [.s t,.b (!decide (t=[]))]:=by subst h;rw [decide_eq_false hn];rfl
section
variable {op dst a b imm loc off ix sz fn pr su to:Int} {acq wk rel ze:Bool} {lb:List UInt8}
theorem pvT_1 (e:op=1)  : pvT ⟨op,dst,a,b,imm,loc,off,ix,sz,fn,acq,wk,rel,pr,su,to,ze⟩ lb=Z7 [108,105] [nmF (Z1 2) dst,orF (Z1 2) [] (-1) imm]:=by
 subst e
 rfl
theorem pvT_2 (e:op=2)  : pvT ⟨op,dst,a,b,imm,loc,off,ix,sz,fn,acq,wk,rel,pr,su,to,ze⟩ lb=Z7 [109,118] [nmF (Z1 2) dst,nmF (Z1 2) a]:=by
 subst e
 rfl
theorem Z6t (e:op=3) (hb:0≤b):pvT ⟨op,dst,a,b,imm,loc,off,ix,sz,fn,acq,wk,rel,pr,su,to,ze⟩ lb=Z7 (fnT 2 fn) [nmF (Z1 2) dst,nmF (Z1 2) a,nmF (Z1 2) b]:=by
 subst e
 exact if_pos hb
theorem Z6u (e:op=3) (hb:¬ 0≤b):pvT ⟨op,dst,a,b,imm,loc,off,ix,sz,fn,acq,wk,rel,pr,su,to,ze⟩ lb=Z7 (fnT 2 fn++[105]) [nmF (Z1 2) dst,nmF (Z1 2) a,orF (Z1 2) [] (-1) imm]:=by
 subst e
 exact if_neg hb
theorem pvT_4 (e:op=4) (hq:¬ (acq=true∨wk=true)):pvT ⟨op,dst,a,b,imm,loc,off,ix,sz,fn,acq,wk,rel,pr,su,to,ze⟩ lb=Z7 ([108]++szT 2 sz) [nmF (Z1 2) dst,atF (Z1 2) ⟨op,dst,a,b,imm,loc,off,ix,sz,fn,acq,wk,rel,pr,su,to,ze⟩]:=by
 subst e
 exact if_neg hq
theorem pvT_5 (e:op=5) (hq:¬ (rel=true∨a < 0)):pvT ⟨op,dst,a,b,imm,loc,off,ix,sz,fn,acq,wk,rel,pr,su,to,ze⟩ lb=Z7 ([115]++szT 2 sz) [nmF (Z1 2) a,atF (Z1 2) ⟨op,dst,a,b,imm,loc,off,ix,sz,fn,acq,wk,rel,pr,su,to,ze⟩]:=by
 subst e
 exact if_neg hq
theorem Zf8 (e:op=6) (hf:fn=1) (hq:acq=true) (hr:rel=true):pvT ⟨op,dst,a,b,imm,loc,off,ix,sz,fn,acq,wk,rel,pr,su,to,ze⟩ lb=Z7 ((([97,109,111,97,100,100,46]++szT 2 sz)++[46,97,113])++[46,114,108]) [nmF (Z1 2) dst,nmF (Z1 2) a,atF (Z1 2) ⟨op,dst,a,b,imm,loc,off,ix,sz,fn,acq,wk,rel,pr,su,to,ze⟩]:=by
 subst e
 subst hq;subst hr
 show Z7 (amT _) _=_
 unfold amT
 dsimp only
 rw [if_pos hf]
 simp only [if_true,Bool.false_eq_true,if_false,List.append_nil]
theorem Zf9 (e:op=6) (hf:fn=1) (hq:acq=true) (hr:rel=false):pvT ⟨op,dst,a,b,imm,loc,off,ix,sz,fn,acq,wk,rel,pr,su,to,ze⟩ lb=Z7 (([97,109,111,97,100,100,46]++szT 2 sz)++[46,97,113]) [nmF (Z1 2) dst,nmF (Z1 2) a,atF (Z1 2) ⟨op,dst,a,b,imm,loc,off,ix,sz,fn,acq,wk,rel,pr,su,to,ze⟩]:=by
 subst e
 subst hq;subst hr
 show Z7 (amT _) _=_
 unfold amT
 dsimp only
 rw [if_pos hf]
 simp only [if_true,Bool.false_eq_true,if_false,List.append_nil]
theorem Zfa (e:op=6) (hf:fn=1) (hq:acq=false) (hr:rel=true):pvT ⟨op,dst,a,b,imm,loc,off,ix,sz,fn,acq,wk,rel,pr,su,to,ze⟩ lb=Z7 (([97,109,111,97,100,100,46]++szT 2 sz)++[46,114,108]) [nmF (Z1 2) dst,nmF (Z1 2) a,atF (Z1 2) ⟨op,dst,a,b,imm,loc,off,ix,sz,fn,acq,wk,rel,pr,su,to,ze⟩]:=by
 subst e
 subst hq;subst hr
 show Z7 (amT _) _=_
 unfold amT
 dsimp only
 rw [if_pos hf]
 simp only [if_true,Bool.false_eq_true,if_false,List.append_nil]
theorem Zfb (e:op=6) (hf:fn=1) (hq:acq=false) (hr:rel=false):pvT ⟨op,dst,a,b,imm,loc,off,ix,sz,fn,acq,wk,rel,pr,su,to,ze⟩ lb=Z7 ([97,109,111,97,100,100,46]++szT 2 sz) [nmF (Z1 2) dst,nmF (Z1 2) a,atF (Z1 2) ⟨op,dst,a,b,imm,loc,off,ix,sz,fn,acq,wk,rel,pr,su,to,ze⟩]:=by
 subst e
 subst hq;subst hr
 show Z7 (amT _) _=_
 unfold amT
 dsimp only
 rw [if_pos hf]
 simp only [if_true,Bool.false_eq_true,if_false,List.append_nil]
theorem Zfc (e:op=6) (hf:¬ fn=1) (hq:acq=true) (hr:rel=true):pvT ⟨op,dst,a,b,imm,loc,off,ix,sz,fn,acq,wk,rel,pr,su,to,ze⟩ lb=Z7 ((([97,109,111,115,119,97,112,46]++szT 2 sz)++[46,97,113])++[46,114,108]) [nmF (Z1 2) dst,nmF (Z1 2) a,atF (Z1 2) ⟨op,dst,a,b,imm,loc,off,ix,sz,fn,acq,wk,rel,pr,su,to,ze⟩]:=by
 subst e
 subst hq;subst hr
 show Z7 (amT _) _=_
 unfold amT
 dsimp only
 rw [if_neg hf]
 simp only [if_true,Bool.false_eq_true,if_false,List.append_nil]
theorem Zfd (e:op=6) (hf:¬ fn=1) (hq:acq=true) (hr:rel=false):pvT ⟨op,dst,a,b,imm,loc,off,ix,sz,fn,acq,wk,rel,pr,su,to,ze⟩ lb=Z7 (([97,109,111,115,119,97,112,46]++szT 2 sz)++[46,97,113]) [nmF (Z1 2) dst,nmF (Z1 2) a,atF (Z1 2) ⟨op,dst,a,b,imm,loc,off,ix,sz,fn,acq,wk,rel,pr,su,to,ze⟩]:=by
 subst e
 subst hq;subst hr
 show Z7 (amT _) _=_
 unfold amT
 dsimp only
 rw [if_neg hf]
 simp only [if_true,Bool.false_eq_true,if_false,List.append_nil]
theorem Zfe (e:op=6) (hf:¬ fn=1) (hq:acq=false) (hr:rel=true):pvT ⟨op,dst,a,b,imm,loc,off,ix,sz,fn,acq,wk,rel,pr,su,to,ze⟩ lb=Z7 (([97,109,111,115,119,97,112,46]++szT 2 sz)++[46,114,108]) [nmF (Z1 2) dst,nmF (Z1 2) a,atF (Z1 2) ⟨op,dst,a,b,imm,loc,off,ix,sz,fn,acq,wk,rel,pr,su,to,ze⟩]:=by
 subst e
 subst hq;subst hr
 show Z7 (amT _) _=_
 unfold amT
 dsimp only
 rw [if_neg hf]
 simp only [if_true,Bool.false_eq_true,if_false,List.append_nil]
theorem Zff (e:op=6) (hf:¬ fn=1) (hq:acq=false) (hr:rel=false):pvT ⟨op,dst,a,b,imm,loc,off,ix,sz,fn,acq,wk,rel,pr,su,to,ze⟩ lb=Z7 ([97,109,111,115,119,97,112,46]++szT 2 sz) [nmF (Z1 2) dst,nmF (Z1 2) a,atF (Z1 2) ⟨op,dst,a,b,imm,loc,off,ix,sz,fn,acq,wk,rel,pr,su,to,ze⟩]:=by
 subst e
 subst hq;subst hr
 show Z7 (amT _) _=_
 unfold amT
 dsimp only
 rw [if_neg hf]
 simp only [if_true,Bool.false_eq_true,if_false,List.append_nil]
theorem Z46 (e:op=7)  : pvT ⟨op,dst,a,b,imm,loc,off,ix,sz,fn,acq,wk,rel,pr,su,to,ze⟩ lb=Z7 [102,101,110,99,101] [sidT pr,sidT su]:=by
 subst e
 rfl
theorem pvT_9z (e:op=9) (hz:ze=true):pvT ⟨op,dst,a,b,imm,loc,off,ix,sz,fn,acq,wk,rel,pr,su,to,ze⟩ lb=Z7 [98,101,113,122] [nmF (Z1 2) a,lb]:=by
 subst e
 subst hz;rfl
theorem pvT_9n (e:op=9) (hz:ze=false):pvT ⟨op,dst,a,b,imm,loc,off,ix,sz,fn,acq,wk,rel,pr,su,to,ze⟩ lb=Z7 [98,110,101,122] [nmF (Z1 2) a,lb]:=by
 subst e
 subst hz;rfl
theorem pvT_0 (h:op≠1∧op≠2∧op≠3∧op≠6∧op≠7∧op≠9∧(op=4→acq=true∨wk=true)∧(op=5→rel=true∨a < 0)):pvT ⟨op,dst,a,b,imm,loc,off,ix,sz,fn,acq,wk,rel,pr,su,to,ze⟩ lb=[]:=by
 obtain ⟨h1,h2,h3,h6,h7,h9,h4,h5⟩:=h
 unfold pvT
 dsimp only
 rw [if_neg h1,if_neg h2,if_neg h3]
 split
 ·rename_i e;exact if_pos (h4 e)
 split
 ·rename_i e;exact if_pos (h5 e)
 first | rfl | rw [if_neg h6,if_neg h7,if_neg h9]
end
end
section
section
variable {op dst a b imm loc off ix sz fn pr su to:Int} {acq wk rel ze:Bool} {lb:List UInt8}
theorem paT_1 (e:op=1)  : paT ⟨op,dst,a,b,imm,loc,off,ix,sz,fn,acq,wk,rel,pr,su,to,ze⟩ lb=Z7 [77,79,86] [nmF (Z1 3) dst,orF (Z1 3) [35] (-1) imm]:=by
 subst e
 rfl
theorem paT_2 (e:op=2)  : paT ⟨op,dst,a,b,imm,loc,off,ix,sz,fn,acq,wk,rel,pr,su,to,ze⟩ lb=Z7 [77,79,86] [nmF (Z1 3) dst,nmF (Z1 3) a]:=by
 subst e
 rfl
theorem Z6v (e:op=3)  : paT ⟨op,dst,a,b,imm,loc,off,ix,sz,fn,acq,wk,rel,pr,su,to,ze⟩ lb=Z7 (fnT 3 fn) [nmF (Z1 3) dst,nmF (Z1 3) a,orF (Z1 3) [35] b imm]:=by
 subst e
 rfl
theorem Zfh (e:op=4) (hw:wk=true):paT ⟨op,dst,a,b,imm,loc,off,ix,sz,fn,acq,wk,rel,pr,su,to,ze⟩ lb=Z7 ([76,68,65,80,82]++szT 3 sz) [nmF (Z1 3) dst,atF (Z1 3) ⟨op,dst,a,b,imm,loc,off,ix,sz,fn,acq,wk,rel,pr,su,to,ze⟩]:=by
 subst e
 subst hw;rfl
theorem paT_4a (e:op=4) (hw:wk=false) (hq:acq=true):paT ⟨op,dst,a,b,imm,loc,off,ix,sz,fn,acq,wk,rel,pr,su,to,ze⟩ lb=Z7 ([76,68,65,82]++szT 3 sz) [nmF (Z1 3) dst,atF (Z1 3) ⟨op,dst,a,b,imm,loc,off,ix,sz,fn,acq,wk,rel,pr,su,to,ze⟩]:=by
 subst e
 subst hw;subst hq;rfl
theorem paT_4n (e:op=4) (hw:wk=false) (hq:acq=false):paT ⟨op,dst,a,b,imm,loc,off,ix,sz,fn,acq,wk,rel,pr,su,to,ze⟩ lb=Z7 ([76,68,82]++szT 3 sz) [nmF (Z1 3) dst,atF (Z1 3) ⟨op,dst,a,b,imm,loc,off,ix,sz,fn,acq,wk,rel,pr,su,to,ze⟩]:=by
 subst e
 subst hw;subst hq;rfl
theorem paT_5r (e:op=5) (hb:¬ a < 0) (hr:rel=true):paT ⟨op,dst,a,b,imm,loc,off,ix,sz,fn,acq,wk,rel,pr,su,to,ze⟩ lb=Z7 ([83,84,76,82]++szT 3 sz) [nmF (Z1 3) a,atF (Z1 3) ⟨op,dst,a,b,imm,loc,off,ix,sz,fn,acq,wk,rel,pr,su,to,ze⟩]:=by
 subst e
 subst hr;exact if_neg hb
theorem paT_5n (e:op=5) (hb:¬ a < 0) (hr:rel=false):paT ⟨op,dst,a,b,imm,loc,off,ix,sz,fn,acq,wk,rel,pr,su,to,ze⟩ lb=Z7 ([83,84,82]++szT 3 sz) [nmF (Z1 3) a,atF (Z1 3) ⟨op,dst,a,b,imm,loc,off,ix,sz,fn,acq,wk,rel,pr,su,to,ze⟩]:=by
 subst e
 subst hr;exact if_neg hb
theorem Zfi (e:op=6) (hf:fn=1) (hq:acq=true) (hr:rel=true):paT ⟨op,dst,a,b,imm,loc,off,ix,sz,fn,acq,wk,rel,pr,su,to,ze⟩ lb=Z7 ((([76,68,65,68,68]++[65])++[76])++szT 3 sz) [nmF (Z1 3) a,nmF (Z1 3) dst,atF (Z1 3) ⟨op,dst,a,b,imm,loc,off,ix,sz,fn,acq,wk,rel,pr,su,to,ze⟩]:=by
 subst e
 subst hq;subst hr
 show Z7 (swT _) _=_
 unfold swT
 dsimp only
 rw [if_pos hf]
 simp only [if_true,Bool.false_eq_true,if_false,List.append_nil]
theorem Zfj (e:op=6) (hf:fn=1) (hq:acq=true) (hr:rel=false):paT ⟨op,dst,a,b,imm,loc,off,ix,sz,fn,acq,wk,rel,pr,su,to,ze⟩ lb=Z7 (([76,68,65,68,68]++[65])++szT 3 sz) [nmF (Z1 3) a,nmF (Z1 3) dst,atF (Z1 3) ⟨op,dst,a,b,imm,loc,off,ix,sz,fn,acq,wk,rel,pr,su,to,ze⟩]:=by
 subst e
 subst hq;subst hr
 show Z7 (swT _) _=_
 unfold swT
 dsimp only
 rw [if_pos hf]
 simp only [if_true,Bool.false_eq_true,if_false,List.append_nil]
theorem Zfk (e:op=6) (hf:fn=1) (hq:acq=false) (hr:rel=true):paT ⟨op,dst,a,b,imm,loc,off,ix,sz,fn,acq,wk,rel,pr,su,to,ze⟩ lb=Z7 (([76,68,65,68,68]++[76])++szT 3 sz) [nmF (Z1 3) a,nmF (Z1 3) dst,atF (Z1 3) ⟨op,dst,a,b,imm,loc,off,ix,sz,fn,acq,wk,rel,pr,su,to,ze⟩]:=by
 subst e
 subst hq;subst hr
 show Z7 (swT _) _=_
 unfold swT
 dsimp only
 rw [if_pos hf]
 simp only [if_true,Bool.false_eq_true,if_false,List.append_nil]
theorem Zfl (e:op=6) (hf:fn=1) (hq:acq=false) (hr:rel=false):paT ⟨op,dst,a,b,imm,loc,off,ix,sz,fn,acq,wk,rel,pr,su,to,ze⟩ lb=Z7 ([76,68,65,68,68]++szT 3 sz) [nmF (Z1 3) a,nmF (Z1 3) dst,atF (Z1 3) ⟨op,dst,a,b,imm,loc,off,ix,sz,fn,acq,wk,rel,pr,su,to,ze⟩]:=by
 subst e
 subst hq;subst hr
 show Z7 (swT _) _=_
 unfold swT
 dsimp only
 rw [if_pos hf]
 simp only [if_true,Bool.false_eq_true,if_false,List.append_nil]
theorem Zfm (e:op=6) (hf:¬ fn=1) (hq:acq=true) (hr:rel=true):paT ⟨op,dst,a,b,imm,loc,off,ix,sz,fn,acq,wk,rel,pr,su,to,ze⟩ lb=Z7 ((([83,87,80]++[65])++[76])++szT 3 sz) [nmF (Z1 3) a,nmF (Z1 3) dst,atF (Z1 3) ⟨op,dst,a,b,imm,loc,off,ix,sz,fn,acq,wk,rel,pr,su,to,ze⟩]:=by
 subst e
 subst hq;subst hr
 show Z7 (swT _) _=_
 unfold swT
 dsimp only
 rw [if_neg hf]
 simp only [if_true,Bool.false_eq_true,if_false,List.append_nil]
theorem Zfn (e:op=6) (hf:¬ fn=1) (hq:acq=true) (hr:rel=false):paT ⟨op,dst,a,b,imm,loc,off,ix,sz,fn,acq,wk,rel,pr,su,to,ze⟩ lb=Z7 (([83,87,80]++[65])++szT 3 sz) [nmF (Z1 3) a,nmF (Z1 3) dst,atF (Z1 3) ⟨op,dst,a,b,imm,loc,off,ix,sz,fn,acq,wk,rel,pr,su,to,ze⟩]:=by
 subst e
 subst hq;subst hr
 show Z7 (swT _) _=_
 unfold swT
 dsimp only
 rw [if_neg hf]
 simp only [if_true,Bool.false_eq_true,if_false,List.append_nil]
theorem Zfo (e:op=6) (hf:¬ fn=1) (hq:acq=false) (hr:rel=true):paT ⟨op,dst,a,b,imm,loc,off,ix,sz,fn,acq,wk,rel,pr,su,to,ze⟩ lb=Z7 (([83,87,80]++[76])++szT 3 sz) [nmF (Z1 3) a,nmF (Z1 3) dst,atF (Z1 3) ⟨op,dst,a,b,imm,loc,off,ix,sz,fn,acq,wk,rel,pr,su,to,ze⟩]:=by
 subst e
 subst hq;subst hr
 show Z7 (swT _) _=_
 unfold swT
 dsimp only
 rw [if_neg hf]
 simp only [if_true,Bool.false_eq_true,if_false,List.append_nil]
theorem Zfp (e:op=6) (hf:¬ fn=1) (hq:acq=false) (hr:rel=false):paT ⟨op,dst,a,b,imm,loc,off,ix,sz,fn,acq,wk,rel,pr,su,to,ze⟩ lb=Z7 ([83,87,80]++szT 3 sz) [nmF (Z1 3) a,nmF (Z1 3) dst,atF (Z1 3) ⟨op,dst,a,b,imm,loc,off,ix,sz,fn,acq,wk,rel,pr,su,to,ze⟩]:=by
 subst e
 subst hq;subst hr
 show Z7 (swT _) _=_
 unfold swT
 dsimp only
 rw [if_neg hf]
 simp only [if_true,Bool.false_eq_true,if_false,List.append_nil]
theorem ZhM (e:op=7) (hp:pr=3) (hs:su=3):paT ⟨op,dst,a,b,imm,loc,off,ix,sz,fn,acq,wk,rel,pr,su,to,ze⟩ lb=Z7 [68,77,66] [[83,89]]:=by
 subst e
 subst hp;subst hs;rfl
theorem ZhN (e:op=7) (hp:pr=1) (hs:su=3):paT ⟨op,dst,a,b,imm,loc,off,ix,sz,fn,acq,wk,rel,pr,su,to,ze⟩ lb=Z7 [68,77,66] [[76,68]]:=by
 subst e
 subst hp;subst hs;rfl
theorem ZhO (e:op=7) (hp:pr=2) (hs:su=2):paT ⟨op,dst,a,b,imm,loc,off,ix,sz,fn,acq,wk,rel,pr,su,to,ze⟩ lb=Z7 [68,77,66] [[83,84]]:=by
 subst e
 subst hp;subst hs;rfl
theorem Z5p (e:op=7) (h:¬ (pr=3∧su=3)∧¬ (pr=1∧su=3)∧¬ (pr=2∧su=2)):paT ⟨op,dst,a,b,imm,loc,off,ix,sz,fn,acq,wk,rel,pr,su,to,ze⟩ lb=[]:=by
 subst e
 simp [paT,h.1,h.2.1,h.2.2]
theorem paT_8 (e:op=8)  : paT ⟨op,dst,a,b,imm,loc,off,ix,sz,fn,acq,wk,rel,pr,su,to,ze⟩ lb=[73,83,66]:=by
 subst e
 rfl
theorem paT_9z (e:op=9) (hz:ze=true):paT ⟨op,dst,a,b,imm,loc,off,ix,sz,fn,acq,wk,rel,pr,su,to,ze⟩ lb=Z7 [67,66,90] [nmF (Z1 3) a,lb]:=by
 subst e
 subst hz;rfl
theorem paT_9n (e:op=9) (hz:ze=false):paT ⟨op,dst,a,b,imm,loc,off,ix,sz,fn,acq,wk,rel,pr,su,to,ze⟩ lb=Z7 [67,66,78,90] [nmF (Z1 3) a,lb]:=by
 subst e
 subst hz;rfl
theorem paT_0 (h:op≠1∧op≠2∧op≠3∧op≠4∧op≠6∧op≠7∧op≠8∧op≠9∧(op=5→a < 0)):paT ⟨op,dst,a,b,imm,loc,off,ix,sz,fn,acq,wk,rel,pr,su,to,ze⟩ lb=[]:=by
 obtain ⟨h1,h2,h3,h4,h6,h7,h8,h9,h5⟩:=h
 unfold paT
 dsimp only
 rw [if_neg h1,if_neg h2,if_neg h3,if_neg h4]
 split
 ·rename_i e;exact if_pos (h5 e)
 first | rfl | rw [if_neg h6,if_neg h7,if_neg h8,if_neg h9]
end
end
end SX
end Go.Proofs.YtdddpbmcoimgdaaGreatDoor
