/- A part of SX: symbolic and concrete runs of the program, with contracts of functions; lemmas without further conditions. Shortened by a tool (mini.py). -/
import Derived.Test.YtdddpbmcoimgdaaGreatDoorChecked
import Derived.Test.YtdddpbmcoimgdaaGreatDoorJAB
import Derived.Test.YtdddpbmcoimgdaaGreatDoorJAC
import Derived.Test.YtdddpbmcoimgdaaGreatDoorJAF
import Derived.Test.YtdddpbmcoimgdaaGreatDoorJAA
set_option linter.unusedVariables false
set_option linter.unusedSimpArgs false
set_option linter.unusedSectionVars false
set_option maxRecDepth 100000
namespace Go.Proofs.YtdddpbmcoimgdaaGreatDoor
namespace SX
open Go Go.Proofs
noncomputable def ftree:FTr:=(.node 160 Tryz.f160 (.node 102 Tryz.f102 (.node 59 Tryz.f59 (.node 21 Tryz.f21 (.node 15 Tryz.f15 (.node 10 Tryz.f10 (.node 9 Tryz.f9 (.node 4 Tryz.f4 .leaf .leaf) .leaf) (.node 12 Tryz.f12 (.node 11 Tryz.f11 .leaf .leaf) .leaf)) (.node 19 Tryz.f19 (.node 18 Tryz.f18 (.node 17 Tryz.f17 .leaf .leaf) .leaf) (.node 20 Tryz.f20 .leaf .leaf))) (.node 46 Tryz.f46 (.node 43 Tryz.f43 (.node 42 Tryz.f42 (.node 41 Tryz.f41 .leaf .leaf) .leaf) (.node 45 Tryz.f45 (.node 44 Tryz.f44 .leaf .leaf) .leaf)) (.node 54 Tryz.f54 (.node 48 Tryz.f48 (.node 47 Tryz.f47 .leaf .leaf) .leaf) (.node 55 Tryz.f55 .leaf .leaf)))) (.node 92 Tryz.f92 (.node 65 Tryz.f65 (.node 62 Tryz.f62 (.node 61 Tryz.f61 (.node 60 Tryz.f60 .leaf .leaf) .leaf) (.node 64 Tryz.f64 (.node 63 Tryz.f63 .leaf .leaf) .leaf)) (.node 90 Tryz.f90 (.node 89 Tryz.f89 (.node 88 Tryz.f88 .leaf .leaf) .leaf) (.node 91 Tryz.f91 .leaf .leaf))) (.node 97 Tryz.f97 (.node 95 Tryz.f95 (.node 94 Tryz.f94 (.node 93 Tryz.f93 .leaf .leaf) .leaf) (.node 96 Tryz.f96 .leaf .leaf)) (.node 100 Tryz.f100 (.node 99 Tryz.f99 (.node 98 Tryz.f98 .leaf .leaf) .leaf) (.node 101 Tryz.f101 .leaf .leaf))))) (.node 134 Tryz.f134 (.node 124 Tryz.f124 (.node 119 Tryz.f119 (.node 105 Tryz.f105 (.node 104 Tryz.f104 (.node 103 Tryz.f103 .leaf .leaf) .leaf) (.node 111 Tryz.f111 (.node 110 Tryz.f110 .leaf .leaf) .leaf)) (.node 122 Tryz.f122 (.node 121 Tryz.f121 (.node 120 Tryz.f120 .leaf .leaf) .leaf) (.node 123 Tryz.f123 .leaf .leaf))) (.node 129 Tryz.f129 (.node 127 Tryz.f127 (.node 126 Tryz.f126 (.node 125 Tryz.f125 .leaf .leaf) .leaf) (.node 128 Tryz.f128 .leaf .leaf)) (.node 132 Tryz.f132 (.node 131 Tryz.f131 (.node 130 Tryz.f130 .leaf .leaf) .leaf) (.node 133 Tryz.f133 .leaf .leaf)))) (.node 150 Tryz.f150 (.node 145 Tryz.f145 (.node 142 Tryz.f142 (.node 141 Tryz.f141 (.node 135 Tryz.f135 .leaf .leaf) .leaf) (.node 144 Tryz.f144 (.node 143 Tryz.f143 .leaf .leaf) .leaf)) (.node 148 Tryz.f148 (.node 147 Tryz.f147 (.node 146 Tryz.f146 .leaf .leaf) .leaf) (.node 149 Tryz.f149 .leaf .leaf))) (.node 155 Tryz.f155 (.node 153 Tryz.f153 (.node 152 Tryz.f152 (.node 151 Tryz.f151 .leaf .leaf) .leaf) (.node 154 Tryz.f154 .leaf .leaf)) (.node 158 Tryz.f158 (.node 157 Tryz.f157 (.node 156 Tryz.f156 .leaf .leaf) .leaf) (.node 159 Tryz.f159 .leaf .leaf)))))) (.node 204 Tryz.f204 (.node 183 Tryz.f183 (.node 173 Tryz.f173 (.node 168 Tryz.f168 (.node 165 Tryz.f165 (.node 162 Tryz.f162 (.node 161 Tryz.f161 .leaf .leaf) .leaf) (.node 167 Tryz.f167 (.node 166 Tryz.f166 .leaf .leaf) .leaf)) (.node 171 Tryz.f171 (.node 170 Tryz.f170 (.node 169 Tryz.f169 .leaf .leaf) .leaf) (.node 172 Tryz.f172 .leaf .leaf))) (.node 178 Tryz.f178 (.node 176 Tryz.f176 (.node 175 Tryz.f175 (.node 174 Tryz.f174 .leaf .leaf) .leaf) (.node 177 Tryz.f177 .leaf .leaf)) (.node 181 Tryz.f181 (.node 180 Tryz.f180 (.node 179 Tryz.f179 .leaf .leaf) .leaf) (.node 182 Tryz.f182 .leaf .leaf)))) (.node 194 Tryz.f194 (.node 189 Tryz.f189 (.node 186 Tryz.f186 (.node 185 Tryz.f185 (.node 184 Tryz.f184 .leaf .leaf) .leaf) (.node 188 Tryz.f188 (.node 187 Tryz.f187 .leaf .leaf) .leaf)) (.node 192 Tryz.f192 (.node 191 Tryz.f191 (.node 190 Tryz.f190 .leaf .leaf) .leaf) (.node 193 Tryz.f193 .leaf .leaf))) (.node 199 Tryz.f199 (.node 197 Tryz.f197 (.node 196 Tryz.f196 (.node 195 Tryz.f195 .leaf .leaf) .leaf) (.node 198 Tryz.f198 .leaf .leaf)) (.node 202 Tryz.f202 (.node 201 Tryz.f201 (.node 200 Tryz.f200 .leaf .leaf) .leaf) (.node 203 Tryz.f203 .leaf .leaf))))) (.node 225 Tryz.f225 (.node 215 Tryz.f215 (.node 210 Tryz.f210 (.node 207 Tryz.f207 (.node 206 Tryz.f206 (.node 205 Tryz.f205 .leaf .leaf) .leaf) (.node 209 Tryz.f209 (.node 208 Tryz.f208 .leaf .leaf) .leaf)) (.node 213 Tryz.f213 (.node 212 Tryz.f212 (.node 211 Tryz.f211 .leaf .leaf) .leaf) (.node 214 Tryz.f214 .leaf .leaf))) (.node 220 Tryz.f220 (.node 218 Tryz.f218 (.node 217 Tryz.f217 (.node 216 Tryz.f216 .leaf .leaf) .leaf) (.node 219 Tryz.f219 .leaf .leaf)) (.node 223 Tryz.f223 (.node 222 Tryz.f222 (.node 221 Tryz.f221 .leaf .leaf) .leaf) (.node 224 Tryz.f224 .leaf .leaf)))) (.node 236 Tryz.f236 (.node 231 Tryz.f231 (.node 228 Tryz.f228 (.node 227 Tryz.f227 (.node 226 Tryz.f226 .leaf .leaf) .leaf) (.node 230 Tryz.f230 (.node 229 Tryz.f229 .leaf .leaf) .leaf)) (.node 234 Tryz.f234 (.node 233 Tryz.f233 (.node 232 Tryz.f232 .leaf .leaf) .leaf) (.node 235 Tryz.f235 .leaf .leaf))) (.node 241 Tryz.f241 (.node 239 Tryz.f239 (.node 238 Tryz.f238 (.node 237 Tryz.f237 .leaf .leaf) .leaf) (.node 240 Tryz.f240 .leaf .leaf)) (.node 244 Tryz.f244 (.node 243 Tryz.f243 (.node 242 Tryz.f242 .leaf .leaf) .leaf) (.node 245 Tryz.f245 .leaf .leaf)))))))
noncomputable def FT:FuncId→Option Func:=ftree.get
theorem fokX {P:Program} {k:Nat} {f:Func} (h1:P.funcs[k]?=some f:=by kernel_rfl) (h2:(f.name == "runtime.NumGoroutine")=false:=by kernel_rfl):FnOk P k f:=⟨h1,h2⟩
theorem ftOk:FtOk Tryz.prog FT:=ZaV ⟨fokX,⟨fokX,⟨fokX,⟨fokX,⟨fokX,⟨fokX,⟨fokX,⟨fokX,trivial,trivial⟩,trivial⟩,⟨fokX,⟨fokX,trivial,trivial⟩,trivial⟩⟩,⟨fokX,⟨fokX,⟨fokX,trivial,trivial⟩,trivial⟩,⟨fokX,trivial,trivial⟩⟩⟩,⟨fokX,⟨fokX,⟨fokX,⟨fokX,trivial,trivial⟩,trivial⟩,⟨fokX,⟨fokX,trivial,trivial⟩,trivial⟩⟩,⟨fokX,⟨fokX,⟨fokX,trivial,trivial⟩,trivial⟩,⟨fokX,trivial,trivial⟩⟩⟩⟩,⟨fokX,⟨fokX,⟨fokX,⟨fokX,⟨fokX,trivial,trivial⟩,trivial⟩,⟨fokX,⟨fokX,trivial,trivial⟩,trivial⟩⟩,⟨fokX,⟨fokX,⟨fokX,trivial,trivial⟩,trivial⟩,⟨fokX,trivial,trivial⟩⟩⟩,⟨fokX,⟨fokX,⟨fokX,⟨fokX,trivial,trivial⟩,trivial⟩,⟨fokX,trivial,trivial⟩⟩,⟨fokX,⟨fokX,⟨fokX,trivial,trivial⟩,trivial⟩,⟨fokX,trivial,trivial⟩⟩⟩⟩⟩,⟨fokX,⟨fokX,⟨fokX,⟨fokX,⟨fokX,⟨fokX,trivial,trivial⟩,trivial⟩,⟨fokX,⟨fokX,trivial,trivial⟩,trivial⟩⟩,⟨fokX,⟨fokX,⟨fokX,trivial,trivial⟩,trivial⟩,⟨fokX,trivial,trivial⟩⟩⟩,⟨fokX,⟨fokX,⟨fokX,⟨fokX,trivial,trivial⟩,trivial⟩,⟨fokX,trivial,trivial⟩⟩,⟨fokX,⟨fokX,⟨fokX,trivial,trivial⟩,trivial⟩,⟨fokX,trivial,trivial⟩⟩⟩⟩,⟨fokX,⟨fokX,⟨fokX,⟨fokX,⟨fokX,trivial,trivial⟩,trivial⟩,⟨fokX,⟨fokX,trivial,trivial⟩,trivial⟩⟩,⟨fokX,⟨fokX,⟨fokX,trivial,trivial⟩,trivial⟩,⟨fokX,trivial,trivial⟩⟩⟩,⟨fokX,⟨fokX,⟨fokX,⟨fokX,trivial,trivial⟩,trivial⟩,⟨fokX,trivial,trivial⟩⟩,⟨fokX,⟨fokX,⟨fokX,trivial,trivial⟩,trivial⟩,⟨fokX,trivial,trivial⟩⟩⟩⟩⟩⟩,⟨fokX,⟨fokX,⟨fokX,⟨fokX,⟨fokX,⟨fokX,⟨fokX,trivial,trivial⟩,trivial⟩,⟨fokX,⟨fokX,trivial,trivial⟩,trivial⟩⟩,⟨fokX,⟨fokX,⟨fokX,trivial,trivial⟩,trivial⟩,⟨fokX,trivial,trivial⟩⟩⟩,⟨fokX,⟨fokX,⟨fokX,⟨fokX,trivial,trivial⟩,trivial⟩,⟨fokX,trivial,trivial⟩⟩,⟨fokX,⟨fokX,⟨fokX,trivial,trivial⟩,trivial⟩,⟨fokX,trivial,trivial⟩⟩⟩⟩,⟨fokX,⟨fokX,⟨fokX,⟨fokX,⟨fokX,trivial,trivial⟩,trivial⟩,⟨fokX,⟨fokX,trivial,trivial⟩,trivial⟩⟩,⟨fokX,⟨fokX,⟨fokX,trivial,trivial⟩,trivial⟩,⟨fokX,trivial,trivial⟩⟩⟩,⟨fokX,⟨fokX,⟨fokX,⟨fokX,trivial,trivial⟩,trivial⟩,⟨fokX,trivial,trivial⟩⟩,⟨fokX,⟨fokX,⟨fokX,trivial,trivial⟩,trivial⟩,⟨fokX,trivial,trivial⟩⟩⟩⟩⟩,⟨fokX,⟨fokX,⟨fokX,⟨fokX,⟨fokX,⟨fokX,trivial,trivial⟩,trivial⟩,⟨fokX,⟨fokX,trivial,trivial⟩,trivial⟩⟩,⟨fokX,⟨fokX,⟨fokX,trivial,trivial⟩,trivial⟩,⟨fokX,trivial,trivial⟩⟩⟩,⟨fokX,⟨fokX,⟨fokX,⟨fokX,trivial,trivial⟩,trivial⟩,⟨fokX,trivial,trivial⟩⟩,⟨fokX,⟨fokX,⟨fokX,trivial,trivial⟩,trivial⟩,⟨fokX,trivial,trivial⟩⟩⟩⟩,⟨fokX,⟨fokX,⟨fokX,⟨fokX,⟨fokX,trivial,trivial⟩,trivial⟩,⟨fokX,⟨fokX,trivial,trivial⟩,trivial⟩⟩,⟨fokX,⟨fokX,⟨fokX,trivial,trivial⟩,trivial⟩,⟨fokX,trivial,trivial⟩⟩⟩,⟨fokX,⟨fokX,⟨fokX,⟨fokX,trivial,trivial⟩,trivial⟩,⟨fokX,trivial,trivial⟩⟩,⟨fokX,⟨fokX,⟨fokX,trivial,trivial⟩,trivial⟩,⟨fokX,trivial,trivial⟩⟩⟩⟩⟩⟩⟩
theorem mixed:Tryz.prog.follows .mixedOrders=true:=by kernel_rfl
theorem Z1r {x y:Int} (h:x=y):SV.i .i64 x=SV.i .i64 y:=congrArg (SV.i .i64) h
theorem ZfY (c:Cn):CtrV Tryz.prog 104 [.agg (cenc c)] (.i .i64 (Zu c)):=by
 refine Z8 Z5 (fn:=Tryz.f104) Z Z Z Z Z Z ?_
 refine ⟨fun h1=>⟨fun h2=>?_,fun h2=>?_⟩,fun h1=>⟨fun h2=>⟨fun h3=>?_,fun h3=>?_⟩,fun h2=>⟨fun h3=>⟨fun h4=>?_,fun h4=>?_⟩,fun h3=>⟨fun h4=>⟨fun h5=>⟨fun h6=>?_,fun h6=>?_⟩,fun h5=>Bool.noConfusion (h4.symm.trans h5)⟩,fun h4=>⟨fun h5=>⟨fun h6=>?_,fun h6=>?_⟩,fun h5=>?_⟩⟩⟩⟩⟩
 ·refine Z1r (y:=Zu c) ?_
  simp at h1 h2;unfold Zu;simp [h1,h2]
 ·refine Z1r (y:=Zu c) ?_
  simp at h1 h2;unfold Zu;simp [h1];intros;omega
 ·refine Z1r (y:=Zu c) ?_
  simp at h1 h2 h3;unfold Zu;simp [h1,h2,h3]
 ·refine Z1r (y:=Zu c) ?_
  simp at h1 h2 h3;unfold Zu;simp [h1,h2];intros;omega
 ·refine Z1r (y:=Zu c) ?_
  simp at h1 h2 h3 h4;unfold Zu;simp [h1,h2,h3,h4]
 ·refine Z1r (y:=Zu c) ?_
  simp at h1 h2 h3 h4;unfold Zu;simp [h1,h2,h3];intros;omega
 ·refine Z1r (y:=Zu c) ?_
  simp at h1 h2 h3 h4 h6;unfold Zu;simp [h1,h2,h3,h4,h6]
 ·refine Z1r (y:=Zu c) ?_
  simp at h1 h2 h3 h4 h6;unfold Zu;simp [h1,h2,h3,h4];intros;omega
 ·refine Z1r (y:=Zu c) ?_
  simp at h1 h2 h3 h4 h5 h6;unfold Zu;simp [h1,h2,h3,h4,h5,h6]
 ·refine Z1r (y:=Zu c) ?_
  simp at h1 h2 h3 h4 h5 h6;unfold Zu;simp [h1,h2,h3,h4,h5];intros;omega
 ·refine Z1r (y:=Zu c) ?_
  simp at h1 h2 h3 h4 h5;unfold Zu;simp [h1,h2,h3,h4,h5]
theorem Z8S {x y:Bool} (h:x=y):SV.b x=SV.b y:=congrArg SV.b h
theorem Z73 {cs:List Cn} (h:¬ Z8n cs):ZP cs=false:=by unfold ZP;simp [h]
theorem Zeo {cs:List Cn} (h1:(decide ((cs.length:Int) < 1)||decide ((32:Int) < cs.length))=true):ZP cs=false:=by
 refine Z73 fun h=>?_
 have h2:=h.1
 simp at h1
 omega
theorem Zep {cs:List Cn} {i:Nat} (hi:i < cs.length) (h:Zu (cs.getD i cn0) < 0∨nAt cs i < Zu (cs.getD i cn0)):ZP cs=false:=by
 refine Z73 fun hr=>?_
 have:=hr.2.1 i hi
 omega
theorem Zeq {cs:List Cn} (h0:1≤cs.length∧cs.length≤32) (hk:okAt cs cs.length):decide (nAt cs cs.length=1)=ZP cs:=by
 unfold ZP Z8n
 rw [Bool.eq_iff_iff]
 simp only [decide_eq_true_eq]
 exact ⟨fun h=>⟨h0,hk,h⟩,fun h=>h.2.2⟩
theorem Z7n (cs:List Cn) (a:Option Addr) (cap:Nat):CtrV Tryz.prog 46 [.imm Cn cn0 5 cenc cs a cap] (.b (ZP cs)):=by
 refine Z8 Z5 (fn:=Tryz.f46) Z Z Z Z Z Z ?_
 refine ⟨fun h1=>Z8S (Zeo h1).symm,fun h1=>?_⟩
 have hl:1≤cs.length∧cs.length≤32:=by
  have h1:(decide ((cs.length:Int) < 1)||decide ((32:Int) < cs.length))=false:=h1
  simp at h1;omega
 refine WpC.loop Z5 (β:=Nat) (fun i=>i≤cs.length∧okAt cs i) (fun i=>[(17,.i .i64 i),(3,.i .i64 (nAt cs i))]) (fun _=>[]) (fun i=>cs.length - i) 0 34359607404 ⟨Nat.zero_le _,fun j hj=>by omega⟩ ?_ ?_
 ·exact ⟨rfl,⟨⟨rfl,rfl,rfl⟩,⟨rfl,rfl,rfl⟩,trivial⟩,⟨[],rfl⟩,trivial,rfl⟩
 ·rintro i ⟨hi,ho⟩
  have hb:=Zen ho
  have hp:=Zel (cs.getD i cn0)
  refine ⟨fun h2=>?_,fun h2=>?_⟩
  ·have h2:i < cs.length:=by simpa using h2
   refine ⟨fun _=>⟨by omega,by omega⟩,?_⟩
   refine Z4 Z Z Z Z Z Z Z (fun _=>ZfY (cs.getD i cn0)) ?_
   refine ⟨fun h3=>?_,fun h3=>?_⟩
   ·refine Z8S (Zep h2 ?_).symm
    have h3:(decide (Zu (cs.getD i cn0) < 0)||decide (nAt cs i < Zu (cs.getD i cn0)))=true:=h3
    simpa only [Bool.or_eq_true,decide_eq_true_eq] using h3
   ·have h3:(decide (Zu (cs.getD i cn0) < 0)||decide (nAt cs i < Zu (cs.getD i cn0)))=false:=h3
    simp only [Bool.or_eq_false_iff,decide_eq_false_iff_not] at h3
    refine ⟨i+1,⟨h2,Zem ho (by omega) (by omega)⟩,by omega,rfl,⟨⟨?_,rfl,rfl⟩,⟨?_,rfl,rfl⟩,trivial⟩,⟨_,rfl⟩,trivial,rfl⟩
    ·show SV.i .i64 (IntKind.i64.wrap ((i:Int)+1))=SV.i .i64 ((i+1:Nat):Int)
     rw [Zbh (by omega) (by omega)];rfl
    ·show SV.i .i64 (IntKind.i64.wrap (nAt cs i+IntKind.i64.wrap (1 - Zu (cs.getD i cn0))))=SV.i .i64 (nAt cs i+(1 - Zu (cs.getD i cn0)))
     rw [Zbh (x:=1 - Zu (cs.getD i cn0)) (by omega) (by omega),Zbh (by omega) (by omega)]
  ·have h2:i=cs.length:=by simp at h2;omega
   subst h2
   exact Z8S (Zeq hl ho)
section
section
variable {P:Program} {T:Tb}
theorem Ze (hT:TabOk P T) {f:FuncId} {fn:Func} {c:Code} {n:Nat} (hf:P.funcs[f]?=some fn) (hb:fn.body=some c) (hn:fn.ntmps=n) (hnm:(fn.name == "runtime.NumGoroutine")=false) {args:List SV} {H:List SB} {r:SV}
 (hl:Nat.ble args.length n=true) (hr:Bnd H.length r) (hH:BndH H.length H) (h:sx P T c (retK T fn.results.toList (fun r' h=>r'=r∧∃ X,h=H++X)) ⟨args++List.replicate (n - args.length) .dead,H⟩):Ctr P f args H (fun r' h=>r'=r∧h=H):=by
 have h1:=Ctr.enter hT hf hb hn hnm hl h
 exact h1.trim ZK fun r' H1 ⟨e,X,hX⟩=>⟨H,X,hX,Nat.le_refl _,hH,by rw [e];exact hr,e,rfl⟩
end
end
theorem Zh5 (c:Cn) (m:Mem):OkL m [] (cenc c):=by simp [cenc,OkL,Ok,isUnit]
theorem Zeu {cs:List Cn} (h:ZP cs=true):Z8n cs:=by unfold ZP at h;simpa using h
section
section
variable {P:Program} {T:Tb}
theorem ZE (hT:TabOk P T) {f:FuncId} {fn:Func} {c:Code} {n:Nat} (hf:P.funcs[f]?=some fn) (hb:fn.body=some c) (hn:fn.ntmps=n) (hnm:(fn.name == "runtime.NumGoroutine")=false) {args:List SV} {H H':List SB} {r:SV}
 (hl:Nat.ble args.length n=true) (hr:Bnd H'.length r) (hH:BndH H'.length H') (hle:H.length≤H'.length) (h:sx P T c (retK T fn.results.toList (fun r' h=>r'=r∧∃ X,h=H'++X)) ⟨args++List.replicate (n - args.length) .dead,H⟩):Ctr P f args H (fun r' h=>r'=r∧h=H'):=by
 have h1:=Ctr.enter hT hf hb hn hnm hl h
 exact h1.trim ZK fun r' H1 ⟨e,X,hX⟩=>⟨H',X,hX,hle,hH,by rw [e];exact hr,e,rfl⟩
variable {ops:Array Oper} {o:Oper}
theorem Z1x {K:St→Prop} {t:List SV} {h:List SB} {c:Call} (hop:o.op=.call c) {fo:Operand} (hcal:c.callee=.value fo) (hg:Zt ops t o=some []) {f:FuncId} {fst caps:List SV} (hf:calB (evG [] t fo)=some (f,fst,caps))
 (ks:List Nat) {ρ:Nat→Nat} (hρ:rho ks h.length=ρ) {args0:List SV} {H0 H1:List SB} {r0:SV} (hc:Ctr P f args0 H0 (fun r h=>r=r0∧h=H1))
 (ha:fst++(c.args.toList.map (evG [] t)++caps)=renL ρ args0) (hl:(c.args.toList.map (evG [] t)).all live=true) (hnd:Z1U ks=true) (hks:ks.length=H0.length) (hH:Lent ρ h H0 0) (hlen:H1.length=H0.length)
 (hK:Z4B h (zipB ρ H1 0) fun h2=>putK t h2 o.dst (ren ρ r0) K):OpC P T ops o K ⟨t,h⟩:=by
 refine Z1k hop hcal hg hf ks 0 (ns:=[]) rfl (h1:=h) (by simp) (ρ:=ρ) (by rw [List.append_nil];exact hρ) hc ha hl (by rw [List.append_nil];exact hnd) hks hH rfl (fun r H' hk=>?_) ?_
 ·rw [hk.2,List.append_nil,hlen,hks];exact ⟨Nat.le_refl _,Nat.le_refl _⟩
 ·rintro r H' ⟨rfl,rfl⟩
  exact hK
end
section
variable {P:Program} {ops:Array Oper} {o:Oper}
end
end
section
section
variable {α:Type} {d:α} {n:Nat} {enc:α→List SV} {xs:List α}
theorem ZbP {E C m t h a w} (hr:Rep E C m ⟨t,h⟩ a w) {k N:Nat} {ty:TypeId} {segs:List SV} (hk:h[k]?=some (.mem ty segs 1 0)) (hc:∀ E,cellsL E segs=cellsL E [.arr N α d n enc xs]) (hN:xs.length=N) (hw:∀ x,wdL (enc x)=n) (ho:∀ m V,OkL m V segs→∀ j,j < N→OkL m [] (enc (xs.getD j d))) :
 ∃ m' b c,Ext E m (vers h) E m' (vers (h.set k (.gone 1)))∧Rep E C m' ⟨t,h.set k (.gone 1)⟩ a w∧E k 1=some (b,c)∧(∃ arr ty fr,m' b=some (.cells arr ty fr)∧∀ j,j < N→∀ u v,(cellsL E0 (enc (xs.getD j d)))[u]?=some v→arr[j * n+u]?=some v)∧∀ j,j < N→OkL m' [] (enc (xs.getD j d)):=by
 have hvs:vers (h.set k (.gone 1))=vers h:=ZJ (B':=.gone 1) hk rfl
 have hkl:k < h.length:=(List.getElem?_eq_some_iff.1 hk).1
 have hgk:(h.set k (.gone 1))[k]?=some (.gone 1):=by simp [List.getElem?_set,hkl]
 have hge:∀ j,j≠k→(h.set k (.gone 1))[j]?=h[j]?:=fun j hj=>List.getElem?_set_ne (Ne.symm hj)
 have hblk:∀ j b,Zk E (h.set k (.gone 1)) j b→j≠k∧Zk E h j b:=by
  rintro j b ⟨B',hB',hb⟩
  by_cases hj:j=k
  ·subst hj;rw [hgk] at hB';cases hB';exact hb.elim
  ·rw [hge j hj] at hB';exact ⟨hj,B',hB',hb⟩
 obtain ⟨_,b,c,e1,e2,o1⟩:=hr.rel.bl k _ hk
 have hat:Zk E h k b:=⟨_,hk,by decide,c,e1⟩
 obtain ⟨s1,s2⟩:=hr.rel.sp k b hat
 have hm1:∀ b' o,m b'=some o→(fun b'=>if b'=b then some (.cells (cellsL E segs).toArray ty (0,0)) else m b') b'=some o:=fun b' o ho=>by
  have:b'≠b:=fun e=>by subst e;rw [s1] at ho;cases ho
  simp only [if_neg this];exact ho
 have hx:Ext E m (vers h) E (fun b'=>if b'=b then some (.cells (cellsL E segs).toArray ty (0,0)) else m b') (vers (h.set k (.gone 1))):=⟨hm1,fun _ _ h=>by rw [hvs];exact h,fun _ _ _=>rfl⟩
 have oE:=ho _ _ o1
 have oA:Ok m [] (.arr N α d n enc xs):=by simp only [Ok];exact ⟨hN,hw,oE⟩
 refine ⟨_,b,c,hx,hr.up hx ?_,e1,⟨_,_,_,if_pos rfl,?_⟩,fun j hj=>(oE j hj).mono hm1 _ _ _ (fun _ _ h=>h)⟩
 ·refine ⟨hr.rel.os,hr.rel.tape,hr.rel.output,?_,hr.rel.fr,⟨?_,hr.rel.mf.2.mono hm1⟩,?_,?_,?_,?_⟩
  ·intro b' o ho
   by_cases hb:b'=b
   ·subst hb;simp only [if_true] at ho;cases ho;exact e2
   ·simp only [if_neg hb] at ho;exact hr.rel.im b' o ho
  ·intro b' o ho
   have:b'≠b:=fun e=>by subst e;rw [s2] at ho;cases ho
   simp only [if_neg this];exact hr.rel.mf.1 b' o ho
  ·intro j B' hB'
   by_cases hj:j=k
   ·subst hj;rw [hgk] at hB';cases hB';trivial
   ·rw [hge j hj] at hB'
    exact (hr.rel.bl j B' hB').mono hx (fun _ _=>rfl) (fun _ _=>rfl)
  ·rw [hvs];exact hr.rel.nn
  ·intro j b' hb
   obtain ⟨h1,h2⟩:=hblk j b' hb
   have:b'≠b:=fun e=>by subst e;exact h1 (hr.rel.inj j k _ h2 hat)
   simp only [if_neg this];exact hr.rel.sp j b' h2
  ·intro i j b' h1 h2;exact hr.rel.inj i j b' (hblk i b' h1).2 (hblk j b' h2).2
 ·intro j hj u v hu
  have hst:cellsL E (enc (xs.getD j d))=cellsL E0 (enc (xs.getD j d)):=cellsL_stable (m:=m) (V:=[]) (fun k v hv=>(Z1I hv).elim) _ (oE j hj)
  have h1:=Z37 (E:=E) oA hj (u:=u) (c:=v) (by rw [hst];exact hu)
  simp only [List.getElem?_toArray]
  rw [hc]
  simp only [cellsL,List.append_nil]
  exact h1
variable {P:Program} {T:Tb} {ops:Array Oper} {o:Oper}
theorem Z3j {K:St→Prop} {t:List SV} {h:List SB} {k N cap:Nat} {ty:TypeId} {segs:List SV} (j:Nat) (d:α) (enc:α→List SV) (xs:List α) (hk:h[k]?=some (.mem ty segs 1 0)) (hj:t[j]?=some (.sl k 1 0 N (some cap) 0)) (hN:xs.length=N) (hcap:N≤cap) (hw:∀ x,wdL (enc x)=n) (hc:∀ E,cellsL E segs=cellsL E [.arr N α d n enc xs]) (ho:∀ m V,OkL m V segs→∀ j,j < N→OkL m [] (enc (xs.getD j d)))
 (hK:∀ ad,OpC P T ops o K ⟨t.set j (.imm α d n enc xs (some ad) cap),h.set k (.gone 1)⟩):OpC P T ops o K ⟨t,h⟩:=by
 refine OpC.from fun C E m a w hr=>?_
 obtain ⟨m',b,c,h1,h2,h3,⟨arr,ty',fr,h4,h5⟩,h6⟩:=ZbP hr hk hc hN hw ho
 have hlt:j < t.length:=(List.getElem?_eq_some_iff.1 hj).1
 refine ⟨E,m',_,hK ⟨b,0,none⟩,h1,?_,?_,h2.df,h2.rel⟩
 ·simpa using h2.sz
 ·intro q x v hx hv
  by_cases hq:q=j
  ·subst hq
   rw [List.getElem?_set_self hlt] at hx
   cases hx
   have h0:=h2.sl q _ v hj hv
   refine ⟨?_,?_⟩
   ·simp only [Ok]
    refine ⟨by omega,fun hne=>⟨_,arr,ty',fr,rfl,rfl,h4,fun p hp u v hu=>?_⟩,hw,fun p hp=>h6 p (by omega)⟩
    have:=h5 p (by omega) u v hu
    simpa using this
   ·rw [h0.2]
    simp only [den,wrapV,cells,List.headD_cons,h3,hN,Option.getD_some]
    simp
  ·rw [List.getElem?_set_ne (Ne.symm hq)] at hx
   exact (h2.sl q x v hx hv).set_plain hj ⟨fun b=>by simp,fun q b=>by simp⟩
end
end
theorem Z51 {X:List Value→World→(Value→World→Prop)→Prop} (hX:Z2A X) {A B:List SV} {α:Type} {d:α} {n:Nat} {enc:α→List SV} {xs:List α} {k ver off len:Nat} {cap:Option Nat} {dc:Nat} {H:List SB} {ty:TypeId} {segs:List SV} {gw:Nat} {K:SV→List SB→Prop}
 (hk:H[k]?=some (.mem ty segs ver gw)) (hlen:xs.length=len) (hw:∀ x,wdL (enc x)=n) (hok:∀ x m,OkL m [] (enc x))
 (hc:∀ E j,j < len→∀ u c,(cellsL E0 (enc (xs.getD j d)))[u]?=some c→(cellsL E segs)[off+j * n+u]?=some c)
 (hcap:match cap with | some c=>len≤c | none=>n=gw∧0 < gw∧off=dc * n∧off+len * n≤wdL segs)
 (h:∀ a cap,Cp X (A++.imm α d n enc xs a cap::B) (H.set k (.gone ver)) K) :
 Cp X (A++.sl k ver off len cap dc::B) H K:=by
 refine ⟨fun C E m w hr ha=>?_⟩
 have hvs:vers (H.set k (.gone ver))=vers H:=ZJ (B':=.gone ver) hk rfl
 have hkl:k < H.length:=(List.getElem?_eq_some_iff.1 hk).1
 have hgk:(H.set k (.gone ver))[k]?=some (.gone ver):=by simp [List.getElem?_set,hkl]
 have hge:∀ j,j≠k→(H.set k (.gone ver))[j]?=H[j]?:=fun j hj=>List.getElem?_set_ne (Ne.symm hj)
 obtain ⟨haA,haS⟩:=Z9l ha
 have haS':=haS
 simp only [OkA,Ok] at haS
 obtain ⟨⟨_,_,hv0⟩,haB⟩:=haS
 have hblk:∀ j b,Zk E (H.set k (.gone ver)) j b→j≠k∧Zk E H j b:=by
  rintro j b ⟨B',hB',hb⟩
  by_cases hj:j=k
  ·subst hj;rw [hgk] at hB';cases hB';exact hb.elim
  ·rw [hge j hj] at hB';exact ⟨hj,B',hB',hb⟩
 have hbl:=hr.bl k _ hk
 have key:∃ (m1:Mem) (a:Option Addr) (cp:Nat),(∀ b o,m b=some o→m1 b=some o)∧den E (.sl k ver off len cap dc)=den E (.imm α d n enc xs a cp)∧Ok m1 (vers H) (.imm α d n enc xs a cp) ∧
  Rel E C m1 (H.set k (.gone ver)) w∧(∀ b,Zk E H k b→∃ o,m1 b=some o∧w.heap[b]?=some o)∧(∀ b,m1 b=m b∨Zk E H k b):=by
  by_cases hz:ver=0
  ·have hxs:xs=[]:=by have:=hv0 hz;exact List.eq_nil_of_length_eq_zero (by omega)
   have hE:E k ver=none:=by
    cases gw with
    | zero=>have:=hbl.1;omega
    | succ g=>have:=(hbl.2.1 hz).2;rw [hz];exact this
   refine ⟨m,none,cap.getD 0,fun _ _ h=>h,?_,?_,?_,?_,fun b=>.inl rfl⟩
   ·simp [den,wrapV,cells,hE,hlen]
   ·simp only [Ok]
    exact ⟨by simp [hxs],fun h=>absurd hxs h,hw,fun j _=>hok _ _⟩
   ·refine ⟨hr.os,hr.tape,hr.output,hr.im,hr.fr,hr.mf,?_,?_,?_,?_⟩
    ·intro j B' hB'
     by_cases hj:j=k
     ·subst hj;rw [hgk] at hB';cases hB';trivial
     ·rw [hge j hj] at hB';rw [hvs];exact hr.bl j B' hB'
    ·rw [hvs];exact hr.nn
    ·intro j b hb;exact hr.sp j b (hblk j b hb).2
    ·intro i j b h1 h2;exact hr.inj i j b (hblk i b h1).2 (hblk j b h2).2
   ·rintro b ⟨B',hB',hb⟩
    rw [hk] at hB';cases hB'
    exact absurd hz hb.1
  ·have hh:∃ b c arr,E k ver=some (b,c)∧w.heap[b]?=some (.cells arr ty (0,0))∧(∃ spare,arr=(cellsL E segs++spare).toArray∧(gw≠0→(cellsL E segs).length+spare.length=c * gw))∧OkL m (vers H) segs:=by
    cases gw with
    | zero=>obtain ⟨_,b,c,e1,e2,e3⟩:=hbl;exact ⟨b,c,_,e1,e2,⟨[],by simp,fun h=>absurd rfl h⟩,e3⟩
    | succ g=>obtain ⟨e3,_,e4⟩:=hbl;obtain ⟨b,c,sp,e1,e2,e5,_⟩:=e4 hz;exact ⟨b,c,_,e1,e2,⟨sp,rfl,fun _=>e5⟩,e3⟩
   obtain ⟨b,c,arr,e1,e2,⟨sp,rfl,e5⟩,e3⟩:=hh
   have hat:Zk E H k b:=⟨_,hk,hz,c,e1⟩
   obtain ⟨s1,s2⟩:=hr.sp k b hat
   have hlc:xs.length≤cap.getD (c - dc):=by
    cases cap with
    | some c'=>simp only [Option.getD_some];rw [hlen];exact hcap
    | none=>
      obtain ⟨c1,c2,c3,c4⟩:=hcap
      simp only [Option.getD_none]
      have h5:=e5 (by omega)
      have h6:=length_cellsL E segs _ e3
      have h7:(dc+len) * n≤c * n:=by
       rw [Nat.add_mul,← c3]
       calc off+len * n≤wdL segs:=c4
        _≤c * gw:=by omega
        _=c * n:=by rw [c1]
      have:=Nat.le_of_mul_le_mul_right h7 (by omega)
      omega
   refine ⟨fun b'=>if b'=b then some (.cells (cellsL E segs++sp).toArray ty (0,0)) else m b',some ⟨b,if cap=none∧len=0∧c=dc then 0 else off,none⟩,cap.getD (c - dc),?_,?_,?_,?_,?_,?_⟩
   ·intro b' o ho
    have:b'≠b:=fun e=>by subst e;rw [s1] at ho;cases ho
    simp only [if_neg this];exact ho
   ·simp [den,wrapV,cells,e1,hlen]
   ·simp only [Ok]
    refine ⟨hlc,fun hne=>⟨_,_,ty,(0,0),rfl,rfl,by simp;rfl,fun j hj u v hu=>?_⟩,hw,fun j _=>hok _ _⟩
    have h1:=hc E j (by omega) u v hu
    have hne:(if cap=none∧len=0∧c=dc then 0 else off)=off:=if_neg fun h=>by omega
    simp only [List.getElem?_toArray,hne]
    have h2:off+j * n+u < (cellsL E segs).length:=(List.getElem?_eq_some_iff.1 h1).1
    rw [List.getElem?_append_left h2];exact h1
   ·refine ⟨hr.os,hr.tape,hr.output,?_,hr.fr,⟨?_,hr.mf.2.mono fun b' o ho=>?_⟩,?_,?_,?_,?_⟩
    ·intro b' o ho
     by_cases hb:b'=b
     ·subst hb;rw [if_pos rfl] at ho;cases ho;exact e2
     ·rw [if_neg hb] at ho;exact hr.im b' o ho
    ·intro b' o ho
     have:b'≠b:=fun e=>by subst e;rw [s2] at ho;cases ho
     simp only [if_neg this];exact hr.mf.1 b' o ho
    ·have:b'≠b:=fun e=>by subst e;rw [s1] at ho;cases ho
     simp only [if_neg this];exact ho
    ·intro j B' hB'
     by_cases hj:j=k
     ·subst hj;rw [hgk] at hB';cases hB';trivial
     ·rw [hge j hj] at hB';rw [hvs]
      exact (hr.bl j B' hB').mono ⟨fun b' o ho=>by
       have:b'≠b:=fun e=>by subst e;rw [s1] at ho;cases ho
       simp only [if_neg this];exact ho,fun _ _ h=>h,fun _ _ _=>rfl⟩ (fun _ _=>rfl) (fun _ _=>rfl)
    ·rw [hvs];exact hr.nn
    ·intro j b' hb
     obtain ⟨h1,h2⟩:=hblk j b' hb
     have:b'≠b:=fun e=>by subst e;exact h1 (hr.inj j k _ h2 hat)
     simp only [if_neg this];exact hr.sp j b' h2
    ·intro i j b' h1 h2;exact hr.inj i j b' (hblk i b' h1).2 (hblk j b' h2).2
   ·rintro b' ⟨B',hB',hb⟩
    rw [hk] at hB';cases hB'
    obtain ⟨_,c2,hb⟩:=hb
    rw [e1] at hb;cases hb
    exact ⟨_,by simp,e2⟩
   ·intro b'
    by_cases hb:b'=b
    ·right;subst hb;exact hat
    ·left;simp only [if_neg hb]
 obtain ⟨m1,a,cp,k1,k2,k3,k4,k5,k6⟩:=key
 have hargs:denL E (A++.sl k ver off len cap dc::B)=denL E (A++.imm α d n enc xs a cp::B):=by
  rw [Z3y,Z3y]
  congr 1
  simp only [denL]
  congr 1
 rw [hargs]
 have haX:OkA m1 (vers (H.set k (.gone ver))) (A++.imm α d n enc xs a cp::B):=by
  rw [hvs]
  refine Z3U (OkA.mono k1 A _ _ (fun _ _ h=>h) haA) ?_
  simp only [OkA]
  exact ⟨⟨rfl,k3⟩,OkA.mono k1 B _ _ (fun _ _ h=>h) haB⟩
 refine hX _ _ _ _ ((h a cp).out C E m1 w k4 haX) ?_
 rintro v w' ⟨r,H',E',m2,rfl,hKr,hok',hx,hrel⟩
 rw [hvs] at hx
 exact ⟨r,H',E',m2,rfl,hKr,hok',⟨fun b o ho=>hx.mm b o (k1 b o ho),hx.vv,hx.ee⟩,hrel⟩
section
def After (Q:St→Prop) (S:St):Prop:=∀ C E m a w,Rep E C m S a w→∃ E' m' S',Q S'∧Ext E m (vers S.h) E' m' (vers S'.h)∧Rep E' C m' S' a w
theorem After.pure {Q:St→Prop} {S:St} (h:Q S):After Q S:=fun C E m a w hr=>⟨E,m,S,h,.refl ..,hr⟩
theorem After.join {Q:St→Prop} {S:St} (h:After (After Q) S):After Q S:=fun C E m a w hr=>by
 obtain ⟨E1,m1,S1,q1,e1,r1⟩:=h C E m a w hr
 obtain ⟨E2,m2,S2,q,e2,r2⟩:=q1 C E1 m1 a w r1
 exact ⟨E2,m2,S2,q,e1.trans e2,r2⟩
theorem After.shift {Q:St→Prop} {S S':St} (hs:Shift S S') (h:After Q S'):After Q S:=fun C E m a w hr=>by
 obtain ⟨E1,m1,e1,r1⟩:=hs C E m a w hr
 obtain ⟨E2,m2,S2,q,e2,r2⟩:=h C E1 m1 a w r1
 exact ⟨E2,m2,S2,q,e1.trans e2,r2⟩
theorem WpC.after {P:Program} {c:Code} {K:Exit→St→Prop} {S:St} (h:WpC P c (fun e S'=>After (K e) S') S):WpC P c K S:=by
 refine ⟨fun C E m a w hr=>?_⟩
 refine wp_mono (h.out C E m a w hr) ?_
 rintro e a' w' ⟨E1,m1,S1,k1,k2,k3⟩
 obtain ⟨E2,m2,S2,q,e2,r2⟩:=k1 C E1 m1 a' w' k3
 exact ⟨E2,m2,S2,q,k2.trans e2,r2⟩
section
variable {P:Program} {T:Tb} {ops:Array Oper} {o:Oper}
theorem OpC.first {K:St→Prop} {S:St} (h:After (fun S'=>OpC P T ops o K S') S):OpC P T ops o K S:=OpC.from h
end
theorem Rel.recellE {E C m H w} (h:Rel E C m H w) {k ver g:Nat} {ty:TypeId} {segs segs':List SV} (hk:H[k]?=some (.mem ty segs ver g)) (hc:cellsL E segs'=cellsL E segs) (ho:OkL m (vers H) segs'):Rel E C m (H.set k (.mem ty segs' ver g)) w:=by
 have hvs:vers (H.set k (.mem ty segs' ver g))=vers H:=ZJ (B':=.mem ty segs' ver g) hk rfl
 have hkl:k < H.length:=(List.getElem?_eq_some_iff.1 hk).1
 have hgk:(H.set k (.mem ty segs' ver g))[k]?=some (.mem ty segs' ver g):=by simp [List.getElem?_set,hkl]
 have hge:∀ j,j≠k→(H.set k (.mem ty segs' ver g))[j]?=H[j]?:=fun j hj=>List.getElem?_set_ne (Ne.symm hj)
 have hblk:∀ j b,Zk E (H.set k (.mem ty segs' ver g)) j b→Zk E H j b:=by
  rintro j b ⟨B',hB',hb⟩
  by_cases hj:j=k
  ·subst hj;rw [hgk] at hB';cases hB';exact ⟨_,hk,hb⟩
  ·rw [hge j hj] at hB';exact ⟨B',hB',hb⟩
 refine ⟨h.os,h.tape,h.output,h.im,h.fr,h.mf,?_,?_,fun j b hb=>h.sp j b (hblk j b hb),fun i j b h1 h2=>h.inj i j b (hblk i b h1) (hblk j b h2)⟩
 ·intro j B' hB'
  rw [hvs]
  by_cases hj:j=k
  ·subst hj;rw [hgk] at hB';cases hB'
   have h1:=h.bl j _ hk
   cases g with
   | zero=>
     obtain ⟨a1,b,c,a2,a3,a4⟩:=h1
     exact ⟨a1,b,c,a2,by rw [hc];exact a3,ho⟩
   | succ g=>
     obtain ⟨o1,o2,o3⟩:=h1
     exact ⟨ho,fun e=>by rw [hc];exact o2 e,fun e=>by rw [hc];exact o3 e⟩
  ·rw [hge j hj] at hB';exact h.bl j B' hB'
 ·rw [hvs];exact h.nn
theorem Holds.oks {E m V w k ty segs ver g} (h:Holds E m V w k (.mem ty segs ver g)):OkL m V segs:=by
 cases g with
 | zero=>exact h.2.choose_spec.choose_spec.2.2
 | succ g=>exact h.1
theorem Z6k {α:Type} {Q:St→Prop} {t:List SV} {h:List SB} {k ver N g n gi vi:Nat} {ty ty':TypeId} {enc:α→List SV} {xs:List α} {d:α} {pre post:List SV} (i:Nat) (hk:h[k]?=some (.mem ty [.arr N α d n enc xs] ver (g+1))) (hi:h[i]?=some (.mem ty' (pre++.sl k ver 0 N none 0::post) vi gi)) (hik:i≠k) (hn:n=g+1) (hv:ver≠0) (hN:xs.length=N) (hw:∀ x,wdL (enc x)=n) (hok:∀ x m,OkL m [] (enc x))
 (hK:∀ ad cap,N≤cap→Q ⟨t,(h.set k (.gone ver)).set i (.mem ty' (pre++.imm α d n enc xs (some ad) cap::post) vi gi)⟩):After Q ⟨t,h⟩:=by
 intro C E m a w hr
 obtain ⟨m',b,c,h1,h2,⟨l1,l2,arr,ty2,fr,l3,l4⟩⟩:=Z5G hr hk hn hv hw hok
 have hi2:(h.set k (.gone ver))[i]?=some (.mem ty' (pre++.sl k ver 0 N none 0::post) vi gi):=by rw [List.getElem?_set_ne (Ne.symm hik)];exact hi
 have hvs:=ZJ (B':=SB.mem ty' (pre++.imm α d n enc xs (some ⟨b,0,none⟩) c::post) vi gi) hi2 rfl
 have hoks:=(h2.rel.bl i _ hi2).oks
 refine ⟨E,m',_,hK ⟨b,0,none⟩ c l2,by rw [hvs];exact h1,?_⟩
 have hrel:=h2.rel.recellE (segs':=pre++.imm α d n enc xs (some ⟨b,0,none⟩) c::post) hi2 (by
  simp only [Zl,cellsL]
  congr 2
  simp only [cells,l1,Option.getD_none,hN,Nat.sub_zero]
  simp) (by
  rw [OkL_append] at hoks ⊢
  refine ⟨hoks.1,?_⟩
  have ho2:=hoks.2
  simp only [OkL] at ho2 ⊢
  refine ⟨⟨rfl,?_⟩,ho2.2⟩
  simp only [Ok]
  refine ⟨by omega,fun hne=>⟨_,arr,ty2,fr,rfl,rfl,l3,fun p hp u v hu=>?_⟩,hw,fun p hp=>hok _ _⟩
  have:=l4 p (by omega) u v hu
  simpa using this)
 refine ⟨h2.sz,fun q x v hx hv=>?_,h2.df,hrel⟩
 have:=h2.sl q x v hx hv
 show SlotOk E m' (vers ((h.set k (.gone ver)).set i _)) t v x
 rw [hvs];exact this
theorem Z9Q {α:Type} {Q:St→Prop} {t:List SV} {h:List SB} {k ver N g n gi vi:Nat} {ty ty':TypeId} {enc:α→List SV} {xs:List α} {d:α} {pre post:List SV} (i:Nat) (hk:h[k]?=some (.mem ty [.arr N α d n enc xs] ver (g+1))) (hi:h[i]?=some (.mem ty' (pre++.sl k ver 0 N none 0::post) vi gi)) (hik:i≠k) (hn:n=g+1) (hv:ver≠0) (hN:xs.length=N) (hw:∀ x,wdL (enc x)=n) (hfr:Zac enc)
 (hK:∀ ad cap,N≤cap→Q ⟨t,(h.set k (.gone ver)).set i (.mem ty' (pre++.imm α d n enc xs (some ad) cap::post) vi gi)⟩):After Q ⟨t,h⟩:=by
 intro C E m a w hr
 obtain ⟨m',b,c,h1,h2,⟨l1,l2,arr,ty2,fr,l3,l4⟩,l5⟩:=ZbO hr hk hn hv hw hfr
 have hi2:(h.set k (.gone ver))[i]?=some (.mem ty' (pre++.sl k ver 0 N none 0::post) vi gi):=by rw [List.getElem?_set_ne (Ne.symm hik)];exact hi
 have hvs:=ZJ (B':=SB.mem ty' (pre++.imm α d n enc xs (some ⟨b,0,none⟩) c::post) vi gi) hi2 rfl
 have hoks:=(h2.rel.bl i _ hi2).oks
 refine ⟨E,m',_,hK ⟨b,0,none⟩ c l2,by rw [hvs];exact h1,?_⟩
 have hrel:=h2.rel.recellE (segs':=pre++.imm α d n enc xs (some ⟨b,0,none⟩) c::post) hi2 (by
  simp only [Zl,cellsL]
  congr 2
  simp only [cells,l1,Option.getD_none,hN,Nat.sub_zero]
  simp) (by
  rw [OkL_append] at hoks ⊢
  refine ⟨hoks.1,?_⟩
  have ho2:=hoks.2
  simp only [OkL] at ho2 ⊢
  refine ⟨⟨rfl,?_⟩,ho2.2⟩
  simp only [Ok]
  refine ⟨by omega,fun hne=>⟨_,arr,ty2,fr,rfl,rfl,l3,fun p hp u v hu=>?_⟩,hw,fun p hp=>l5 p (by omega)⟩
  have:=l4 p (by omega) u v hu
  simpa using this)
 refine ⟨h2.sz,fun q x v hx hv=>?_,h2.df,hrel⟩
 have:=h2.sl q x v hx hv
 show SlotOk E m' (vers ((h.set k (.gone ver)).set i _)) t v x
 rw [hvs];exact this
theorem After.slot {α:Type} {Q:St→Prop} {t:List SV} {h:List SB} {k ver N g n:Nat} {ty:TypeId} {enc:α→List SV} {xs:List α} {d:α} (j:Nat) (hk:h[k]?=some (.mem ty [.arr N α d n enc xs] ver (g+1))) (hj:t[j]?=some (.sl k ver 0 N none 0)) (hn:n=g+1) (hv:ver≠0) (hN:xs.length=N) (hw:∀ x,wdL (enc x)=n) (hok:∀ x m,OkL m [] (enc x))
 (hK:∀ ad cap,N≤cap→Q ⟨t.set j (.imm α d n enc xs (some ad) cap),h.set k (.gone ver)⟩):After Q ⟨t,h⟩:=by
 intro C E m a w hr
 obtain ⟨m',b,c,h1,h2,h3⟩:=Z5G hr hk hn hv hw hok
 have hlt:j < t.length:=(List.getElem?_eq_some_iff.1 hj).1
 obtain ⟨l1,l2,arr,ty2,fr,l3,l4⟩:=h3
 refine ⟨E,m',_,hK ⟨b,0,none⟩ c l2,h1,?_,?_,h2.df,h2.rel⟩
 ·simpa using h2.sz
 ·intro q x v hx hv
  by_cases hq:q=j
  ·subst hq
   rw [List.getElem?_set_self hlt] at hx
   cases hx
   have h0:=h2.sl q _ v hj hv
   refine ⟨?_,?_⟩
   ·simp only [Ok]
    refine ⟨by omega,fun hne=>⟨_,arr,ty2,fr,rfl,rfl,l3,fun p hp u v hu=>?_⟩,hw,fun p hp=>hok _ _⟩
    have:=l4 p (by omega) u v hu
    simpa using this
   ·rw [h0.2]
    simp only [den,wrapV,cells,List.headD_cons,l1,Option.getD_none,hN,Nat.sub_zero]
    simp
  ·rw [List.getElem?_set_ne (Ne.symm hq)] at hx
   exact (h2.sl q x v hx hv).set_plain hj ⟨fun b=>by simp,fun q b=>by simp⟩
section
variable {P:Program} {T:Tb} {ops:Array Oper} {o:Oper}
theorem OpC.after {K:St→Prop} {S:St} (h:OpC P T ops o (fun S'=>After K S') S):OpC P T ops o K S:=by
 refine ⟨fun C E m a w hr=>?_⟩
 have h3:=h.out C E m a w hr
 unfold opW at h3 ⊢
 have next:∀ a' w',(∃ E2 m2 S2,After K S2∧Ext E m (vers S.h) E2 m2 (vers S2.h)∧Rep E2 C m2 S2 a' w')→∃ E2 m2 S2,K S2∧Ext E m (vers S.h) E2 m2 (vers S2.h)∧Rep E2 C m2 S2 a' w':=by
  rintro a' w' ⟨E2,m2,S2,k1,k2,k3⟩
  obtain ⟨E4,m4,S4,q,e4,r4⟩:=k1 C E2 m2 a' w' k3
  exact ⟨E4,m4,S4,q,k2.trans e4,r4⟩
 split
 ·rename_i hw
  rw [if_pos hw] at h3
  exact ZU h3 next
 ·rename_i hw
  rw [if_neg hw] at h3
  exact next _ _ h3
end
theorem After.recell {Q:St→Prop} {t:List SV} {h:List SB} (k:Nat) {ver g:Nat} {ty:TypeId} {segs:List SV} (segs':List SV) (hk:h[k]?=some (.mem ty segs ver g)) (hc:∀ E,cellsL E segs'=cellsL E segs) (ho:∀ m V,OkL m V segs→OkL m V segs') (hQ:After Q ⟨t,h.set k (.mem ty segs' ver g)⟩):After Q ⟨t,h⟩:=
 After.shift (Shift.recell k segs' hk hc ho rfl) hQ
end
structure In where
 op:Int
 dst:Int
 a:Int
 b:Int
 imm:Int
 loc:Int
 off:Int
 ix:Int
 sz:Int
 fn:Int
 acq:Bool
 wk:Bool
 rel:Bool
 pr:Int
 su:Int
 to:Int
 ze:Bool
 deriving DecidableEq
def ienc (i:In):List SV:=[.i .i64 i.op,.i .i64 i.dst,.i .i64 i.a,.i .i64 i.b,.i .i64 i.imm,.i .i64 i.loc,.i .i64 i.off,.i .i64 i.ix,.i .i64 i.sz,.i .i64 i.fn,.b i.acq,.b i.wk,.b i.rel,.i .i64 i.pr,.i .i64 i.su,.i .i64 i.to,.b i.ze]
def rgB (r:Int):Bool:=decide (0≤r)&&decide (r < 8)
def szB (n:Int):Bool:=((decide (n=1)||decide (n=2))||decide (n=4))||decide (n=8)
def mskX (off n:Int):Bool:=((!szB n||decide (off < 0))||decide (IntKind.i64.wrap (8 - n) < off))||!decide (off.tmod n=0)
def mskV (off n:Int):Int:=(2 ^ n.toNat - 1) * 2 ^ off.toNat
def mskF (off n:Int):Int:=if mskX off n then 0 else mskV off n
theorem ZM (n:Int):CtrV Tryz.prog 147 [.i .i64 n] (.b (rgB n)):=by
 refine Z8 Z5 (fn:=Tryz.f147) Z Z Z Z Z Z ?_
 exact rfl
theorem Z7p (n:Int):CtrV Tryz.prog 111 [.i .i64 n] (.b (szB n)):=by
 refine Z8 Z5 (fn:=Tryz.f111) Z Z Z Z Z Z ?_
 exact rfl
def fnB (n:Int):Bool:=decide (1≤n)&&decide (n≤3)
theorem Z4J {off n:Int} (h:mskX off n=false):(n=1∧(off=0∨off=1∨off=2∨off=3∨off=4∨off=5∨off=6∨off=7))∨(n=2∧(off=0∨off=2∨off=4∨off=6))∨(n=4∧(off=0∨off=4))∨(n=8∧off=0):=by
 unfold mskX szB at h
 simp only [Bool.or_eq_false_iff,Bool.not_eq_false',Bool.or_eq_true,decide_eq_true_eq,decide_eq_false_iff_not,Int.not_lt] at h
 obtain ⟨⟨⟨h1,h2⟩,h3⟩,h4⟩:=h
 rcases h1 with ((rfl | rfl) | rfl) | rfl
 ·have h3:off≤7:=h3
  left;exact ⟨rfl,by omega⟩
 ·have h3:off≤6:=h3
  right;left
  refine ⟨rfl,?_⟩
  rcases (by omega:off=0∨off=1∨off=2∨off=3∨off=4∨off=5∨off=6) with rfl | rfl | rfl | rfl | rfl | rfl | rfl <;> first | (simp;done) | exact absurd h4 (by decide)
 ·have h3:off≤4:=h3
  right;right;left
  refine ⟨rfl,?_⟩
  rcases (by omega:off=0∨off=1∨off=2∨off=3∨off=4) with rfl | rfl | rfl | rfl | rfl <;> first | (simp;done) | exact absurd h4 (by decide)
 ·have h3:off≤0:=h3
  right;right;right
  exact ⟨rfl,by omega⟩
theorem msk_ne {off n:Int} (h:mskX off n=true) {x y z:Bool} (hx:((!szB n||decide (off < 0))||decide (IntKind.i64.wrap (8 - n) < off))=false):n≠0:=by
 intro e
 subst e
 simp [szB] at hx
theorem Zck {off n:Int} (h:mskX off n=true):CtrV Tryz.prog 61 [.i .i64 off,.i .i64 n] (.i .i64 0):=by
 refine Z8 Z5 (fn:=Tryz.f61) Z Z Z Z Z Z ?_
 refine Z4 Z Z Z Z Z Z Z (fun _=>Z7p n) ?_
 refine ⟨fun hg=>?_,⟨fun _=>rfl,fun h2=>?_⟩⟩
 ·have hg:((((!szB n||decide (off < 0))||decide (IntKind.i64.wrap (8 - n) < off)) == false))=true:=hg
  exact msk_ne (x:=true) (y:=true) (z:=true) h (by simpa using hg)
 ·have h2:mskX off n=false:=h2
  rw [h] at h2;cases h2
theorem ZX (off n:Int):CtrV Tryz.prog 61 [.i .i64 off,.i .i64 n] (.i .i64 (mskF off n)):=by
 unfold mskF
 cases h:mskX off n with
 | true=>exact Zck h
 | false=>
   rcases Z4J h with ⟨rfl,rfl | rfl | rfl | rfl | rfl | rfl | rfl | rfl⟩ | ⟨rfl,rfl | rfl | rfl | rfl⟩ | ⟨rfl,rfl | rfl⟩ | ⟨rfl,rfl⟩
   all_goals
    refine Z8 Z5 (fn:=Tryz.f61) Z Z Z Z Z Z ?_
    refine Z4 Z Z Z Z Z Z Z (fun _=>Z7p _) ?_
    refine ⟨fun _=>by decide,?_⟩
    refine ⟨fun h=>absurd h (by decide +kernel),fun _=>?_⟩
    iterate 2 refine ⟨fun _=>by decide,?_⟩
    exact congrArg (SV.i .i64) (by decide +kernel)
theorem msk_nz (off n:Int):(!decide (mskF off n=0))=!mskX off n:=by
 unfold mskF
 cases h:mskX off n with
 | true=>rfl
 | false=>
   rcases Z4J h with ⟨rfl,rfl | rfl | rfl | rfl | rfl | rfl | rfl | rfl⟩ | ⟨rfl,rfl | rfl | rfl | rfl⟩ | ⟨rfl,rfl | rfl⟩ | ⟨rfl,rfl⟩ <;> rfl
def ixB (x:Int):Bool:=decide (x = -1)||rgB x
def accB (i:In):Bool:=((decide (0≤i.loc)&&decide (i.loc < 3))&&!mskX i.off i.sz)&&ixB i.ix
theorem Z4K (i:In):CtrV Tryz.prog 148 [.agg (ienc i)] (.b (accB i)):=by
 refine Z8 Z5 (fn:=Tryz.f148) Z Z Z Z Z Z ?_
 refine Z4 Z Z Z Z Z Z Z (fun _=>ZX i.off i.sz) ?_
 refine Z4 Z Z Z Z Z Z Z (fun _=>ZM i.ix) ?_
 refine b_cg ?_
 show (((decide (0≤i.loc)&&decide (i.loc < 3))&&!decide (mskF i.off i.sz=0))&&(decide (i.ix = -1)||rgB i.ix))=accB i
 rw [msk_nz];rfl
theorem ZH (i:In):CtrV Tryz.prog 19 [.agg (ienc i)] (.b (decide (i.op=4)||decide (i.op=6))):=by
 refine Z8 Z5 (fn:=Tryz.f19) Z Z Z Z Z Z ?_
 exact rfl
theorem ZG (i:In):CtrV Tryz.prog 60 [.agg (ienc i)] (.b (decide (i.op=5)||decide (i.op=6))):=by
 refine Z8 Z5 (fn:=Tryz.f60) Z Z Z Z Z Z ?_
 exact rfl
def u64 (v:Int):Nat:=(v % 18446744073709551616).toNat
theorem ZeI (v:Int):u64 v < 18446744073709551616:=by unfold u64;omega
theorem Zbn (x:Int):IntKind.i64.wrap x=if x % 18446744073709551616 ≥ 9223372036854775808 then x % 18446744073709551616 - 18446744073709551616 else x % 18446744073709551616:=by
 have e:IntKind.i64.wrap x=if (true&&decide (x % 18446744073709551616 ≥ 9223372036854775808))=true then x % 18446744073709551616 - 18446744073709551616 else x % 18446744073709551616:=rfl
 rw [e];simp
theorem ZeJ (x:Int):IntKind.i64.wrap x % 18446744073709551616=x % 18446744073709551616:=by
 rw [Zbn];split <;> omega
theorem Zbo (x:Int):u64 (IntKind.i64.wrap x)=u64 x:=by unfold u64;rw [ZeJ]
theorem Zcl {n:Nat} (h:n < 18446744073709551616):u64 (n:Int)=n:=by unfold u64;omega
theorem Zg8 {n:Nat} (h:n < 9223372036854775808):IntKind.i64.wrap (n:Int)=n:=by rw [Zbn];split <;> omega
theorem Z75 (x:Int):(BitVec.ofInt 64 x).toNat=u64 x:=by
 rw [BitVec.toNat_ofInt];rfl
theorem Zbp (x y:Int):bits .and .i64 x y=IntKind.i64.wrap ((u64 x &&& u64 y:Nat):Int):=by
 show IntKind.i64.wrap ((BitVec.ofInt 64 x &&& BitVec.ofInt 64 y).toNat:Int)=_
 rw [BitVec.toNat_and,Z75,Z75]
def gN (u off k:Nat):Nat:=u / 2 ^ (8 * off) % 2 ^ (8 * k)
theorem Zg9 {k:Nat} (h:k < 8):2 ^ (8 * k)≤72057594037927936:=Nat.le_trans (Nat.pow_le_pow_right (n:=2) (by decide) (show 8 * k≤56 by omega)) (by decide)
def brsB:List SB:=[.mem 9 [.s [83,89],.s [76,68],.s [83,84]] 1 0,.mem 217 [.i .i64 3,.i .i64 3,.i .i64 1,.i .i64 3,.i .i64 2,.i .i64 2] 1 0]
theorem ZhP:Ctr Tryz.prog 197 [] [] (fun r h=>r=.tup [.sl 0 1 0 3 (some 3) 0,.sl 1 1 0 3 (some 3) 0]∧h=brsB):=by
 refine ZE Z5 (fn:=Tryz.f197) Z Z Z Z Z Z (⟨⟨rfl,rfl,rfl,trivial⟩,⟨rfl,rfl,rfl,rfl,rfl,rfl,trivial⟩,trivial⟩:BndH 2 brsB) (Nat.zero_le _) ?_
 exact ⟨rfl,_,rfl⟩
end SX
end Go.Proofs.YtdddpbmcoimgdaaGreatDoor
