/- A part of SX: symbolic and concrete runs of the program, with contracts of functions; lemmas without further conditions. Shortened by a tool (mini.py). -/
import Derived.WalkKit
set_option linter.unusedVariables false
set_option linter.unusedSimpArgs false
set_option linter.unusedSectionVars false
set_option maxRecDepth 100000
theorem Go.Proofs.YtdddpbmcoimgdaaGreatDoor.Z {α : Sort _} {a : α} : a = a := rfl
namespace Go.Proofs.YtdddpbmcoimgdaaGreatDoor
namespace SX
open Go Go.Proofs
inductive TbV where
 | ints (k:IntKind) (zs:List Int)
 | ifc
 | anyI (k:IntKind)
def tbl6:TbV:=.ints .u8 [0,1,28,2,29,14,24,3,30,22,20,15,25,17,4,8,31,27,13,23,21,19,16,7,26,12,18,6,11,5,10,9]
def tbl7:TbV:=.ints .u8 [0,1,56,2,57,49,28,3,61,58,42,50,38,29,17,4,62,47,59,36,45,43,51,22,53,39,33,30,24,18,12,5,63,55,48,27,60,41,37,16,46,35,44,21,52,32,23,11,54,26,40,15,34,20,31,10,25,14,19,9,13,8,7,6]
def tbl3:TbV:=.ints .u64 [1,10,100,1000,10000,100000,1000000,10000000,100000000,1000000000,10000000000,100000000000,1000000000000,10000000000000,100000000000000,1000000000000000,10000000000000000,100000000000000000,1000000000000000000,10000000000000000000]
def tbl5:TbV:=.ifc
def tbl4:TbV:=.ifc
def tbl1:TbV:=.ints .u8 [0,0,0,0,0,0,0,0,0,1,1,1,1,1,0,0,0,0,0,0,0,0,0,0,0,0,0,0,0,0,0,0,1,0,0,0,0,0,0,0,0,0,0,0,0,0,0,0,0,0,0,0,0,0,0,0,0,0,0,0,0,0,0,0,0,0,0,0,0,0,0,0,0,0,0,0,0,0,0,0,0,0,0,0,0,0,0,0,0,0,0,0,0,0,0,0,0,0,0,0,0,0,0,0,0,0,0,0,0,0,0,0,0,0,0,0,0,0,0,0,0,0,0,0,0,0,0,0,0,0,0,0,0,0,0,0,0,0,0,0,0,0,0,0,0,0,0,0,0,0,0,0,0,0,0,0,0,0,0,0,0,0,0,0,0,0,0,0,0,0,0,0,0,0,0,0,0,0,0,0,0,0,0,0,0,0,0,0,0,0,0,0,0,0,0,0,0,0,0,0,0,0,0,0,0,0,0,0,0,0,0,0,0,0,0,0,0,0,0,0,0,0,0,0,0,0,0,0,0,0,0,0,0,0,0,0,0,0,0,0,0,0,0,0,0,0,0,0,0,0,0,0,0,0,0,0]
def tbl0:TbV:=.anyI .i64
def tabs (g:Nat):Option TbV:=bif Nat.beq g 6 then some tbl6 else (bif Nat.beq g 7 then some tbl7 else (bif Nat.beq g 3 then some tbl3 else (bif Nat.beq g 5 then some tbl5 else (bif Nat.beq g 4 then some tbl4 else (bif Nat.beq g 1 then some tbl1 else (bif Nat.beq g 0 then some tbl0 else .none))))))
def Z5X:Bool:=false
structure Ix where
 c:Bool
 i:Nat
 sz:Nat
 sub:Nat
def ofs:List Ix→Nat
 | []=>0
 | x::r=>x.i * x.sz+x.sub+ofs r
def Z52:List Ix→Nat→List Ix
 | [],_=>[]
 | [x],n=>[{ x with sub:=x.sub+n }]
 | x::y::r,n=>x::Z52 (y::r) n
inductive SV:Type 1 where
 | i (k:IntKind) (n:Int)
 | b (x:Bool)
 | s (l:List UInt8)
 | raw (v:Value)
 | nils
 | ptr (k ver off:Nat) (ix:List Ix)
 | ipt (α:Type) (d:α) (n:Nat) (enc:α→List SV) (xs:List α) (a:Addr) (j sub:Nat) (ix:List Ix)
 | sl (k ver off len:Nat) (cap:Option Nat) (dc:Nat)
 | imm (α:Type) (d:α) (n:Nat) (enc:α→List SV) (xs:List α) (a:Option Addr) (cap:Nat)
 | ints (k:IntKind) (n:Nat) (xs:List Int)
 | arr (N:Nat) (α:Type) (d:α) (n:Nat) (enc:α→List SV) (xs:List α)
 | fn (f:FuncId) (caps:List SV)
 | iface (t:TypeId) (x:SV)
 | bm (f:FuncId) (x:SV)
 | map (k:Nat)
 | agg (cs:List SV)
 | tup (vs:List SV)
 | grd (p:List (Nat×Bool)) (x:SV)
 | dead
inductive SB:Type 1 where
 | mem (t:TypeId) (segs:List SV) (ver:Nat) (gw:Nat)
 | mp (kv:List (SV×SV)) (ver:Nat)
 | gone (ver:Nat)
 | fresh
def SB.lim:SB→Nat
 | .mem _ _ v _=>v+1
 | .mp _ v=>v+1
 | .gone v=>v+1
 | .fresh=>0
structure St:Type 1 where
 t:List SV
 h:List SB
def wd:SV→Nat
 | .ints _ n _=>n
 | .arr N _ _ n _ _=>N * n
 | _=>1
def wdL:List SV→Nat
 | []=>0
 | x::r=>wd x+wdL r
def Z1Z:Value→Bool
 | .agg _=>false
 | .tuple _=>false
 | _=>true
def Z27:SV→Bool
 | .raw v=>Z1Z v
 | .ints _ _ _ | .arr _ _ _ _ _ _ | .agg _ | .tup _ | .grd _ _ | .dead=>false
 | _=>true
def isUnit:SV→Bool
 | .raw v=>Z1Z v
 | .agg _ | .tup _ | .grd _ _ | .dead=>false
 | _=>true
def live:SV→Bool
 | .grd _ _ | .dead=>false
 | _=>true
def wdQ:List SV→Nat→Nat
 | [],n=>n
 | x::r,0=>wdQ r (wd x)
 | x::r,n+1=>wdQ r (n+1+wd x)
theorem Z4a:∀ (l:List SV) (n:Nat),wdQ l n=n+wdL l
 | [],n=>by simp [wdQ,wdL]
 | x::r,0=>by simp [wdQ,wdL,Z4a r]
 | x::r,n+1=>by simp only [wdQ,wdL,Z4a r];omega
def wdB:List SV→Nat→Bool
 | [],0=>true
 | [],_+1=>false
 | x::r,0=>bif Nat.beq (wd x) 0 then wdB r 0 else false
 | x::r,n+1=>bif Nat.ble (wd x) (n+1) then wdB r (n+1 - wd x) else false
theorem Z2K:∀ (l:List SV) (n:Nat),wdB l n=Nat.beq (wdL l) n
 | [],0=>rfl
 | [],_+1=>rfl
 | x::r,0=>by
   simp only [wdB,wdL,Z2K r]
   rw [Bool.eq_iff_iff]
   cases h:Nat.beq (wd x) 0 with
   | true=>have:=Nat.eq_of_beq_eq_true h;simp [this]
   | false=>have:=Nat.ne_of_beq_eq_false h;simp;omega
 | x::r,n+1=>by
   simp only [wdB,wdL,Z2K r]
   rw [Bool.eq_iff_iff]
   cases h:Nat.ble (wd x) (n+1) with
   | true=>have:=Nat.le_of_ble_eq_true h;simp;omega
   | false=>have:¬ wd x≤n+1:=fun e=>by rw [Nat.ble_eq_true_of_le e] at h;cases h
            simp;omega
def ZI:List SV→Nat→Option (List SV)
 | l,0=>some l
 | [],_+1=>none
 | x::xs,n+1=>bif Nat.ble (wd x) (n+1) then ZI xs (n+1 - wd x) else none
def Z17:List SV→Nat→Option (List SV)
 | _,0=>some []
 | [],_+1=>none
 | x::xs,n+1=>bif Nat.ble (wd x) (n+1) then (match Z17 xs (n+1 - wd x) with | some r=>some (x::r) | none=>none) else none
inductive TK where
 | bool | int (k:IntKind) | str | ptr (e:TypeId) | slice (e:TypeId) | map (k v:TypeId) | struct (fs:List (Nat×TypeId)) | array (n:Nat) (e:TypeId) | func | iface (nm:Bool) | other
inductive LK where
 | i (k:IntKind) | b | s
 deriving DecidableEq
structure TI:Type 1 where
 k:TK
 size:Nat
 bytes:Nat
 zero:List SV
 leafs:Option (List LK):=none
 flat:Bool:=false
def TK.agg:TK→Bool
 | .struct _=>true
 | .array _ _=>true
 | _=>false
abbrev Tb:=TypeId→Option TI
def ofV:Value→SV
 | .int k n=>.i k n
 | .bool b=>.b b
 | .string s=>.s s.data.toList
 | .slice none 0 0=>.nils
 | v=>.raw v
def gV (g:Nat):SV:=match tabs g with
 | some (.ints k zs)=>.ipt Unit () zs.length (fun _=>[.ints k zs.length zs]) [()] ⟨g,0,none⟩ 0 0 []
 | _=>.raw (.pointer (some ⟨g,0,none⟩))
def calB:SV→Option (FuncId×List SV×List SV)
 | .fn f caps=>some (f,[],caps)
 | .bm f x=>some (f,[x],[])
 | _=>none
def evO (t:List SV):Operand→SV
 | .tmp n=>t.getD n .dead
 | .const v=>ofV v
 | .global g=>gV g
 | .func f=>.fn f []
inductive R:Type 1 where
 | v (x:SV)
 | ob (p:Prop) [d:Decidable p] (x:SV)
 | no
inductive NR:Type 1 where
 | ok (l:List SV)
 | ob (p:Prop) [d:Decidable p] (l:List SV)
 | no
def Zj:SV→List SV
 | .agg cs=>cs
 | v=>[v]
def Z2e (u:SV) (x:Ix):NR:=
 match u with
 | .ints k n xs=>bif Nat.beq x.sz 1&&Nat.beq x.sub 0 then
  (bif x.c then (bif Nat.blt x.i n then .ok [.i k (xs.getD x.i 0)] else .no) else .ob (x.i < n) [.i k (xs.getD x.i 0)]) else .no
 | .arr N _ d n enc xs=>bif Nat.beq x.sz n then
  (match ZI (enc (xs.getD x.i d)) x.sub with
  | some l=>bif x.c then (bif Nat.blt x.i N then .ok l else .no) else .ob (x.i < N) l
  | none=>.no) else .no
 | _=>.no
def navI:List SV→List Ix→NR
 | l,[]=>.ok l
 | [],_::_=>.no
 | u::_,x::r=>match Z2e u x with
   | .ok l=>navI l r
   | @NR.ob p dp l=>match navI l r with
     | .ok z=>@NR.ob p dp z
     | @NR.ob q dq z=>@NR.ob (p∧q) (@instDecidableAnd p q dp dq) z
     | .no=>.no
   | .no=>.no
def nav (segs:List SV) (off:Nat) (ix:List Ix):NR:=
 match ZI segs off with
 | some l=>navI l ix
 | none=>.no
def rdT (agg:Bool) (size:Nat) (segs:List SV):Option SV:=
 bif agg then (match Z17 segs size with | some cs=>some (.agg cs) | none=>none)
 else match segs with
  | x::_=>bif Z27 x then some x else none
  | []=>none
def rdR (agg:Bool) (size:Nat):NR→R
 | .ok l=>match rdT agg size l with | some x=>.v x | none=>.no
 | @NR.ob p dp l=>match rdT agg size l with | some x=>@R.ob p dp x | none=>.no
 | .no=>.no
def binI (op:BinOp) (k:IntKind) (x y:Int):R:=
 match op with
 | .add=>.v (.i k (k.wrap (x+y)))
 | .sub=>.v (.i k (k.wrap (x - y)))
 | .mul=>.v (.i k (k.wrap (x * y)))
 | .quo=>.ob (y≠0) (.i k (k.wrap (x.tdiv y)))
 | .rem=>.ob (y≠0) (.i k (x.tmod y))
 | .and=>.v (.i k (bits .and k x y))
 | .or=>.v (.i k (bits .or k x y))
 | .xor=>.v (.i k (bits .xor k x y))
 | .andNot=>.v (.i k (bits .andNot k x y))
 | .eql=>.v (.b (decide (x=y)))
 | .neq=>.v (.b (!decide (x=y)))
 | .lss=>.v (.b (decide (x < y)))
 | .leq=>.v (.b (decide (x≤y)))
 | .gtr=>.v (.b (decide (y < x)))
 | .geq=>.v (.b (decide (y≤x)))
 | _=>.no
def binS (op:BinOp) (x y:List UInt8):R:=
 match op with
 | .add=>.ob (x.length+y.length≤9223372036854775807) (.s (x++y))
 | .eql=>.v (.b (decide (x=y)))
 | .neq=>.v (.b (!decide (x=y)))
 | .lss=>.v (.b (Op.bytesLess x y))
 | _=>.no
def eqU:SV→SV→Option Bool
 | .i k a,.i k' c=>bif k == k' then some (decide (a=c)) else none
 | .b a,.b c=>some (a == c)
 | .s a,.s c=>some (decide (a=c))
 | .ints k n a,.ints k' n' c=>bif k == k'&&Nat.beq n n' then some (decide (a=c)) else none
 | _,_=>none
def eqL:List SV→List SV→Option Bool
 | [],[]=>some true
 | [x],[y]=>eqU x y
 | x::xs,y::ys=>match eqU x y with
   | some b=>match eqL xs ys with
     | some c=>some (b&&c)
     | none=>none
   | none=>none
 | _,_=>none
def Z5r (k:IntKind):Nat→List LK→Option (List LK)
 | 0,l=>some l
 | n+1,.i k'::l=>bif k == k' then Z5r k n l else none
 | _,_=>none
def Z1a:List SV→List LK→Bool
 | [],[]=>true
 | .i k _::r,.i k'::l=>k == k'&&Z1a r l
 | .b _::r,.b::l=>Z1a r l
 | .s _::r,.s::l=>Z1a r l
 | .ints k n _::r,l=>(match Z5r k n l with | some l'=>Z1a r l' | none=>false)
 | _,_=>false
def ZY:TK→SV→Bool
 | .ptr _,.raw (.pointer none)=>true
 | .slice _,.nils=>true
 | .map _ _,.raw (.map none)=>true
 | .func,.raw .nilFunc=>true
 | .iface _,.raw .nilIface=>true
 | _,_=>false
def nilB:TK→SV→Option Bool
 | .ptr _,.raw (.pointer none)=>some true
 | .ptr _,.ptr _ _ _ _=>some false
 | .ptr _,.ipt _ _ _ _ _ _ _ _ _=>some false
 | .slice _,.nils=>some true
 | .slice _,.imm _ _ _ _ _ a _=>some a.isNone
 | .slice _,.sl _ (_+1) _ _ _ _=>some false
 | .map _ _,.raw (.map none)=>some true
 | .map _ _,.map _=>some false
 | .func,.raw .nilFunc=>some true
 | .func,.fn _ _=>some false
 | .func,.bm _ _=>some false
 | .iface _,.raw .nilIface=>some true
 | .iface _,.iface _ _=>some false
 | _,_=>none
def Z1y:Operand→Bool
 | .const _=>true
 | _=>false
def ckI (k:TK) (c:Bool):Bool:=
 match k with
 | .iface _=>c
 | _=>true
def nilE (k:TK) (c:Bool) (x y:SV):Option Bool:=
 bif ckI k c then
  (bif ZY k x then nilB k y else bif ZY k y then nilB k x else none) else none
def binE (neg c:Bool) (ti:TI) (x y:SV):R:=
 match ti.k,x,y with
 | .bool,.b a,.b c=>.v (.b (bif neg then a != c else a == c))
 | _,.agg xs,.agg ys=>match ti.leafs with
   | some ls=>bif Z1a xs ls&&Z1a ys ls then (match eqL xs ys with
     | some b=>.v (.b (bif neg then !b else b))
     | none=>.no) else .no
   | none=>.no
 | k,x,y=>match nilE k c x y with
   | some b=>.v (.b (bif neg then !b else b))
   | none=>.no
def shf (op:BinOp) (k:IntKind) (x y:Int):R:=
 match op with
 | .shl=>.ob (0≤y) (.i k (k.wrap (x * 2 ^ min y.toNat k.bits)))
 | .shr=>.ob (0≤y) (.i k (x.fdiv (2 ^ min y.toNat k.bits)))
 | _=>.no
def Z6w:BinOp→Bool
 | .shl | .shr=>true
 | _=>false
def binR (T:Tb) (op:BinOp) (t:TypeId) (c:Bool) (x y:SV):R:=
 match x,y with
 | .i k a,.i k' b=>bif Z6w op then shf op k a b else bif k == k' then binI op k a b else .no
 | .s a,.s b=>binS op a b
 | x,y=>match T t with
   | some ti=>match op with
     | .eql=>binE false c ti x y
     | .neq=>binE true c ti x y
     | _=>.no
   | none=>.no
def Z9T (c a b:SV) (aop bop:Operand):R:=
 match c with
 | .b c=>match aop,bop with
   | _,.const (.bool false)=>(match a with | .b x=>.v (.b (c&&x)) | _=>.no)
   | .const (.bool true),_=>(match b with | .b x=>.v (.b (c||x)) | _=>.no)
   | _,_=>.no
 | _=>.no
def Z7A (T:Tb) (src dst:TypeId) (x:SV):R:=
 match T src,T dst with
 | some _,some ti=>match ti.k,x with
   | .int k,.i _ n=>.v (.i k (k.wrap n))
   | .str,.s l=>.v (.s l)
   | _,_=>.no
 | _,_=>.no
def ZcD:SV→Nat
 | .ints _ n _=>n
 | .arr N _ _ _ _ _=>N
 | _=>0
def Z53 (T:Tb) (t:TypeId) (x ix:SV) (c:Bool):R:=
 match x,ix with
 | .s l,.i _ n=>match T t with
   | some ti=>(match ti.k with | .str=>.ob (0≤n∧n < l.length) (.i .u8 ((l.getD n.toNat 0).toNat:Int)) | _=>.no)
   | none=>.no
 | .agg cs,.i _ n=>match T t with
   | some ti=>match ti.k with
     | .array N e=>match T e with
       | some te=>bif ti.flat then (match ZI cs (n.toNat * te.size) with
         | some l=>(match rdT te.k.agg te.size l with | some x=>.ob (0≤n∧n < N) x | none=>.no)
         | none=>.no) else match cs with
         | [u]=>bif Nat.beq (ZcD u) N then (match rdR te.k.agg te.size (Z2e u ⟨c,n.toNat,te.size,0⟩) with
         | .v x=>bif c then .v x else .no
         | @R.ob p dp x=>@R.ob (0≤n∧p) (@instDecidableAnd _ p _ dp) x
         | .no=>.no) else .no
         | _=>.no
       | none=>.no
     | _=>.no
   | none=>.no
 | _,_=>.no
def Z29 (o:Operand) (N:Nat):Bool:=
 match o with
 | .const (.int _ (.ofNat n))=>Nat.blt n N
 | _=>false
def Zdq (l:List SV) (sub:Nat):Bool:=
 match ZI l sub with
 | some (.ints _ _ _::_)=>true
 | _=>false
def Z4b (T:Tb) (t:TypeId) (x:SV) (ixo:Operand) (ix:SV):R:=
 match ix with
 | .i _ n=>match T t with
   | some ti=>match ti.k with
     | .array N e=>match T e with
       | some te=>match x with
         | .ptr k ver off p=>bif ti.flat then .ob (0≤n∧n < N) (.ptr k ver (off+n.toNat * te.size) p) else bif Z29 ixo N then .v (.ptr k ver off (p++[⟨true,n.toNat,te.size,0⟩])) else .ob (0≤n∧n < N) (.ptr k ver off (p++[⟨false,n.toNat,te.size,0⟩]))
         | .ipt α d m enc xs a j sub p=>bif ti.flat&&!Zdq (enc (xs.getD j d)) sub then .ob (0≤n∧n < N) (.ipt α d m enc xs a j (sub+n.toNat * te.size) p) else bif Z29 ixo N then .v (.ipt α d m enc xs a j sub (p++[⟨true,n.toNat,te.size,0⟩])) else .ob (0≤n∧n < N) (.ipt α d m enc xs a j sub (p++[⟨false,n.toNat,te.size,0⟩]))
         | _=>.no
       | none=>.no
     | .slice e=>match T e with
       | some te=>match x with
         | .imm α d m enc xs a _=>bif Nat.beq m te.size then .ob (0≤n∧n < xs.length) (.ipt α d m enc xs (a.getD ⟨0,0,none⟩) n.toNat 0 []) else .no
         | .sl k ver off len (some _) _=>bif ti.flat then .ob (0≤n∧n < len) (.ptr k ver (off+n.toNat * te.size) []) else bif Z29 ixo len then .v (.ptr k ver (off+n.toNat * te.size) []) else .ob (0≤n∧n < len) (.ptr k ver off [⟨false,n.toNat,te.size,0⟩])
         | .sl k ver off len none dc=>bif ti.flat then .ob (0≤n∧n < len) (.ptr k ver (off+n.toNat * te.size) []) else .ob (off=dc * te.size∧0≤n∧n < len) (.ptr k ver 0 [⟨false,dc+n.toNat,te.size,0⟩])
         | _=>.no
       | none=>.no
     | _=>.no
   | none=>.no
 | _=>.no
def isSl:TK→Bool
 | .slice _=>true
 | _=>false
def lenR (T:Tb) (t:TypeId) (x:SV):R:=
 match T t with
 | some ti=>match x with
   | .s l=>(match ti.k with | .str=>.v (.i .i64 l.length) | _=>.no)
   | .nils=>bif isSl ti.k then .v (.i .i64 0) else .no
   | .imm _ _ _ _ xs _ _=>bif isSl ti.k then .v (.i .i64 xs.length) else .no
   | .sl _ _ _ len _ _=>bif isSl ti.k then .v (.i .i64 len) else .no
   | .dead=>.no
   | _=>(match ti.k with | .array n _=>.v (.i .i64 n) | _=>.no)
 | none=>.no
def minR (mx:Bool):List SV→R
 | [.i k x,.i k' y]=>bif k == k' then .v (.i k (bif mx then (if x < y then y else x) else (if y < x then y else x))) else .no
 | _=>.no
def Z7B (T:Tb) (t:TypeId) (x:SV) (f:Nat):R:=
 match x with
 | .agg cs=>match T t with
   | some ti=>match ti.k with
     | .struct fs=>match fs[f]? with
       | some (o,e)=>match T e with
         | some te=>rdR te.k.agg te.size (match ZI cs o with | some l=>.ok l | none=>.no)
         | none=>.no
       | none=>.no
     | _=>.no
   | none=>.no
 | _=>.no
def andR (p:Prop) [Decidable p]:R→R
 | .v x=>.ob p x
 | @R.ob q dq x=>@R.ob (p∧q) (@instDecidableAnd p q _ dq) x
 | .no=>.no
def ZT (lo hi:Option SV) (len:Nat):Option (Option (PSigma fun p:Prop=>Decidable p)×Nat×Nat):=
 match lo,hi with
 | none,none=>some (none,0,len)
 | some (.i _ a),none=>some (some ⟨0≤a∧a≤len,inferInstance⟩,a.toNat,len)
 | none,some (.i _ b)=>some (some ⟨0≤b∧b≤len,inferInstance⟩,0,b.toNat)
 | some (.i _ a),some (.i _ b)=>some (some ⟨0≤a∧a≤b∧b≤len,inferInstance⟩,a.toNat,b.toNat)
 | _,_=>none
def mkR (p:Option (PSigma fun p:Prop=>Decidable p)) (x:SV):R:=
 match p with
 | none=>.v x
 | some ⟨p,d⟩=>@R.ob p d x
def Z2Y (nr:NR) (N:Nat) (a:Addr):R:=
 match nr with
 | .ok (.ints k n xs::_)=>bif Nat.beq n N then .v (.imm Int 0 1 (fun x=>[.i k x]) xs (some a) n) else .no
 | @NR.ob p dp (.ints k n xs::_)=>bif Nat.beq n N then @R.ob p dp (.imm Int 0 1 (fun x=>[.i k x]) xs (some a) n) else .no
 | _=>.no
def Z5Y (T:Tb) (t:TypeId) (x:SV) (lo hi:Option SV):R:=
 match T t with
 | none=>.no
 | some ti=>match ti.k with
   | .str=>match x with
     | .s l=>match ZT lo hi l.length with
       | some (p,a,b)=>mkR p (.s ((l.take b).drop a))
       | none=>.no
     | _=>.no
   | .slice e=>match x with
     | .imm α d n enc xs a cap=>match T e,ZT lo hi xs.length with
       | some te,some (p,u,v)=>bif Nat.beq n te.size then mkR p (.imm α d n enc ((xs.take v).drop u) (if cap=u then a else a.map (·.add (u * n))) (cap - u)) else .no
       | _,_=>.no
     | .nils=>match T e,ZT lo hi 0 with
       | some _,some (p,_,_)=>mkR p .nils
       | _,_=>.no
     | .sl k ver off len cap dc=>match T e,ZT lo hi len with
       | some te,some (p,u,v)=>match cap with
         | some c=>andR (len≤c) (mkR p (.sl k ver (if c=u then off else off+u * te.size) (v - u) (some (c - u)) 0))
         | none=>.no
       | _,_=>.no
     | _=>.no
   | .array N e=>match T e with
     | some te=>match x with
       | .ptr k ver off []=>match ZT lo hi N with
         | some (p,u,v)=>mkR p (.sl k ver (if N=u then off else off+u * te.size) (v - u) (some (N - u)) 0)
         | none=>.no
       | _=>.no
     | none=>.no
   | .ptr arr=>match T arr with
     | some ta=>match ta.k,lo,hi with
       | .array N e,none,none=>match T e with
         | some te=>match x with
           | .ptr k ver off []=>.v (.sl k ver off N (some N) 0)
           | .ipt α d n enc xs a j sub ix=>bif Nat.beq te.size 1 then Z2Y (nav (enc (xs.getD j d)) sub ix) N ⟨a.block,a.off+j * n+sub+ofs ix,none⟩ else .no
           | _=>.no
         | none=>.no
       | .array N e,lo,hi=>match T e with
         | some te=>match x with
           | .ptr k ver off []=>match ZT lo hi N with
             | some (p,u,v)=>mkR p (.sl k ver (if N=u then off else off+u * te.size) (v - u) (some (N - u)) 0)
             | none=>.no
           | _=>.no
         | none=>.no
       | _,_,_=>.no
     | none=>.no
   | _=>.no
def Z7C (T:Tb) (h:List SB) (t:TypeId) (k ver off len dc:Nat) (lo hi:Option SV):R:=
 match T t with
 | some ti=>match ti.k with
   | .slice e=>match T e with
     | some te=>match h.getD k .fresh with
       | .mem _ segs ver' gw=>match ZT lo hi len with
         | some (p,u,v)=>andR ((ver=ver'∧te.size=gw∧0 < gw)∧off=dc * te.size∧(dc+len) * te.size≤wdL segs) (match lo with
           | none=>mkR p (.sl k ver off v none dc)
           | some _=>andR (u < len∨dc=0) (mkR p (.sl k ver (off+u * te.size) (v - u) none (dc+u))))
         | none=>.no
       | _=>.no
     | none=>.no
   | _=>.no
 | none=>.no
def Z54 (T:Tb) (h:List SB) (t:TypeId) (x:SV) (lo hi:Option SV):R:=
 match x with
 | .sl k ver off len none dc=>Z7C T h t k ver off len dc lo hi
 | x=>Z5Y T t x lo hi
def Z55 (T:Tb) (t:TypeId) (x:SV) (lo hi mx:Option SV):R:=
 match lo,hi,mx with
 | none,some (.i _ (.ofNat 0)),some (.i _ (.ofNat 0))=>match T t with
   | some ti=>match ti.k with
     | .slice e=>match T e with
       | some _=>match x with
         | .sl k ver off len none _=>.ob (off=0∨0 < len) (.sl k ver off 0 (some 0) 0)
         | .sl k ver off _ (some _) _=>.v (.sl k ver off 0 (some 0) 0)
         | .nils=>.v .nils
         | .imm α d n enc _ a _=>.v (.imm α d n enc [] a 0)
         | _=>.no
       | none=>.no
     | _=>.no
   | none=>.no
 | _,_,_=>.no
def Zs (x:SV):Bool:=match x with | .agg _=>true | v=>Z27 v
def Z1i (segs:List SV) (off:Nat) (new:List SV):Option (List SV):=
 match Z17 segs off with
 | some pre=>match ZI segs (wdQ new off) with
   | some post=>some (pre++new++post)
   | none=>none
 | none=>none
def Z1J (T:Tb) (fs:List (Nat×TypeId)):List (Nat×SV)→List SV→Option (List SV)
 | [],acc=>some acc
 | (i,x)::r,acc=>match fs[i]? with
   | some (o,e)=>match T e with
     | some te=>bif Zs x&&wdB (Zj x) te.size then (match Z1i acc o (Zj x) with
       | some acc=>Z1J T fs r acc
       | none=>none) else none
     | none=>none
   | none=>none
def ZZ (sz:Nat):List (Nat×SV)→List SV→Option (List SV)
 | [],acc=>some acc
 | (i,x)::r,acc=>bif Zs x&&wdB (Zj x) sz then (match Z1i acc (i * sz) (Zj x) with
  | some acc=>ZZ sz r acc
  | none=>none) else none
def Z5s (k:IntKind):List SV→Option (List Int)
 | []=>some []
 | .i k' n::r=>bif k == k' then (match Z5s k r with | some l=>some (n::l) | none=>none) else none
 | _=>none
def Z9U (te:TI) (n:Nat) (cs:List SV):List SV:=
 match te.k with
 | .int k=>bif wdB cs n then (match Z5s k cs with
   | some xs=>[.ints k n xs]
   | none=>cs) else cs
 | _=>cs
def Z2s (f:Bool) (te:TI) (n:Nat) (cs:List SV):List SV:=bif f then cs else Z9U te n cs
def ZF (n:Nat) (z:List SV):List SV:=
 match n with
 | 0=>[]
 | n+1=>z++ZF n z
def Zai (T:Tb) (t:TypeId) (parts:List (Nat×SV)):R:=
 match T t with
 | some ti=>match ti.k with
   | .struct fs=>match Z1J T fs parts ti.zero with | some cs=>.v (.agg cs) | none=>.no
   | .array n e=>match T e with
     | some te=>match ZZ te.size parts (ZF n te.zero) with | some cs=>.v (.agg (Z2s ti.flat te n cs)) | none=>.no
     | none=>.no
   | _=>.no
 | none=>.no
def Z20 (T:Tb) (h:List SB) (t:TypeId) (p:SV):R:=
 match T t with
 | some ti=>match p with
   | .ptr k ver off ix=>match h.getD k .fresh with
     | .mem _ segs ver' gw=>(match gw with | 0=>rdR ti.k.agg ti.size (nav segs off ix) | _+1=>andR (ver=ver') (rdR ti.k.agg ti.size (nav segs off ix)))
     | _=>.no
   | .ipt _ d _ enc xs _ j sub ix=>rdR ti.k.agg ti.size (nav (enc (xs.getD j d)) sub ix)
   | _=>.no
 | none=>.no
def Z56 (T:Tb) (t:TypeId) (p:SV) (f:Nat):R:=
 match T t with
 | some ti=>match ti.k with
   | .struct fs=>match fs[f]? with
     | some (o,_)=>match p with
       | .ptr k ver off []=>.v (.ptr k ver (off+o) [])
       | .ptr k ver off (x::ix)=>.v (.ptr k ver off (Z52 (x::ix) o))
       | .ipt α d n enc xs a j sub []=>.v (.ipt α d n enc xs a j (sub+o) [])
       | .ipt α d n enc xs a j sub (x::ix)=>.v (.ipt α d n enc xs a j sub (Z52 (x::ix) o))
       | _=>.no
     | none=>.no
   | _=>.no
 | none=>.no
def Z7D (x:SV):R:=
 match x with
 | .ptr _ _ _ _ | .ipt _ _ _ _ _ _ _ _ _ | .fn _ _ | .iface _ _ | .bm _ _=>.v x
 | _=>.no
def extR (x:SV) (n:Nat):R:=
 match x with
 | .tup vs=>match vs[n]? with
   | some v=>.v v
   | none=>.no
 | _=>.no
def Z57 (T:Tb) (x:SV) (asserted:TypeId) (commaOk:Bool):R:=
 match T asserted,x with
 | some ti,.iface t v=>match ti.k with
   | .iface _=>.no
   | _=>bif Nat.beq t asserted then (bif commaOk then .v (.tup [v,.b true]) else .v v) else .no
 | _,_=>.no
def Z2S (e:Operand→SV):Option Operand→Bool
 | some o=>live (e o)
 | none=>true
def Zx (T:Tb) (h:List SB) (e:Operand→SV):Op→R
 | .move x | .assign x=>.v (e x)
 | .load t p=>Z20 T h t (e p)
 | .nilCheck x=>Z7D (e x)
 | .fieldAddr t p f=>Z56 T t (e p) f
 | .indexAddr t x ix=>Z4b T t (e x) ix (e ix)
 | .index t x ix=>Z53 T t (e x) (e ix) (Z29 ix 18446744073709551616)
 | .field t x f=>Z7B T t (e x) f
 | .binOp op t x y _=>binR T op t (Z1y x||Z1y y) (e x) (e y)
 | .unOp .not _ x=>match e x with | .b x=>.v (.b (!x)) | _=>.no
 | .unOp .neg _ x=>match e x with | .i k n=>.v (.i k (k.wrap (0 - n))) | _=>.no
 | .unOp .xor _ x=>match e x with | .i k n=>.v (.i k (bits .xor k (if k.signed then -1 else k.max) n)) | _=>.no
 | .convert src dst x=>Z7A T src dst (e x)
 | .extract x n=>extR (e x) n
 | .build t parts=>Zai T t (parts.toList.map fun p=>(p.1,e p.2))
 | .makeFunc (.func f) first caps=>match first.toList with
   | []=>bif (caps.toList.map e).all live then .v (.fn f (caps.toList.map e)) else .no
   | [o]=>match caps.toList with
     | []=>bif live (e o) then .v (.bm f (e o)) else .no
     | _=>.no
   | _=>.no
 | .makeInterface t x=>match T t with
   | some ti=>match ti.k with
     | .iface _=>.no
     | .other=>.no
     | _=>bif live (e x) then .v (.iface t (e x)) else .no
   | none=>.no
 | .typeAssert x _ asserted ok=>Z57 T (e x) asserted ok
 | .slice t x lo hi none=>bif Z2S e lo&&Z2S e hi then Z54 T h t (e x) (lo.map e) (hi.map e) else .no
 | .slice t x lo hi (some mx)=>bif Z2S e lo&&Z2S e hi&&live (e mx) then Z55 T t (e x) (lo.map e) (hi.map e) (some (e mx)) else .no
 | .call c=>match c.callee with
   | .builtin .len=>match c.args.toList,c.argTypes.toList with
     | [x],[t]=>lenR T t (e x)
     | _,_=>.no
   | .builtin .min=>bif (c.args.toList.map e).all live then minR false (c.args.toList.map e) else .no
   | .builtin .max=>bif (c.args.toList.map e).all live then minR true (c.args.toList.map e) else .no
   | _=>.no
 | _=>.no
abbrev Env:=Nat→Nat→Option (Nat×Nat)
def Env.blk (E:Env) (k ver:Nat):Nat:=((E k ver).map (·.1)).getD 0
def E0:Env:=fun _ _=>none
abbrev Mem:=Nat→Option Obj
def wrapV (x:SV) (cs:List Value):Value:=
 match x with
 | .agg _=>.agg cs.toArray
 | _=>cs.headD undef
mutual
def cells (E:Env):SV→List Value
 | .i k n=>[.int k n]
 | .b x=>[.bool x]
 | .s l=>[.string ⟨⟨l⟩⟩]
 | .raw v=>[v]
 | .nils=>[.slice none 0 0]
 | .ptr k ver off ix=>[.pointer (some ⟨E.blk k ver,off+ofs ix,none⟩)]
 | .ipt _ _ n _ _ a j sub ix=>[.pointer (some ⟨a.block,a.off+j * n+sub+ofs ix,none⟩)]
 | .sl k ver off len cap dc=>[match E k ver with | some (b,c)=>.slice (some ⟨b,if cap=none∧len=0∧c=dc then 0 else off,none⟩) len (cap.getD (c - dc)) | none=>.slice none len (cap.getD 0)]
 | .imm _ _ _ _ xs a cap=>[.slice a xs.length cap]
 | .ints k _ xs=>xs.map (.int k)
 | .arr N _ d _ enc xs=>(List.range N).flatMap fun j=>cellsL E (enc (xs.getD j d))
 | .fn f caps=>[.func (.func f) #[] (denL E caps).toArray]
 | .iface t x=>[.iface t (wrapV x (cells E x))]
 | .bm f x=>[.func (.func f) #[wrapV x (cells E x)] #[]]
 | .map k=>[.map (some (E.blk k 1))]
 | .agg cs=>cellsL E cs
 | .tup vs=>[.tuple (denL E vs).toArray]
 | .grd _ _=>[undef]
 | .dead=>[undef]
def cellsL (E:Env):List SV→List Value
 | []=>[]
 | x::r=>cells E x++cellsL E r
def denL (E:Env):List SV→List Value
 | []=>[]
 | x::r=>wrapV x (cells E x)::denL E r
end
def den (E:Env) (x:SV):Value:=wrapV x (cells E x)
def Vle (V:List Nat) (k ver:Nat):Prop:=∃ n,V[k]?=some n∧ver < n
def ImmAt (m:Mem) {α:Type} (d:α) (n:Nat) (enc:α→List SV) (xs:List α) (a:Option Addr):Prop:=
 xs≠[]→∃ ad arr t fr,a=some ad∧ad.spot=none∧m ad.block=some (.cells arr t fr) ∧
  ∀ j,j < xs.length→∀ u c,(cellsL E0 (enc (xs.getD j d)))[u]?=some c→arr[ad.off+j * n+u]?=some c
mutual
def Ok (m:Mem) (V:List Nat):SV→Prop
 | .ptr k ver _ _=>Vle V k ver∧ver≠0
 | .ipt _ d n enc xs a j _ _=>j < xs.length∧ImmAt m d n enc xs (some a)∧(∀ x,wdL (enc x)=n)∧∀ j,j < xs.length→OkL m [] (enc (xs.getD j d))
 | .sl k ver _ len _ _=>Vle V k ver∧(ver=0→len=0)
 | .imm _ d n enc xs a cap=>xs.length≤cap∧ImmAt m d n enc xs a∧(∀ x,wdL (enc x)=n)∧∀ j,j < xs.length→OkL m [] (enc (xs.getD j d))
 | .ints _ n xs=>xs.length=n
 | .arr N _ d n enc xs=>xs.length=N∧(∀ x,wdL (enc x)=n)∧∀ j,j < N→OkL m V (enc (xs.getD j d))
 | .fn _ caps=>OkA m V caps
 | .iface _ x=>Ok m V x∧live x=true
 | .bm _ x=>Ok m V x∧live x=true
 | .map k=>Vle V k 1
 | .agg cs=>OkL m V cs
 | .tup vs=>OkA m V vs
 | _=>True
def OkL (m:Mem) (V:List Nat):List SV→Prop
 | []=>True
 | x::r=>(isUnit x=true∧Ok m V x)∧OkL m V r
def OkA (m:Mem) (V:List Nat):List SV→Prop
 | []=>True
 | x::r=>(live x=true∧Ok m V x)∧OkA m V r
end
structure Fr where
 os:Os
 tape:Nat→Question→Nat
 output:Array (Nat×ByteArray)
 F:Mem
 dr:Nat
def vers (H:List SB):List Nat:=H.map SB.lim
def MapHas (E:Env) (kv:List (SV×SV)) (es:List MapEntry):Prop:=
 es.map (fun e=>(e.key,e.val))=kv.map fun p=>(den E p.1,den E p.2)
def Holds (E:Env) (m:Mem) (V:List Nat) (w:World) (k:Nat):SB→Prop
 | .mem t segs ver 0=>ver=1∧∃ b c,E k ver=some (b,c)∧w.heap[b]?=some (.cells (cellsL E segs).toArray t (0,0))∧OkL m V segs
 | .mem t segs ver (gw+1)=>OkL m V segs∧(ver=0→cellsL E segs=[]∧E k 0=none)∧(ver≠0 →
  ∃ b c spare,E k ver=some (b,c)∧w.heap[b]?=some (.cells (cellsL E segs++spare).toArray t (0,0))∧(cellsL E segs).length+spare.length=c * (gw+1)∧c≤maxLen)
 | .mp kv ver=>ver=1∧∃ b c es clock,E k 1=some (b,c)∧w.heap[b]?=some (.map es clock)∧MapHas E kv es.toList∧∀ p ∈ kv,(Ok m V p.1∧live p.1=true)∧Ok m V p.2∧live p.2=true
 | .gone _=>True
 | .fresh=>True
def Z5t (E:Env) (k b:Nat):SB→Prop
 | .mem _ _ ver _=>ver≠0∧∃ c,E k ver=some (b,c)
 | .mp _ ver=>∃ c,E k ver=some (b,c)
 | _=>False
def Zk (E:Env) (H:List SB) (k b:Nat):Prop:=∃ B,H[k]?=some B∧Z5t E k b B
def TbAt (m:Mem) (g:Nat):TbV→Prop
 | .ints k zs=>∃ t fr,m g=some (.cells (zs.map (.int k)).toArray t fr)
 | .ifc=>∃ tt v t fr,m g=some (.cells #[.iface tt v] t fr)
 | .anyI k=>∃ n arr t fr,m g=some (.cells arr t fr)∧arr[0]?=some (.int k n)
def TbOk (m:Mem):Prop:=∀ g v,tabs g=some v→TbAt m g v
theorem TbOk.mono {m m':Mem} (h:TbOk m) (hm:∀ b o,m b=some o→m' b=some o):TbOk m':=fun g v hg=>by
 have:=h g v hg
 cases v with
 | ints k zs=>obtain ⟨t,fr,h1⟩:=this;exact ⟨t,fr,hm _ _ h1⟩
 | ifc=>obtain ⟨tt,v,t,fr,h1⟩:=this;exact ⟨tt,v,t,fr,hm _ _ h1⟩
 | anyI k=>obtain ⟨n,arr,t,fr,h1,h2⟩:=this;exact ⟨n,arr,t,fr,hm _ _ h1,h2⟩
def DrOk (d n:Nat):Prop:=Z5X=true→d≤n
theorem DrOk.refl (n:Nat):DrOk n n:=fun _=>Nat.le_refl n
theorem DrOk.trans {d n m:Nat} (h:DrOk d n) (h':n≤m):DrOk d m:=fun e=>Nat.le_trans (h e) h'
structure Rel (E:Env) (C:Fr) (m:Mem) (H:List SB) (w:World):Prop where
 os:w.os=C.os
 tape:w.tape=C.tape
 output:w.output=C.output∧DrOk C.dr w.drawn
 im:∀ b o,m b=some o→w.heap[b]?=some o
 fr:∀ b o,C.F b=some o→w.heap[b]?=some o
 mf:(∀ b o,C.F b=some o→m b=none)∧TbOk m
 bl:∀ k B,H[k]?=some B→Holds E m (vers H) w k B
 nn:∀ k v,Vle (vers H) k v→v≠0→∃ b c,E k v=some (b,c)
 sp:∀ k b,Zk E H k b→m b=none∧C.F b=none
 inj:∀ j k b,Zk E H j b→Zk E H k b→j=k
inductive GV (t:List SV):List (Nat×Bool)→Bool→Prop where
 | nil:GV t [] true
 | one {d:Nat} {w v:Bool}:t.getD d .dead=.b v→GV t [(d,w)] (v == w)
 | cons {d:Nat} {w v:Bool} {q:List (Nat×Bool)} {g:Bool}:t.getD d .dead=.grd q (.b v)→GV t q g→GV t ((d,w)::q) (g&&(v == w))
def SlotOk (E:Env) (m:Mem) (V:List Nat) (t:List SV) (v:Value):SV→Prop
 | .dead=>True
 | .grd q y=>∃ g,GV t q g∧(g=true→Ok m V y∧live y=true∧v=den E y)∧(g=false→v=undef)
 | x=>Ok m V x∧v=den E x
structure Rep (E:Env) (C:Fr) (m:Mem) (S:St) (a:Act) (w:World):Prop where
 sz:a.tmps.size=S.t.length
 sl:∀ (n:Nat) (x:SV) (v:Value),S.t[n]?=some x→a.tmps[n]?=some v→SlotOk E m (vers S.h) S.t v x
 df:a.defers=[]
 rel:Rel E C m S.h w
structure Ext (E:Env) (m:Mem) (V:List Nat) (E':Env) (m':Mem) (V':List Nat):Prop where
 mm:∀ b o,m b=some o→m' b=some o
 vv:∀ k v,Vle V k v→Vle V' k v
 ee:∀ k v,Vle V k v→E' k v=E k v
structure WpC (P:Program) (c:Code) (K:Exit→St→Prop) (S:St):Prop where
 out:∀ C E m a w,Rep E C m S a w→c.wp P (fun e a' w'=>∃ E' m' S',K e S'∧Ext E m (vers S.h) E' m' (vers S'.h)∧Rep E' C m' S' a' w') a w
def ZcE (K:Act→World→Prop):Exit→Act→World→Prop
 | .normal,a,w=>K a w
 | _,_,_=>False
def opW (P:Program) (ops:Array Oper) (o:Oper) (a:Act) (w:World) (K:Act→World→Prop):Prop:=
 if Region.wanted o (yielded ops a.tmps) then o.wp P a w K (ZcE K) else K (a.put o.dst undef) w
structure OpC (P:Program) (T:Tb) (ops:Array Oper) (o:Oper) (K:St→Prop) (S:St):Prop where
 out:∀ C E m a w,Rep E C m S a w→opW P ops o a w (fun a' w'=>∃ E' m' S',K S'∧Ext E m (vers S.h) E' m' (vers S'.h)∧Rep E' C m' S' a' w')
structure Cp (X:List Value→World→(Value→World→Prop)→Prop) (args:List SV) (H:List SB) (K:SV→List SB→Prop):Prop where
 out:∀ C E m w,Rel E C m H w→OkA m (vers H) args→X (denL E args) w (fun v w'=>∃ r H' E' m',v=den E' r∧K r H'∧(Ok m' (vers H') r∧live r=true)∧Ext E m (vers H) E' m' (vers H')∧Rel E' C m' H' w')
def ZcF (P:Program) (Q:Value→World→Prop):Result Next→Prop
 | .ok (.value v) w=>Q v w
 | .ok (.enter f vs) w=>Calls P f vs w (fun e w'=>∃ v,e=.returned v∧Q v w')
 | .ok (.row row vs) w=>Rows P row vs w Q
 | _=>False
def Z2T (P:Program) (f:FuncId) (vs:List Value) (w:World) (Q:Value→World→Prop):Prop:=
 ZcF P Q ((callFunc f vs.toArray).run P w)
abbrev Ctr (P:Program) (f:FuncId) (args:List SV) (H:List SB) (K:SV→List SB→Prop):Prop:=Cp (Z2T P f) args H K
abbrev CtrV (P:Program) (f:FuncId) (args:List SV) (r:SV):Prop:=Ctr P f args [] (fun r' h=>r'=r∧h=[])
structure Br (b:Bool) (A B:Prop):Prop where
 t:b=true→A
 f:b=false→B
structure Ob (p A:Prop):Prop where
 ob:p
 k:A
def inG (d:Nat):List (Nat×Bool)→Bool
 | []=>false
 | (j,_)::r=>Nat.beq j d||inG d r
def Z2t (d:Nat) (x:SV):SV:=
 match x with
 | .grd q y=>bif inG d q then .dead else .grd q y
 | x=>x
def Z1n (d:Nat) (l:List SV):List SV:=l.map (Z2t d)
def Z7E (d:Nat) (x:SV) (K:SV→Prop):Prop:=
 match x with
 | .grd q y=>bif inG d q then K .dead else K (.grd q y)
 | x=>K x
def setK (d:Nat):List SV→Nat→SV→(List SV→Prop)→Prop
 | x::xs,n+1,v,K=>Z7E d x fun x=>setK d xs n v (fun ys=>K (x::ys))
 | _::xs,0,v,K=>setR d xs (fun ys=>K (v::ys))
 | [],_,_,K=>K []
where
 setR (d:Nat):List SV→(List SV→Prop)→Prop
 | [],K=>K []
 | x::xs,K=>Z7E d x fun x=>setR d xs fun ys=>K (x::ys)
def setH:List SB→Nat→SB→(List SB→Prop)→Prop
 | x::xs,n+1,v,K=>setH xs n v (fun ys=>K (x::ys))
 | _::xs,0,v,K=>K (v::xs)
 | [],_,_,K=>K []
def appH:List SB→List SB→(List SB→Prop)→Prop
 | [],l,K=>K l
 | y::ys,l,K=>appH ys l (fun zs=>K (y::zs))
def Zdr (v:SV) (K:SV→Prop):Prop:=
 match v with
 | .i k n=>K (.i k n)
 | .b x=>K (.b x)
 | .s l=>K (.s l)
 | .raw v=>K (.raw v)
 | .nils=>K .nils
 | .ptr k ver off ix=>K (.ptr k ver off ix)
 | .ipt α d n enc xs a j sub ix=>K (.ipt α d n enc xs a j sub ix)
 | .sl k ver off len cap dc=>K (.sl k ver off len cap dc)
 | .imm α d n enc xs a cap=>K (.imm α d n enc xs a cap)
 | .ints k n xs=>K (.ints k n xs)
 | .arr N α d n enc xs=>K (.arr N α d n enc xs)
 | .fn f caps=>K (.fn f caps)
 | .iface t x=>K (.iface t x)
 | .bm f x=>K (.bm f x)
 | .map k=>K (.map k)
 | .agg cs=>K (.agg cs)
 | .tup vs=>K (.tup vs)
 | .grd p x=>K (.grd p x)
 | .dead=>K .dead
def Z2U (v:SV) (K:SV→Prop):Prop:=
 match v with
 | .i k n=>K (.i k n)
 | .b x=>K (.b x)
 | .s l=>K (.s l)
 | .raw v=>K (.raw v)
 | .nils=>K .nils
 | .ptr k ver off ix=>K (.ptr k ver off ix)
 | .ipt α d n enc xs a j sub ix=>K (.ipt α d n enc xs a j sub ix)
 | .sl k ver off len cap dc=>K (.sl k ver off len cap dc)
 | .imm α d n enc xs a cap=>K (.imm α d n enc xs a cap)
 | .ints k n xs=>K (.ints k n xs)
 | .arr N α d n enc xs=>K (.arr N α d n enc xs)
 | .fn f caps=>K (.fn f caps)
 | .iface t x=>K (.iface t x)
 | .bm f x=>K (.bm f x)
 | .map k=>K (.map k)
 | .agg cs=>K (.agg cs)
 | .tup vs=>K (.tup vs)
 | .grd p x=>Zdr x fun y=>K (.grd p y)
 | .dead=>K .dead
def putK (t:List SV) (h:List SB) (d:Option Nat) (v:SV) (K:St→Prop):Prop:=
 match d with
 | some d=>Z2U v (fun v=>setK d t d v (fun t=>K ⟨t,h⟩))
 | none=>K ⟨t,h⟩
def gB (t:List SV):List (Nat×Bool)→Bool
 | []=>true
 | (d,w)::r=>match t.getD d .dead with
   | .b v=>v == w
   | .grd _ (.b v)=>gB t r&&(v == w)
   | _=>false
def Zt (ops:Array Oper) (t:List SV) (o:Oper):Option (List (Nat×Bool)):=
 match o.guard with
 | none=>some []
 | some (j,want)=>
   match (ops[j]?).bind (·.dst) with
   | some d=>match t.getD d .dead with
     | .b _=>some [(d,want)]
     | .grd q (.b _)=>some ((d,want)::q)
     | _=>none
   | none=>none
def eqP:List (Nat×Bool)→List (Nat×Bool)→Bool
 | [],[]=>true
 | (j,b)::r,(k,c)::s=>Nat.beq j k&&(bif b then c else !c)&&eqP r s
 | _,_=>false
def sufx (q:List (Nat×Bool)):List (Nat×Bool)→Bool
 | []=>eqP q []
 | x::p=>eqP q (x::p)||sufx q p
def evG (p:List (Nat×Bool)) (t:List SV) (o:Operand):SV:=
 match evO t o with
 | .grd q x=>bif sufx q p then x else .dead
 | v=>v
def Z21 (p:List (Nat×Bool)) (t:List SV) (c:Operand) (want:Bool) (o:Operand):SV:=
 match evO t o with
 | .grd q x=>bif sufx q p then x else
   match c,q with
   | .tmp tc,(d,b)::q'=>bif Nat.beq d tc&&(bif b then want else !want)&&sufx q' p then x else .dead
   | _,_=>.dead
 | v=>v
def Z5u (p:List (Nat×Bool)) (t:List SV) (c a b:Operand):R:=
 Z9T (evG p t c) (Z21 p t c true a) (Z21 p t c false b) a b
def Zz (p:List (Nat×Bool)) (d:Option Nat) (x:SV):SV:=
 match p with
 | []=>x
 | _::_=>bif (match d with | some d=>inG d p | none=>false)||!live x then .dead else .grd p x
def updU (u:SV) (x:Ix) (r:List Ix) (new:List SV) (rec:List SV→(List SV→Prop)→Prop) (K:SV→Prop):Prop:=
 match u with
 | .ints k n xs=>match r,new with
   | [],[.i k' v]=>bif k == k'&&Nat.beq x.sz 1&&Nat.beq x.sub 0 then
    (bif x.c then (bif Nat.blt x.i n then K (.ints k n (xs.set x.i v)) else False) else Ob (x.i < n) (K (.ints k n (xs.set x.i v)))) else False
   | _,_=>False
 | .arr N α d n enc xs=>bif Nat.beq x.sz n then
  (bif x.c then (bif Nat.blt x.i N then rec (enc (xs.getD x.i d)) (fun e=>∃ y:α,enc y=e∧K (.arr N α d n enc (xs.set x.i y))) else False)
  else Ob (x.i < N) (rec (enc (xs.getD x.i d)) (fun e=>∃ y:α,enc y=e∧K (.arr N α d n enc (xs.set x.i y))))) else False
 | _=>False
def updK (segs:List SV) (off:Nat) (ix:List Ix) (new:List SV) (K:List SV→Prop):Prop:=
 match ix with
 | []=>match Z1i segs off new with
   | some s=>K s
   | none=>False
 | x::r=>match Z17 segs off,ZI segs off with
   | some pre,some (u::post)=>updU u x r new (fun e K'=>updK e x.sub r new K') (fun u'=>K (pre++u'::post))
   | _,_=>False
def sop (P:Program) (T:Tb) (ops:Array Oper) (o:Oper) (K:St→Prop) (S:St):Prop:=
 match S with
 | ⟨t,h⟩=>
 match Zt ops t o with
 | none=>OpC P T ops o K ⟨t,h⟩
 | some p=>
   match o.op,p with
   | .pick c a b,p=>match Z5u p t c a b with
     | .v x=>putK t h o.dst (Zz p o.dst x) K
     | _=>OpC P T ops o K ⟨t,h⟩
   | .box ty x,[]=>Z2U (evG [] t x) fun v=>bif Zs v then appH h [.mem ty (Zj v) 1 0] (fun h'=>putK t h' o.dst (.ptr h.length 1 0 []) K) else False
   | .alloc ty,[]=>match T ty with
     | some ti=>appH h [.mem ty ti.zero 1 0] (fun h'=>putK t h' o.dst (.ptr h.length 1 0 []) K)
     | none=>False
   | .buildSlice ty len parts,[]=>match T ty with
     | some ti=>match ti.k with
       | .slice e=>match T e with
         | some te=>bif !(Nat.ble (len * te.size) 16777216)||Nat.beq te.size 0 then False else match ZZ te.size (parts.toList.map fun q=>(q.1,evG [] t q.2)) (ZF len te.zero) with
           | some segs=>appH h [.mem e (Z2s ti.flat te len segs) 1 0] (fun h'=>putK t h' o.dst (.sl h.length 1 0 len (some len) 0) K)
           | none=>False
         | none=>False
       | _=>False
     | none=>False
   | .store ty x v,[]=>match T ty,evG [] t x with
     | some ti,.ptr k ver off ix=>match h.getD k .fresh with
       | .mem ty' segs ver' gr=>Z2U (evG [] t v) fun v=>bif Zs v&&wdB (Zj v) ti.size then
        (match gr with
        | 0=>updK segs off ix (Zj v) fun segs'=>setH h k (.mem ty' segs' ver' gr) fun h'=>putK t h' o.dst .dead K
        | _+1=>Ob (ver=ver') (updK segs off ix (Zj v) fun segs'=>setH h k (.mem ty' segs' ver' gr) fun h'=>putK t h' o.dst .dead K)) else False
       | _=>False
     | _,_=>OpC P T ops o K ⟨t,h⟩
   | op,p=>match Zx T h (evG p t) op with
     | .v x=>putK t h o.dst (Zz p o.dst x) K
     | @R.ob pr _ x=>Ob (gB t p=true→pr) (putK t h o.dst (Zz p o.dst x) K)
     | .no=>OpC P T ops o K ⟨t,h⟩
def sreg (P:Program) (T:Tb) (ops:Array Oper):List Oper→(St→Prop)→St→Prop
 | [],K,S=>K S
 | o::rest,K,S=>sop P T ops o (sreg P T ops rest K) S
def sx (P:Program) (T:Tb):Code→(Exit→St→Prop)→St→Prop
 | .seq a b,K,S=>sx P T a (fun e S'=>match e with | .normal=>sx P T b K S' | e=>K e S') S
 | .cond c x y,K,S=>match evO S.t c with
   | .b b=>Br b (sx P T x K S) (sx P T y K S)
   | _=>False
 | .block id c,K,S=>sx P T c (fun e S'=>match e with | .exit j=>bif Nat.beq j id then K .normal S' else K (.exit j) S' | e=>K e S') S
 | .exit id,K,S=>K (.exit id) S
 | .ret,K,S=>K .ret S
 | .skip,K,S=>K .normal S
 | .label _,K,S=>K .normal S
 | .region _ ops false,K,S=>sreg P T ops ops.toList (K .normal) S
 | c,K,S=>WpC P c K S
def resR (T:Tb) (S:St):ResultVar→Option SV
 | .tmp n=>match S.t.getD n .dead with
   | .dead=>none
   | .grd _ _=>none
   | x=>some x
 | .cell p ty=>match Z20 T S.h ty (evO S.t (.tmp p)) with
   | .v x=>some x
   | _=>none
def resL (T:Tb) (S:St):List ResultVar→Option (List SV)
 | []=>some []
 | r::rs=>match resR T S r with
   | some x=>match resL T S rs with
     | some xs=>some (x::xs)
     | none=>none
   | none=>none
def retK (T:Tb) (rs:List ResultVar) (K:SV→List SB→Prop) (e:Exit) (S:St):Prop:=
 match e with
 | .normal=>(match resL T S rs with
   | some [x]=>K x S.h
   | some xs=>K (.tup xs) S.h
   | none=>False)
 | .ret=>(match resL T S rs with
   | some [x]=>K x S.h
   | some xs=>K (.tup xs) S.h
   | none=>False)
 | _=>False
theorem Z36 {α β:Type} {f g:α→List β}:∀ {l:List α},(∀ x ∈ l,f x=g x)→l.flatMap f=l.flatMap g
 | [],_=>rfl
 | x::l,h=>by simp only [List.flatMap_cons,h x (List.mem_cons_self ..),Z36 (fun y hy=>h y (List.mem_cons_of_mem _ hy))]
mutual
theorem cells_stable {m:Mem} {V:List Nat} {E E':Env} (hE:∀ k v,Vle V k v→E' k v=E k v):∀ x:SV,Ok m V x→cells E' x=cells E x
 | .i _ _,_ | .b _,_ | .s _,_ | .raw _,_ | .nils,_ | .imm _ _ _ _ _ _ _,_ | .ipt _ _ _ _ _ _ _ _ _,_ | .dead,_ | .grd _ _,_=>by simp [cells]
 | .ptr k ver _ _,h=>by simp only [Ok] at h;simp [cells,Env.blk,hE _ _ h.1]
 | .sl k ver _ _ _ _,h=>by simp only [Ok] at h;simp [cells,hE _ _ h.1]
 | .ints _ _ _,_=>by simp [cells]
 | .arr N _ d _ enc xs,h=>by
   simp only [Ok] at h
   simp only [cells]
   refine Z36 fun j hj=>?_
   exact cellsL_stable hE (enc (xs.getD j d)) (h.2.2 j (List.mem_range.1 hj))
 | .fn f caps,h=>by simp only [Ok] at h;simp only [cells,denL_stable hE caps h]
 | .iface t x,h=>by simp only [Ok] at h;simp only [cells,cells_stable hE x h.1]
 | .bm t x,h=>by simp only [Ok] at h;simp only [cells,cells_stable hE x h.1]
 | .map k,h=>by simp only [Ok] at h;simp [cells,Env.blk,hE _ _ h]
 | .agg cs,h=>by simp only [Ok] at h;simp only [cells,cellsL_stable hE cs h]
 | .tup vs,h=>by simp only [Ok] at h;simp only [cells,denL_stable hE vs h]
theorem cellsL_stable {m:Mem} {V:List Nat} {E E':Env} (hE:∀ k v,Vle V k v→E' k v=E k v):∀ l:List SV,OkL m V l→cellsL E' l=cellsL E l
 | [],_=>rfl
 | x::r,h=>by simp only [OkL] at h;simp only [cellsL,cells_stable hE x h.1.2,cellsL_stable hE r h.2]
theorem denL_stable {m:Mem} {V:List Nat} {E E':Env} (hE:∀ k v,Vle V k v→E' k v=E k v):∀ l:List SV,OkA m V l→denL E' l=denL E l
 | [],_=>rfl
 | x::r,h=>by simp only [OkA] at h;simp only [denL,cells_stable hE x h.1.2,denL_stable hE r h.2]
end
theorem Z2u {m:Mem} {V:List Nat} {E E':Env} (hE:∀ k v,Vle V k v→E' k v=E k v) (x:SV) (h:Ok m V x):den E' x=den E x:=by
 simp only [den,cells_stable hE x h]
theorem ImmAt.mono {m m':Mem} (hm:∀ b o,m b=some o→m' b=some o) {α:Type} {d:α} {n:Nat} {enc:α→List SV} {xs:List α} {a:Option Addr} (h:ImmAt m d n enc xs a):ImmAt m' d n enc xs a:=
 fun hx=>let ⟨ad,arr,t,fr,h1,h2,h3,h4⟩:=h hx;⟨ad,arr,t,fr,h1,h2,hm _ _ h3,h4⟩
mutual
theorem Ok.mono {m m':Mem} (hm:∀ b o,m b=some o→m' b=some o):∀ (x:SV) (V V':List Nat),(∀ k v,Vle V k v→Vle V' k v)→Ok m V x→Ok m' V' x
 | .i _ _,_,_,_,_ | .b _,_,_,_,_ | .s _,_,_,_,_ | .raw _,_,_,_,_ | .nils,_,_,_,_ | .dead,_,_,_,_ | .grd _ _,_,_,_,_=>by simp [Ok]
 | .ptr _ _ _ _,_,_,hV,h=>by simp only [Ok] at h ⊢;exact ⟨hV _ _ h.1,h.2⟩
 | .sl _ _ _ _ _ _,_,_,hV,h=>by simp only [Ok] at h ⊢;exact ⟨hV _ _ h.1,h.2⟩
 | .map _,_,_,hV,h=>by simp only [Ok] at h ⊢;exact hV _ _ h
 | .ints _ _ _,_,_,_,h=>by simp only [Ok] at h ⊢;exact h
 | .imm _ d n enc xs a cap,_,_,_,h=>by
   simp only [Ok] at h ⊢
   exact ⟨h.1,h.2.1.mono hm,h.2.2.1,fun j hj=>OkL.mono hm _ [] [] (fun _ _ h=>h) (h.2.2.2 j hj)⟩
 | .ipt _ d n enc xs a j sub ix,_,_,_,h=>by
   simp only [Ok] at h ⊢
   exact ⟨h.1,h.2.1.mono hm,h.2.2.1,fun j hj=>OkL.mono hm _ [] [] (fun _ _ h=>h) (h.2.2.2 j hj)⟩
 | .arr N _ d n enc xs,V,V',hV,h=>by
   simp only [Ok] at h ⊢
   exact ⟨h.1,h.2.1,fun j hj=>OkL.mono hm _ V V' hV (h.2.2 j hj)⟩
 | .fn _ caps,V,V',hV,h=>by simp only [Ok] at h ⊢;exact OkA.mono hm caps V V' hV h
 | .iface _ x,V,V',hV,h=>by simp only [Ok] at h ⊢;exact ⟨Ok.mono hm x V V' hV h.1,h.2⟩
 | .bm _ x,V,V',hV,h=>by simp only [Ok] at h ⊢;exact ⟨Ok.mono hm x V V' hV h.1,h.2⟩
 | .agg cs,V,V',hV,h=>by simp only [Ok] at h ⊢;exact OkL.mono hm cs V V' hV h
 | .tup vs,V,V',hV,h=>by simp only [Ok] at h ⊢;exact OkA.mono hm vs V V' hV h
theorem OkL.mono {m m':Mem} (hm:∀ b o,m b=some o→m' b=some o):∀ (l:List SV) (V V':List Nat),(∀ k v,Vle V k v→Vle V' k v)→OkL m V l→OkL m' V' l
 | [],_,_,_,_=>by simp [OkL]
 | x::r,V,V',hV,h=>by simp only [OkL] at h ⊢;exact ⟨⟨h.1.1,Ok.mono hm x V V' hV h.1.2⟩,OkL.mono hm r V V' hV h.2⟩
theorem OkA.mono {m m':Mem} (hm:∀ b o,m b=some o→m' b=some o):∀ (l:List SV) (V V':List Nat),(∀ k v,Vle V k v→Vle V' k v)→OkA m V l→OkA m' V' l
 | [],_,_,_,_=>by simp [OkA]
 | x::r,V,V',hV,h=>by simp only [OkA] at h ⊢;exact ⟨⟨h.1.1,Ok.mono hm x V V' hV h.1.2⟩,OkA.mono hm r V V' hV h.2⟩
end
mutual
theorem length_cells {m:Mem} (E:Env):∀ (x:SV) (V:List Nat),isUnit x=true→Ok m V x→(cells E x).length=wd x
 | .i _ _,_,_,_ | .b _,_,_,_ | .s _,_,_,_ | .raw _,_,_,_ | .nils,_,_,_ | .imm _ _ _ _ _ _ _,_,_,_ | .ipt _ _ _ _ _ _ _ _ _,_,_,_ | .ptr _ _ _ _,_,_,_ | .sl _ _ _ _ _ _,_,_,_ | .fn _ _,_,_,_ | .iface _ _,_,_,_ | .bm _ _,_,_,_ | .map _,_,_,_=>by simp [cells,wd]
 | .dead,_,hu,_=>by simp [isUnit] at hu
 | .agg _,_,hu,_=>by simp [isUnit] at hu
 | .tup _,_,hu,_=>by simp [isUnit] at hu
 | .grd _ _,_,hu,_=>by simp [isUnit] at hu
 | .ints _ n xs,_,_,h=>by simp only [Ok] at h;simp [cells,wd,h]
 | .arr N _ d n enc xs,V,_,h=>by
   simp only [Ok] at h
   simp only [cells,wd,List.length_flatMap]
   have:(List.range N).map (fun j=>(cellsL E (enc (xs.getD j d))).length)=List.replicate N n:=by
    apply List.ext_getElem
    ·simp
    ·intro j h1 h2
     simp only [List.getElem_map,List.getElem_range,List.getElem_replicate]
     rw [length_cellsL E _ V (h.2.2 j (by simpa using h1)),h.2.1]
   rw [this]
   simp
theorem length_cellsL {m:Mem} (E:Env):∀ (l:List SV) (V:List Nat),OkL m V l→(cellsL E l).length=wdL l
 | [],_,_=>by simp [cellsL,wdL]
 | x::r,V,h=>by simp only [OkL] at h;simp only [cellsL,wdL,List.length_append,length_cells E x V h.1.1 h.1.2,length_cellsL E r V h.2]
end
theorem Zl (E:Env):∀ a b:List SV,cellsL E (a++b)=cellsL E a++cellsL E b
 | [],b=>by simp [cellsL]
 | x::a,b=>by simp only [List.cons_append,cellsL,Zl E a b,List.append_assoc]
theorem OkL_append {m:Mem} {V:List Nat}:∀ {a b:List SV},OkL m V (a++b) ↔ OkL m V a∧OkL m V b
 | [],b=>by simp [OkL]
 | x::a,b=>by simp only [List.cons_append,OkL,OkL_append (a:=a) (b:=b),and_assoc]
theorem Z3Q:∀ {l:List SV} {n:Nat} {r:List SV},ZI l n=some r→∃ p,l=p++r∧wdL p=n
 | l,0,r,h=>by simp [ZI] at h;exact ⟨[],by simp [h],rfl⟩
 | [],n+1,r,h=>by simp [ZI] at h
 | x::xs,n+1,r,h=>by
   simp only [ZI] at h
   cases hb:Nat.ble (wd x) (n+1) with
   | false=>simp [hb] at h
   | true=>
     simp only [hb,cond_true] at h
     obtain ⟨p,hp,hw⟩:=Z3Q h
     have:=Nat.le_of_ble_eq_true hb
     exact ⟨x::p,by simp [hp],by simp only [wdL,hw];omega⟩
theorem Z2v:∀ {l:List SV} {n:Nat} {p:List SV},Z17 l n=some p→∃ r,l=p++r∧wdL p=n
 | l,0,r,h=>by
   have h':r=[]:=by cases l <;> simpa [Z17,eq_comm] using h
   exact ⟨l,by simp [h'],by simp [h',wdL]⟩
 | [],n+1,r,h=>by simp [Z17] at h
 | x::xs,n+1,p,h=>by
   simp only [Z17] at h
   cases hb:Nat.ble (wd x) (n+1) with
   | false=>simp [hb] at h
   | true=>
     simp only [hb,cond_true] at h
     have:=Nat.le_of_ble_eq_true hb
     cases ht:Z17 xs (n+1 - wd x) with
     | none=>simp [ht] at h
     | some q=>
       simp only [ht,Option.some.injEq] at h
       obtain ⟨r,hr,hw⟩:=Z2v ht
       exact ⟨r,by simp [hr,← h],by rw [← h];simp only [wdL,hw];omega⟩
section
def kokB (P:Program):TK→TypeDesc→Bool
 | .bool,.bool=>true
 | .int k,.int k'=>k == k'
 | .str,.string=>true
 | .ptr e,.pointer e'=>Nat.beq e e'
 | .slice e,.slice e'=>Nat.beq e e'
 | .map k v,.map k' v'=>Nat.beq k k'&&Nat.beq v v'
 | .struct fs,.struct fields=>decide (fields.toList.map (fun f=>(f.offset,f.type))=fs)&&fields.toList.all fun f=>match P.info? f.type with | some i=>!(Nat.beq i.size 0) | none=>false
 | .array n e,.array n' e'=>Nat.beq n n'&&Nat.beq e e'
 | .func,.func _ _ _=>true
 | .iface nm,.interface ms=>nm == !ms.isEmpty
 | .other,.struct _=>false
 | .other,.array _ _=>false
 | .other,.interface _=>false
 | .other,_=>true
 | _,_=>false
structure TiOk (P:Program) (t:TypeId) (ti:TI):Prop where
 info:(P.info? t).map (fun i=>(i.size,i.bytes,i.zero.map fun z=>z.cells.toList))=some (ti.size,ti.bytes,some (cellsL E0 ti.zero))
 zok:OkL (fun _=>none) [] ti.zero
 zw:wdL ti.zero=ti.size
 kok:(match P.underlying t with | some d=>kokB P ti.k d | none=>false)=true
def TOk (P:Program) (T:Tb):Prop:=∀ t ti,T t=some ti→TiOk P t ti
section
variable {P:Program} {t:TypeId} {ti:TI}
theorem TiOk.inf (h:TiOk P t ti):∃ i z,P.info? t=some i∧i.size=ti.size∧i.bytes=ti.bytes∧i.zero=some z∧z.cells.toList=cellsL E0 ti.zero:=by
 have h1:=h.info
 cases hi:P.info? t with
 | none=>simp [hi] at h1
 | some i=>
   simp only [hi,Option.map_some,Option.some.injEq,Prod.mk.injEq] at h1
   obtain ⟨h2,h3,h4⟩:=h1
   cases hz:i.zero with
   | none=>simp [hz] at h4
   | some z=>
     simp only [hz,Option.map_some,Option.some.injEq] at h4
     exact ⟨i,z,rfl,h2,h3,hz,h4⟩
theorem TiOk.desc (h:TiOk P t ti):∃ d,P.underlying t=some d∧kokB P ti.k d=true:=by
 have h1:=h.kok
 cases hi:P.underlying t with
 | none=>simp [hi] at h1
 | some d=>exact ⟨d,rfl,by simpa [hi] using h1⟩
theorem TiOk.run_sizeOf (h:TiOk P t ti) (w:World):(sizeOf t).run P w=.ok ti.size w:=by
 obtain ⟨i,z,hi,hs,_⟩:=h.inf
 simp [sizeOf,typeInfo,hi,hs]
theorem TiOk.run_typeInfo (h:TiOk P t ti) (w:World):∃ i,(typeInfo t).run P w=.ok i w∧i.bytes=ti.bytes:=by
 obtain ⟨i,z,hi,hs,hb,_⟩:=h.inf
 exact ⟨i,by simp [typeInfo,hi],hb⟩
theorem TiOk.run_zero (h:TiOk P t ti) (w:World):∃ z,(zeroValue t).run P w=.ok z w∧z.cells.toList=cellsL E0 ti.zero:=by
 obtain ⟨i,z,hi,hs,hb,hz,hc⟩:=h.inf
 exact ⟨z,by simp [zeroValue,typeInfo,hi,hz],hc⟩
theorem Z6 {d:TypeDesc} (h:P.underlying t=some d) (w:World):(underlying t).run P w=.ok d w:=by simp [underlying,h]
theorem TiOk.run_isAgg (h:TiOk P t ti) (w:World):(isAgg t).run P w=.ok ti.k.agg w:=by
 obtain ⟨d,hd,hk⟩:=h.desc
 simp only [isAgg,Sem.run_bind,Z6 hd,Result.andThen_ok]
 cases hkk:ti.k <;> cases d <;> simp [hkk,kokB,TK.agg] at hk ⊢
theorem TiOk.slice (h:TiOk P t ti) {e:TypeId} (hk:ti.k=.slice e):P.underlying t=some (.slice e):=by
 obtain ⟨d,hd,hh⟩:=h.desc
 cases d <;> simp [hk,kokB] at hh
 subst hh;exact hd
theorem TiOk.array (h:TiOk P t ti) {n:Nat} {e:TypeId} (hk:ti.k=.array n e):P.underlying t=some (.array n e):=by
 obtain ⟨d,hd,hh⟩:=h.desc
 cases d <;> simp [hk,kokB] at hh
 obtain ⟨h1,h2⟩:=hh;subst h1;subst h2;exact hd
theorem TiOk.ptr (h:TiOk P t ti) {e:TypeId} (hk:ti.k=.ptr e):P.underlying t=some (.pointer e):=by
 obtain ⟨d,hd,hh⟩:=h.desc
 cases d <;> simp [hk,kokB] at hh
 subst hh;exact hd
theorem TiOk.int (h:TiOk P t ti) {k:IntKind} (hk:ti.k=.int k):P.underlying t=some (.int k):=by
 obtain ⟨d,hd,hh⟩:=h.desc
 cases d <;> simp [hk,kokB] at hh
 subst hh;exact hd
theorem TiOk.str (h:TiOk P t ti) (hk:ti.k=.str):P.underlying t=some .string:=by
 obtain ⟨d,hd,hh⟩:=h.desc
 cases d <;> simp [hk,kokB] at hh
 exact hd
theorem TiOk.struct (h:TiOk P t ti) {fs:List (Nat×TypeId)} (hk:ti.k=.struct fs):∃ fields,P.underlying t=some (.struct fields)∧fields.toList.map (fun f=>(f.offset,f.type))=fs∧∀ f ∈ fields.toList,∃ i,P.info? f.type=some i∧i.size≠0:=by
 obtain ⟨d,hd,hh⟩:=h.desc
 cases d <;> simp [hk,kokB] at hh
 rename_i fields
 refine ⟨fields,hd,hh.1,fun f hf=>?_⟩
 have h2:=hh.2
 obtain ⟨j,hj,he⟩:=List.mem_iff_getElem.1 hf
 have:=h2 j (by simpa using hj)
 simp only [Array.getElem_toList] at he
 rw [he] at this
 cases hi:P.info? f.type with
 | none=>simp [hi] at this
 | some i=>
   refine ⟨i,rfl,fun e=>?_⟩
   simp [hi,e] at this
end
theorem ZD (b o j:Nat):(⟨b,o,none⟩:Addr).add j=⟨b,o+j,none⟩:=by unfold Addr.add;split <;> simp_all
theorem Z4c {a:Addr} (h:a.spot=none) (j:Nat):a.add j=⟨a.block,a.off+j,none⟩:=by
 obtain ⟨b,o,s⟩:=a;simp at h;subst h;exact ZD b o j
def NR.To (r:NR) (l:List SV):Prop:=r=.ok l∨∃ p d,r=@NR.ob p d l∧p
@[simp] theorem NR.To_ok {a l:List SV}:(NR.ok a).To l ↔ a=l:=by simp [NR.To]
@[simp] theorem NR.To_ob {p:Prop} {d:Decidable p} {a l:List SV}:(@NR.ob p d a).To l ↔ p∧a=l:=by
  constructor
  ·rintro (h | ⟨q,_,h,hq⟩)
   ·cases h
   ·cases h;exact ⟨hq,rfl⟩
  ·rintro ⟨hp,rfl⟩;exact .inr ⟨p,d,rfl,hp⟩
@[simp] theorem NR.To_no {l:List SV}:(NR.no).To l ↔ False:=by simp [NR.To]
theorem Z3R {α:Type} (f:Nat→List α) (n:Nat):∀ (N s i u:Nat) (c:α),(∀ j,s≤j→j < s+N→(f j).length=n)→i < N→(f (s+i))[u]?=some c→((List.range' s N).flatMap f)[i * n+u]?=some c
 | 0,_,_,_,_,_,hi,_=>by omega
 | N+1,s,0,u,c,hl,_,hc=>by
   have hu:u < (f s).length:=by have:=(List.getElem?_eq_some_iff.1 hc).1;simpa using this
   simp only [List.range'_succ,List.flatMap_cons,Nat.zero_mul,Nat.zero_add]
   rw [List.getElem?_append_left hu]
   simpa using hc
 | N+1,s,i+1,u,c,hl,hi,hc=>by
   have h0:=hl s (Nat.le_refl _) (by omega)
   simp only [List.range'_succ,List.flatMap_cons]
   rw [List.getElem?_append_right (by rw [h0];rw [Nat.add_mul];omega)]
   have:=Z3R f n N (s+1) i u c (fun j h1 h2=>hl j (by omega) (by omega)) (by omega) (by rw [show s+1+i=s+(i+1) by omega];exact hc)
   rw [h0,show (i+1) * n+u - n=i * n+u by rw [Nat.add_mul];omega]
   exact this
theorem Z37 {m:Mem} {V:List Nat} {E:Env} {N:Nat} {α:Type} {d:α} {n:Nat} {enc:α→List SV} {xs:List α} (h:Ok m V (.arr N α d n enc xs)) {i u:Nat} {c:Value} (hi:i < N)
 (hc:(cellsL E (enc (xs.getD i d)))[u]?=some c):(cells E (.arr N α d n enc xs))[i * n+u]?=some c:=by
 simp only [Ok] at h
 simp only [cells,List.range_eq_range']
 refine Z3R (fun j=>cellsL E (enc (xs.getD j d))) n N 0 i u c (fun j _ hj=>?_) hi (by simpa using hc)
 show (cellsL E (enc (xs.getD j d))).length=n
 rw [length_cellsL E _ V (h.2.2 j (by omega)),h.2.1]
theorem Z2L {m:Mem} {V:List Nat} (E:Env) {l r:List SV} {n:Nat} (h:ZI l n=some r) (hl:OkL m V l):OkL m V r∧∀ u c,(cellsL E r)[u]?=some c→(cellsL E l)[n+u]?=some c:=by
 obtain ⟨p,hp,hw⟩:=Z3Q h
 subst hp
 have:=OkL_append.1 hl
 refine ⟨this.2,fun u c hc=>?_⟩
 have hlen:=length_cellsL E p V this.1
 rw [Zl,List.getElem?_append_right (by omega),hlen,hw,show n+u - n=u by omega]
 exact hc
theorem Z7F {m:Mem} {V:List Nat} {E:Env} {u:SV} {x:Ix} {l:List SV} (h:(Z2e u x).To l) (hu:Ok m V u) :
 OkL m V l∧∀ j c,(cellsL E l)[j]?=some c→(cells E u)[x.i * x.sz+x.sub+j]?=some c:=by
 obtain ⟨xc,xi,xsz,xsub⟩:=x
 cases u <;> try (simp [Z2e] at h;done)
 case ints k n xs=>
  simp only [Z2e] at h
  by_cases h1:Nat.beq xsz 1=true
  ·by_cases h2:Nat.beq xsub 0=true
   ·have e1:=Nat.eq_of_beq_eq_true h1
    have e2:=Nat.eq_of_beq_eq_true h2
    subst e1;subst e2
    have hlt:xi < n∧l=[.i k (xs.getD xi 0)]:=by
     cases xc with
     | true=>
       cases h3:Nat.blt xi n with
       | true=>
         have:=Nat.le_of_ble_eq_true h3
         simp [h3] at h
         exact ⟨by omega,by simp [← h]⟩
       | false=>simp [h3] at h
     | false=>simp at h;exact ⟨h.1,by simp [← h.2]⟩
    obtain ⟨hlt,rfl⟩:=hlt
    simp only [Ok] at hu
    refine ⟨by simp [OkL,Ok,isUnit],fun j c hc=>?_⟩
    simp only [cellsL,cells,List.append_nil] at hc
    have hj:j=0:=by
     have:=(List.getElem?_eq_some_iff.1 hc).1
     simp at this;exact this
    subst hj
    simp at hc
    have hx:xi < xs.length:=by omega
    simp [cells,hx,← hc]
   ·simp [h1,h2] at h
  ·simp [h1] at h
 case arr N α d n enc xs=>
  simp only [Z2e] at h
  by_cases h1:Nat.beq xsz n=true
  ·have e1:=Nat.eq_of_beq_eq_true h1
   subst e1
   simp only [h1,cond_true] at h
   cases hd:ZI (enc (xs.getD xi d)) xsub with
   | none=>rw [hd] at h;simp at h
   | some l'=>
     simp only [hd] at h
     have hlt:xi < N∧l=l':=by
      cases xc with
      | true=>
        cases h3:Nat.blt xi N with
        | true=>
          have:=Nat.le_of_ble_eq_true h3
          simp [h3] at h
          exact ⟨by omega,by simp [← h]⟩
        | false=>simp [h3] at h
      | false=>simp at h;exact ⟨h.1,by simp [← h.2]⟩
     obtain ⟨hlt,rfl⟩:=hlt
     have hu':=hu
     simp only [Ok] at hu'
     obtain ⟨o1,o2⟩:=Z2L E hd (hu'.2.2 xi hlt)
     refine ⟨o1,fun j c hc=>?_⟩
     show (cells E (.arr N α d xsz enc xs))[xi * xsz+xsub+j]?=some c
     rw [Nat.add_assoc]
     exact Z37 hu hlt (o2 j c hc)
  ·simp [h1] at h
theorem Zfx {u:SV} {x:Ix} {l:List SV} (h:(Z2e u x).To l):x.i < ZcD u:=by
 obtain ⟨xc,xi,xsz,xsub⟩:=x
 cases u <;> try (simp [Z2e] at h;done)
 case ints k n xs=>
  simp only [Z2e] at h
  cases hb:(Nat.beq xsz 1&&Nat.beq xsub 0) with
  | false=>simp [hb] at h
  | true=>
    simp only [hb,cond_true] at h
    cases xc with
    | true=>
      cases h3:Nat.blt xi n with
      | true=>exact Nat.le_of_ble_eq_true h3
      | false=>simp [h3] at h
    | false=>simp at h;exact h.1
 case arr N α d n enc xs=>
  simp only [Z2e] at h
  cases hb:Nat.beq xsz n with
  | false=>simp [hb] at h
  | true=>
    simp only [hb,cond_true] at h
    split at h
    ·cases xc with
     | true=>
       cases h3:Nat.blt xi N with
       | true=>exact Nat.le_of_ble_eq_true h3
       | false=>simp [h3] at h
     | false=>simp at h;exact h.1
    ·simp at h
theorem Z93 {m:Mem} {V:List Nat} {E:Env}:∀ {ix:List Ix} {l0 l:List SV},(navI l0 ix).To l→OkL m V l0→OkL m V l∧∀ j c,(cellsL E l)[j]?=some c→(cellsL E l0)[ofs ix+j]?=some c
 | [],l0,l,h,h0=>by
   have:l0=l:=by cases l0 <;> simpa [navI] using h
   subst this
   exact ⟨h0,fun j c hc=>by simpa [ofs] using hc⟩
 | x::r,[],l,h,_=>by simp [navI] at h
 | x::r,u::l0,l,h,h0=>by
   simp only [OkL] at h0
   have key:∃ l1,(Z2e u x).To l1∧(navI l1 r).To l:=by
    simp only [navI] at h
    cases hs:Z2e u x with
    | no=>simp [hs] at h
    | ok l1=>exact ⟨l1,by simp,by simpa [hs] using h⟩
    | ob p l1=>
      simp only [hs] at h
      cases hn:navI l1 r with
      | no=>simp [hn] at h
      | ok z=>simp [hn] at h;exact ⟨l1,by simp [h.1],by simp [hn,h.2]⟩
      | ob q z=>simp [hn] at h;exact ⟨l1,by simp [h.1.1],by simp [hn,h.1.2,h.2]⟩
   obtain ⟨l1,h1,h2⟩:=key
   obtain ⟨o1,c1⟩:=Z7F (E:=E) h1 h0.1.2
   obtain ⟨o2,c2⟩:=Z93 (E:=E) h2 o1
   refine ⟨o2,fun j c hc=>?_⟩
   have h3:=c1 _ _ (c2 j c hc)
   have hlt:x.i * x.sz+x.sub+(ofs r+j) < (cells E u).length:=(List.getElem?_eq_some_iff.1 h3).1
   simp only [ofs,cellsL,Nat.add_assoc]
   rw [List.getElem?_append_left (by omega)]
   rw [← h3];congr 1;omega
theorem Z77 {m:Mem} {V:List Nat} {E:Env} {segs l:List SV} {off:Nat} {ix:List Ix} (h:(nav segs off ix).To l) (h0:OkL m V segs) :
 OkL m V l∧∀ j c,(cellsL E l)[j]?=some c→(cellsL E segs)[off+ofs ix+j]?=some c:=by
 unfold nav at h
 cases hd:ZI segs off with
 | none=>simp [hd] at h
 | some l1=>
   simp only [hd] at h
   obtain ⟨o1,c1⟩:=Z2L E hd h0
   obtain ⟨o2,c2⟩:=Z93 (E:=E) h o1
   exact ⟨o2,fun j c hc=>by rw [Nat.add_assoc];exact c1 _ _ (c2 j c hc)⟩
end
section
def R.To (r:R) (x:SV):Prop:=r=.v x∨∃ p d,r=@R.ob p d x∧p
@[simp] theorem Zds {a x:SV}:(R.v a).To x ↔ a=x:=by simp [R.To]
@[simp] theorem ZgD {p:Prop} {d:Decidable p} {a x:SV}:(@R.ob p d a).To x ↔ p∧a=x:=by
  constructor
  ·rintro (h | ⟨q,_,h,hq⟩)
   ·cases h
   ·cases h;exact ⟨hq,rfl⟩
  ·rintro ⟨hp,rfl⟩;exact .inr ⟨p,d,rfl,hp⟩
@[simp] theorem R.To_no {x:SV}:(R.no).To x ↔ False:=by simp [R.To]
theorem Z6x {p:Prop} [Decidable p] {r:R} {x:SV} (h:(andR p r).To x):p∧r.To x:=by
 cases r <;> simp [andR] at h ⊢
 ·exact h
 ·exact ⟨h.1.1,h.1.2,h.2⟩
def Gd (m:Mem) (V:List Nat) (x:SV):Prop:=Ok m V x∧live x=true
theorem Z7G {agg:Bool} {size:Nat} {nr:NR} {x:SV} (h:(rdR agg size nr).To x):∃ l,nr.To l∧rdT agg size l=some x:=by
 cases nr with
 | no=>simp [rdR] at h
 | ok l=>
   simp only [rdR] at h
   cases hr:rdT agg size l with
   | none=>simp [hr] at h
   | some y=>simp [hr] at h;exact ⟨l,by simp,by rw [hr,h]⟩
 | ob p l=>
   simp only [rdR] at h
   cases hr:rdT agg size l with
   | none=>simp [hr] at h
   | some y=>simp [hr] at h;exact ⟨l,by simp [h.1],by rw [hr,h.2]⟩
theorem Zfy {E:Env} {x:SV} (h:Z27 x=true):cells E x=[den E x]:=by
 cases x <;> simp [Z27] at h <;> simp [den,wrapV,cells]
theorem ZbE {x:SV} (h:Z27 x=true):live x=true:=by cases x <;> simp [Z27] at h <;> rfl
theorem den_agg (E:Env) (cs:List SV):den E (.agg cs)=.agg (cellsL E cs).toArray:=by simp [den,wrapV,cells]
theorem Gd.agg {m:Mem} {V:List Nat} {cs:List SV} (h:OkL m V cs):Gd m V (.agg cs):=⟨by simp only [Ok];exact h,rfl⟩
theorem Z8z {m:Mem} {V:List Nat} {E:Env} {size:Nat} {l:List SV} {x:SV} (h:rdT true size l=some x) (hl:OkL m V l) :
 ∃ cs:List SV,x=.agg cs∧OkL m V cs∧(cellsL E cs).length=size∧∀ (u:Nat) (c:Value),(cellsL E cs)[u]?=some c→(cellsL E l)[u]?=some c:=by
 simp only [rdT,cond_true] at h
 cases ht:Z17 l size with
 | none=>simp [ht] at h
 | some cs=>
   simp only [ht,Option.some.injEq] at h
   obtain ⟨r,hr,hw⟩:=Z2v ht
   subst hr
   have ho:=OkL_append.1 hl
   refine ⟨cs,h.symm,ho.1,by rw [length_cellsL E cs V ho.1,hw],fun u c hc=>?_⟩
   rw [Zl,List.getElem?_append_left (List.getElem?_eq_some_iff.1 hc).1]
   exact hc
theorem Z78 {m:Mem} {V:List Nat} {E:Env} {size:Nat} {l:List SV} {x:SV} (h:rdT false size l=some x) (hl:OkL m V l) :
 Gd m V x∧Z27 x=true∧(cellsL E l)[0]?=some (den E x):=by
 simp only [rdT,cond_false] at h
 cases l with
 | nil=>simp at h
 | cons y r=>
   simp only at h
   cases hc:Z27 y with
   | false=>simp [hc] at h
   | true=>
     simp only [hc,cond_true,Option.some.injEq] at h
     subst h
     simp only [OkL] at hl
     exact ⟨⟨hl.1.2,ZbE hc⟩,hc,by simp [cellsL,Zfy hc]⟩
theorem Zaj {m:Mem} {V:List Nat} {agg:Bool} {size:Nat} {l:List SV} {x:SV} (h:rdT agg size l=some x) (hl:OkL m V l):Gd m V x:=by
 cases agg with
 | true=>obtain ⟨cs,rfl,ho,_⟩:=Z8z (E:=E0) h hl;exact .agg ho
 | false=>exact (Z78 (E:=E0) h hl).1
theorem Z58 {P:Program} {t:TypeId} {ti:TI} (hti:TiOk P t ti) {m:Mem} {V:List Nat} {E:Env} {l:List SV} {x:SV} {w:World} {b o:Nat}
 (hl:OkL m V l) (hat:∀ u c,(cellsL E l)[u]?=some c→w.cell? ⟨b,o+u,none⟩=some c) (h:rdT ti.k.agg ti.size l=some x) :
 (loadVar t ⟨b,o,none⟩).run P w=.ok (den E x) w:=by
 cases ha:ti.k.agg with
 | true=>
   rw [ha] at h
   obtain ⟨cs,rfl,ho,hlen,hc⟩:=Z8z (E:=E) h hl
   have:=run_loadCells_list (P:=P) w ⟨b,o,none⟩ (cellsL E cs) (fun j v hv=>by rw [ZD];exact hat _ _ (hc _ _ hv))
   rw [hlen] at this
   simp only [loadVar,Sem.run_bind,hti.run_isAgg,ha,Result.andThen_ok,if_true,hti.run_sizeOf,this,Sem.run_pure,den_agg]
 | false=>
   rw [ha] at h
   obtain ⟨_,_,hc⟩:=Z78 (E:=E) h hl
   have:=hat _ _ hc
   simp only [Nat.add_zero] at this
   simp only [loadVar,Sem.run_bind,hti.run_isAgg,ha,Result.andThen_ok,Bool.false_eq_true,if_false,run_load,this]
theorem Z1E {w:World} {b:Nat} {cs:List Value} {t:TypeId} {fr:Nat×Nat} (h:w.heap[b]?=some (.cells cs.toArray t fr)) (o:Nat):w.cell? ⟨b,o,none⟩=cs[o]?:=by
 simp [World.cell?,h]
theorem getD_some {α:Type _} {l:List α} {n:Nat} {d x:α} (h:l.getD n d=x) (hx:x≠d):l[n]?=some x:=by
 cases hh:l[n]? with
 | none=>simp [List.getD,hh] at h;exact absurd h.symm hx
 | some y=>simp [List.getD,hh] at h;rw [h]
theorem Rel.at {E:Env} {C:Fr} {m:Mem} {H:List SB} {w:World} (h:Rel E C m H w) {k ver ver':Nat} {t:TypeId} {segs:List SV} {gr:Nat}
 (hk:H[k]?=some (.mem t segs ver gr)) (hv:Vle (vers H) k ver') (h0:ver'≠0) (hg:gr≠0→ver'=ver) :
 OkL m (vers H) segs∧∀ u c,(cellsL E segs)[u]?=some c→w.cell? ⟨E.blk k ver',u,none⟩=some c:=by
 have hb:=h.bl k _ hk
 cases gr with
 | zero=>
   obtain ⟨h1,b,c,he,hh,ho⟩:=hb
   refine ⟨ho,fun u v hv'=>?_⟩
   have:ver'=ver:=by
    obtain ⟨n,hn,hlt⟩:=hv
    simp [vers,hk,SB.lim] at hn
    omega
   subst this
   rw [Env.blk,he]
   simp only [Option.map_some,Option.getD_some]
   rw [Z1E hh];exact hv'
 | succ gr=>
   have:=hg (by omega)
   subst this
   obtain ⟨ho,_,hb⟩:=hb
   refine ⟨ho,fun u v hv'=>?_⟩
   obtain ⟨b,c,spare,he,hh,_⟩:=hb h0
   rw [Env.blk,he]
   simp only [Option.map_some,Option.getD_some]
   rw [Z1E hh,List.getElem?_append_left (List.getElem?_eq_some_iff.1 hv').1]
   exact hv'
theorem ImmAt.cell {m:Mem} {α:Type} {d:α} {n:Nat} {enc:α→List SV} {xs:List α} {a:Addr} (h:ImmAt m d n enc xs (some a)) {w:World} (hm:∀ b o,m b=some o→w.heap[b]?=some o)
 {j:Nat} (hj:j < xs.length) {u:Nat} {c:Value} (hc:(cellsL E0 (enc (xs.getD j d)))[u]?=some c):w.cell? ⟨a.block,a.off+j * n+u,none⟩=some c:=by
 obtain ⟨ad,arr,t,fr,ha,hs,hb,hat⟩:=h (by intro e;simp [e] at hj)
 cases ha
 have:=hm _ _ hb
 simp only [World.cell?,this]
 exact hat j hj u c hc
theorem OkL.E0 {m:Mem} {E:Env} {l:List SV} (h:OkL m [] l):cellsL E l=cellsL E0 l:=
 cellsL_stable (m:=m) (V:=[]) (fun k v hv=>by obtain ⟨n,hn,_⟩:=hv;simp at hn) l h
theorem OkL.up {m:Mem} {V:List Nat} {l:List SV} (h:OkL m [] l):OkL m V l:=
 OkL.mono (fun _ _ h=>h) l [] V (fun k v hv=>by obtain ⟨n,hn,_⟩:=hv;simp at hn) h
section
variable {P:Program} {T:Tb} (hT:TOk P T) {E:Env} {C:Fr} {m:Mem} {h:List SB} {w:World} (hr:Rel E C m h w)
include hT hr
theorem Zak {t:TypeId} {p x:SV} (hp:Gd m (vers h) p) (hl:(Z20 T h t p).To x) :
 (Instr.loadAt t (den E p)).run P w=.ok (den E x) w∧Gd m (vers h) x:=by
 unfold Z20 at hl
 cases ht:T t with
 | none=>simp [ht] at hl
 | some ti=>
   have hti:=hT t ti ht
   simp only [ht] at hl
   cases p <;> try (simp at hl;done)
   case ptr k ver off ix=>
    simp only at hl
    cases hb:h.getD k .fresh <;> simp only [hb] at hl <;> try (simp at hl;done)
    case mem ty segs ver' gr=>
     have hk:=getD_some hb (by simp)
     have hv:Vle (vers h) k ver∧ver≠0:=by have:=hp.1;simpa only [Ok] using this
     have key:(gr≠0→ver=ver')∧(rdR ti.k.agg ti.size (nav segs off ix)).To x:=by
      cases gr with
      | succ gr=>have:=Z6x hl;exact ⟨fun _=>this.1,this.2⟩
      | zero=>exact ⟨fun h=>absurd rfl h,hl⟩
     obtain ⟨hg,hl⟩:=key
     obtain ⟨l,hn,hrd⟩:=Z7G hl
     obtain ⟨ho,hat⟩:=hr.at hk hv.1 hv.2 hg
     obtain ⟨o2,hat2⟩:=Z77 (E:=E) hn ho
     refine ⟨?_,Zaj hrd o2⟩
     simp only [Instr.loadAt,den,wrapV,cells,List.headD_cons,Instr.sureAddr,Sem.run_bind,Sem.run_pure,Result.andThen_ok]
     exact Z58 hti o2 (fun u c hc=>hat _ _ (hat2 u c hc)) hrd
   case ipt α d n enc xs a j sub ix=>
    simp only at hl
    obtain ⟨l,hn,hrd⟩:=Z7G hl
    have h1:=hp.1
    simp only [Ok] at h1
    obtain ⟨hj,him,hw,ho⟩:=h1
    obtain ⟨o2,hat2⟩:=Z77 (E:=E) hn (ho j hj)
    refine ⟨?_,Zaj hrd o2.up⟩
    simp only [Instr.loadAt,den,wrapV,cells,List.headD_cons,Instr.sureAddr,Sem.run_bind,Sem.run_pure,Result.andThen_ok]
    refine Z58 hti o2 (fun u c hc=>?_) hrd
    have:=hat2 u c hc
    rw [(ho j hj).E0] at this
    have:=him.cell hr.im hj this
    rw [← this];congr 2;omega
end
theorem Zdt {P:Program} {T:Tb} (hT:TOk P T) {E:Env} {m:Mem} {V:List Nat} {w:World} {t:TypeId} {p x:SV} {f:Nat} (hp:Gd m V p) (hl:(Z56 T t p f).To x) :
 (Instr.fieldAt t (den E p) f).run P w=.ok (den E x) w∧Gd m V x:=by
 unfold Z56 at hl
 cases ht:T t with
 | none=>simp [ht] at hl
 | some ti=>
   have hti:=hT t ti ht
   simp only [ht] at hl
   cases hk:ti.k <;> simp only [hk] at hl <;> try (simp at hl;done)
   case struct fs=>
    obtain ⟨fields,hu,hfs,hsz⟩:=hti.struct hk
    cases hf:fs[f]? with
    | none=>simp [hf] at hl
    | some oe=>
      obtain ⟨o,e⟩:=oe
      simp only [hf] at hl
      have hfld:∃ fl,fields[f]?=some fl∧fl.offset=o∧fl.type=e:=by
       rw [← hfs] at hf
       simp only [List.getElem?_map,Array.getElem?_toList] at hf
       cases hx:fields[f]? with
       | none=>simp [hx] at hf
       | some fl=>simp [hx] at hf;exact ⟨fl,rfl,hf.1,hf.2⟩
      obtain ⟨fl,hfl,ho,he⟩:=hfld
      obtain ⟨i,hi,hi0⟩:=hsz fl (by rw [← Array.getElem?_toList] at hfl;exact List.mem_of_getElem? hfl)
      have hplace:∀ a:Addr,(fieldPlace a fl).run P w=.ok (a.add o) w:=fun a=>by
       simp [fieldPlace,sizeOf,typeInfo,hi,hi0,ho]
      have hrun:∀ b u,(Instr.fieldAt t (.pointer (some ⟨b,u,none⟩)) f).run P w=.ok (.pointer (some ⟨b,u+o,none⟩)) w:=fun b u=>by
       simp [Instr.fieldAt,Instr.sureAddr,Z6 hu,hfl,hplace,ZD]
      have hofs:∀ (ix:List Ix) (y:Ix),ofs (Z52 (y::ix) o)=ofs (y::ix)+o:=by
       intro ix
       induction ix with
       | nil=>intro y;simp [Z52,ofs];omega
       | cons z ix ih=>intro y;simp only [Z52,ofs];rw [ih z];simp only [ofs];omega
      cases p <;> try (simp at hl;done)
      case ptr k ver off ix=>
       cases ix with
       | nil=>
         simp at hl;subst hl
         refine ⟨?_,by simpa [Gd,Ok,live] using hp⟩
         simp only [den,wrapV,cells,List.headD_cons,ofs,Nat.add_zero,hrun]
       | cons y ix=>
         simp at hl;subst hl
         refine ⟨?_,by simpa [Gd,Ok,live] using hp⟩
         simp only [den,wrapV,cells,List.headD_cons,hrun,hofs,Nat.add_assoc]
      case ipt α d n enc xs a j sub ix=>
       cases ix with
       | nil=>
         simp at hl;subst hl
         refine ⟨?_,by simpa [Gd,Ok,live] using hp⟩
         simp only [den,wrapV,cells,List.headD_cons,ofs,Nat.add_zero,hrun,Nat.add_assoc]
       | cons y ix=>
         simp at hl;subst hl
         refine ⟨?_,by simpa [Gd,Ok,live] using hp⟩
         simp only [den,wrapV,cells,List.headD_cons,hrun,hofs,Nat.add_assoc]
end
def Z38:LK→Value→Bool
 | .i k,.int k' _=>k == k'
 | .b,.bool _=>true
 | .s,.string _=>true
 | _,_=>false
def eqV:Value→Value→Bool
 | .int _ a,.int _ b=>decide (a=b)
 | .bool a,.bool b=>a == b
 | .string a,.string b=>decide (a.data.toList=b.data.toList)
 | _,_=>false
def conf:List Value→List LK→Bool
 | [],[]=>true
 | v::r,l::ls=>Z38 l v&&conf r ls
 | _,_=>false
def ZN:List Value→List Value→Bool
 | [],[]=>true
 | a::r,b::s=>eqV a b&&ZN r s
 | _,_=>false
theorem Z1o:∀ {xs:List Value} {ls:List LK},conf xs ls=true→xs.length=ls.length
 | [],[],_=>rfl
 | v::r,l::ls,h=>by simp [conf] at h;simp [Z1o h.2]
 | [],_::_,h=>by simp [conf] at h
 | _::_,[],h=>by simp [conf] at h
theorem Z2M:∀ {xs:List Value} {a b:List LK},conf xs (a++b)=true→conf (xs.take a.length) a=true∧conf (xs.drop a.length) b=true
 | xs,[],b,h=>by simpa [conf] using h
 | v::xs,l::a,b,h=>by
   simp [conf] at h
   have:=Z2M h.2
   simp [conf,h.1,this.1,this.2]
 | [],l::a,b,h=>by simp [conf] at h
theorem Z3t:∀ (n:Nat) (xs ys:List Value),xs.length=ys.length→ZN xs ys=(ZN (xs.take n) (ys.take n)&&ZN (xs.drop n) (ys.drop n))
 | 0,xs,ys,_=>by simp [ZN]
 | n+1,[],[],_=>by simp [ZN]
 | n+1,a::r,b::s,h=>by
   simp at h
   simp only [List.take_succ_cons,List.drop_succ_cons,ZN,Z3t n r s h,Bool.and_assoc]
 | n+1,[],b::s,h=>by simp at h
 | n+1,a::r,[],h=>by simp at h
mutual
def shape (P:Program):Nat→TypeId→Option (List LK)
 | 0,_=>none
 | f+1,t=>match P.underlying t with
   | some .bool=>some [.b]
   | some (.int k)=>some [.i k]
   | some .string=>some [.s]
   | some (.struct fields)=>bif P.stoodInHeld t then none else shapeF P f 0 fields.toList
   | some (.array n e)=>match shape P f e with
     | some ls=>bif Nat.beq (P.cellsOf e) ls.length then some (rep n ls) else none
     | none=>none
   | _=>none
def shapeF (P:Program):Nat→Nat→List Field→Option (List LK)
 | _,_,[]=>some []
 | 0,_,_::_=>none
 | f+1,off,x::r=>bif x.name == "_" || !(Nat.beq x.offset off) then none else
   match shape P f x.type with
   | some ls=>bif Nat.beq (P.cellsOf x.type) ls.length then (match shapeF P f (off+ls.length) r with
     | some rs=>some (ls++rs)
     | none=>none) else none
   | none=>none
def rep (n:Nat) (ls:List LK):List LK:=
 match n with
 | 0=>[]
 | n+1=>ls++rep n ls
end
theorem Z5v (n:Nat) (ls:List LK):(rep n ls).length=n * ls.length:=by
 induction n with
 | zero=>simp [rep]
 | succ n ih=>simp [rep,ih,Nat.succ_mul,Nat.add_comm]
def Z1z (P:Program) (t:TypeId) (xs:List Value):Value:=
 match P.underlying t with
 | some (.struct _)=>.agg xs.toArray
 | some (.array _ _)=>.agg xs.toArray
 | _=>xs.headD undef
theorem Z3F {P:Program} {t:TypeId} {d:TypeDesc} (h:P.underlying t=some d):∃ i,P.info? t=some i:=by
 cases hi:P.info? t with
 | some i=>exact ⟨i,rfl⟩
 | none=>simp [Program.underlying,hi] at h
def aggD:TypeDesc→Bool
 | .struct _=>true
 | .array _ _=>true
 | _=>false
theorem Zdu {P:Program} {t:TypeId} {d:TypeDesc} (h:P.underlying t=some d) (w:World):(isAgg t).run P w=.ok (aggD d) w:=by
 simp only [isAgg,Sem.run_bind,Z6 h,Result.andThen_ok]
 cases d <;> rfl
theorem Z39 {P:Program} {t:TypeId} {d:TypeDesc} (h:P.underlying t=some d) (w:World) (xs:List Value) (o:Nat) (n:Nat) (hn:P.cellsOf t=n) (hx:o+n≤xs.length) (h1:aggD d=false→n=1) :
 (part t xs.toArray o).run P w=.ok (Z1z P t ((xs.drop o).take n)) w:=by
 obtain ⟨i,hi⟩:=Z3F h
 have hs:i.size=n:=by simpa [Program.cellsOf,hi] using hn
 simp only [part,Sem.run_bind,Zdu h,Result.andThen_ok,Z1z,h]
 cases hd:aggD d with
 | true=>
   simp only [if_true,sizeOf,typeInfo,Sem.run_bind,run_program,Result.andThen_ok,hi,Sem.run_pure,hs]
   have:(xs.toArray.extract o (o+n))=((xs.drop o).take n).toArray:=by
    apply Array.ext'
    simp [List.extract_eq_take_drop]
   simp only [this]
   cases d <;> simp [aggD] at hd <;> rfl
 | false=>
   have e1:=h1 hd
   subst e1
   have hlt:o < xs.length:=by omega
   simp only [Bool.false_eq_true,if_false,List.getElem?_toArray,List.getElem?_eq_getElem hlt,Sem.run_pure]
   have:(xs.drop o).take 1=[xs[o]]:=by
    rw [List.drop_eq_getElem_cons hlt];rfl
   simp only [this]
   cases d <;> simp [aggD] at hd <;> rfl
theorem Z3a {P:Program} {f:Nat} {t:TypeId} {ls:List LK} {d:TypeDesc} (h:shape P f t=some ls) (hd:P.underlying t=some d):aggD d=false→ls.length=1:=by
 intro hn
 cases f with
 | zero=>simp [shape] at h
 | succ f=>cases d <;> simp [shape,hd,aggD] at h hn ⊢ <;> simp [← h]
mutual
theorem equal_shape {P:Program} (w:World):∀ (f:Nat) (t:TypeId) (ls:List LK) (d:Nat) (xs ys:List Value),shape P f t=some ls→conf xs ls=true→conf ys ls=true→f≤d →
 (Op.equalIn d t (Z1z P t xs) (Z1z P t ys)).run P w=.ok (ZN xs ys) w
 | 0,t,ls,d,xs,ys,h,_,_,_=>by simp [shape] at h
 | f+1,t,ls,0,xs,ys,h,_,_,hd=>by omega
 | f+1,t,ls,d+1,xs,ys,h,hx,hy,hd=>by
   cases hu:P.underlying t with
   | none=>simp [shape,hu] at h
   | some de=>
     cases de <;> simp only [shape,hu] at h <;> try (simp at h;done)
     case bool=>
      simp at h;subst h
      match xs,ys,hx,hy with
      | [],_,hx,_=>simp [conf] at hx
      | _::_::_,_,hx,_=>simp [conf] at hx
      | [_],[],_,hy=>simp [conf] at hy
      | [_],_::_::_,_,hy=>simp [conf] at hy
      | [x],[y],hx,hy=>
        cases x <;> simp [conf,Z38] at hx
        cases y <;> simp [conf,Z38] at hy
        simp [Op.equalIn,Z1z,hu,Z6 hu,ZN,eqV]
     case int k=>
      simp at h;subst h
      match xs,ys,hx,hy with
      | [],_,hx,_=>simp [conf] at hx
      | _::_::_,_,hx,_=>simp [conf] at hx
      | [_],[],_,hy=>simp [conf] at hy
      | [_],_::_::_,_,hy=>simp [conf] at hy
      | [x],[y],hx,hy=>
        cases x <;> simp [conf,Z38] at hx
        cases y <;> simp [conf,Z38] at hy
        subst hx;subst hy
        simp [Op.equalIn,Z1z,hu,Z6 hu,ZN,eqV]
        rfl
     case string=>
      simp at h;subst h
      match xs,ys,hx,hy with
      | [],_,hx,_=>simp [conf] at hx
      | _::_::_,_,hx,_=>simp [conf] at hx
      | [_],[],_,hy=>simp [conf] at hy
      | [_],_::_::_,_,hy=>simp [conf] at hy
      | [x],[y],hx,hy=>
        cases x <;> simp [conf,Z38] at hx
        cases y <;> simp [conf,Z38] at hy
        rename_i a b
        simp only [Z1z,hu,List.headD_cons,run_equalIn_string w d t a b hu,ZN,eqV,Bool.and_true,ByteArray.toList_eq]
        congr 1
        rw [Bool.eq_iff_iff];simp
     case struct fields=>
      cases hs:P.stoodInHeld t with
      | true=>simp [hs] at h
      | false=>
        simp only [hs,cond_false] at h
        have hf:P.fieldsOf t=fields:=by simp [Program.fieldsOf,hu]
        simp only [Z1z,hu]
        rw [run_equalIn_struct w d t xs.toArray ys.toArray (by rw [hf];exact hu) hs,hf]
        exact equal_shapeF w f 0 fields.toList ls d xs ys h hx hy (by omega) (by simp [Z1o hx]) (by simp [Z1o hy])
     case array n e=>
      cases hs:shape P f e with
      | none=>simp [hs] at h
      | some le=>
        simp only [hs] at h
        cases hb:Nat.beq (P.cellsOf e) le.length with
        | false=>simp [hb] at h
        | true=>
          simp only [hb,cond_true,Option.some.injEq] at h
          have hc:=Nat.eq_of_beq_eq_true hb
          subst h
          have hue:∃ de,P.underlying e=some de:=by
           cases f with
           | zero=>simp [shape] at hs
           | succ f=>cases hx:P.underlying e with
             | none=>simp [shape,hx] at hs
             | some de=>exact ⟨de,rfl⟩
          obtain ⟨de,hue⟩:=hue
          obtain ⟨i,hi⟩:=Z3F hue
          have hsz:i.size=le.length:=by simpa [Program.cellsOf,hi] using hc
          have hpx:∀ j,j < n→(part e xs.toArray (j * le.length)).run P w=.ok (Z1z P e ((xs.drop (j * le.length)).take le.length)) w:=fun j hj=>
           Z39 hue w xs _ _ hc (by rw [Z1o hx,Z5v,← Nat.succ_mul];exact Nat.mul_le_mul_right _ hj) (Z3a hs hue)
          have hpy:∀ j,j < n→(part e ys.toArray (j * le.length)).run P w=.ok (Z1z P e ((ys.drop (j * le.length)).take le.length)) w:=fun j hj=>
           Z39 hue w ys _ _ hc (by rw [Z1o hy,Z5v,← Nat.succ_mul];exact Nat.mul_le_mul_right _ hj) (Z3a hs hue)
          have key:∀ (c s:Nat),s+c=n→conf (xs.drop (s * le.length)) (rep c le)=true→conf (ys.drop (s * le.length)) (rep c le)=true →
           (forIn (List.range' s c) ((none,()):Option Bool×Unit) fun i _=>(do
            let r ← Op.equalIn d e (← part e xs.toArray (i * le.length)) (← part e ys.toArray (i * le.length))
            if !r then pure (ForInStep.done (some false,())) else pure (ForInStep.yield (none,())):Sem (ForInStep (Option Bool×Unit)))).run P w
           = .ok (if ZN (xs.drop (s * le.length)) (ys.drop (s * le.length)) then (none,()) else (some false,())) w:=by
           intro c
           induction c with
           | zero=>
             intro s hsn h1 h2
             have l1:=Z1o h1
             have l2:=Z1o h2
             simp only [rep,List.length_nil] at l1 l2
             rw [List.eq_nil_of_length_eq_zero l1,List.eq_nil_of_length_eq_zero l2]
             simp [ZN]
           | succ c ih=>
             intro s hsn h1 h2
             have l1:=Z1o h1
             have l2:=Z1o h2
             simp only [rep] at h1 h2
             have c1:=Z2M h1
             have c2:=Z2M h2
             have he:=equal_shape w f e le d _ _ hs c1.1 c2.1 (by omega)
             have ih':=ih (s+1) (by omega) (by simpa [List.drop_drop,Nat.succ_mul,Nat.add_comm] using c1.2) (by simpa [List.drop_drop,Nat.succ_mul,Nat.add_comm] using c2.2)
             simp only [List.range'_succ,List.forIn_cons,Sem.run_bind,hpx s (by omega),hpy s (by omega),Result.andThen_ok,he,Sem.run_ite]
             rw [Z3t le.length (xs.drop (s * le.length)) (ys.drop (s * le.length)) (by rw [l1,l2])]
             cases hq:ZN ((xs.drop (s * le.length)).take le.length) ((ys.drop (s * le.length)).take le.length) with
             | false=>simp
             | true=>
               simp only [Bool.not_true,Bool.false_eq_true,if_false,Sem.run_pure,Result.andThen_ok,Bool.true_and]
               rw [ih']
               simp [List.drop_drop,Nat.succ_mul]
          simp only [Z1z,hu,Op.equalIn,Sem.run_bind,Z6 hu,Result.andThen_ok,sizeOf,typeInfo,run_program,hi,Sem.run_pure,hsz]
          rw [Std.Legacy.Range.forIn_eq_forIn_range']
          have k0:=key n 0 (by omega) (by simpa using hx) (by simpa using hy)
          simp only [Nat.zero_mul,List.drop_zero] at k0
          simp only [Std.Legacy.Range.size,Nat.sub_zero,Nat.add_one_sub_one,Nat.div_one,Nat.add_sub_cancel,k0,Result.andThen_ok]
          cases ZN xs ys <;> simp
theorem equal_shapeF {P:Program} (w:World):∀ (f off:Nat) (fs:List Field) (ls:List LK) (d:Nat) (xs ys:List Value),shapeF P f off fs=some ls→conf (xs.drop off) ls=true→conf (ys.drop off) ls=true→f≤d→xs.length=off+ls.length→ys.length=off+ls.length →
 (Op.eqFields d xs.toArray ys.toArray fs).run P w=.ok (ZN (xs.drop off) (ys.drop off)) w
 | f,off,[],ls,d,xs,ys,h,hx,hy,_,hlx,hly=>by
   have:ls=[]:=by cases f <;> simpa [shapeF,eq_comm] using h
   subst this
   simp at hlx hly
   simp [Op.eqFields,List.drop_eq_nil_of_le,hlx,hly,ZN]
 | 0,off,x::r,ls,d,xs,ys,h,_,_,_,_,_=>by simp [shapeF] at h
 | f+1,off,x::r,ls,d,xs,ys,h,hx,hy,hd,hlx,hly=>by
   simp only [shapeF] at h
   cases hg:(x.name == "_" || !(Nat.beq x.offset off)) with
   | true=>simp [hg] at h
   | false=>
     simp only [hg,cond_false] at h
     simp at hg
     obtain ⟨hn,ho⟩:=hg
     cases hs:shape P f x.type with
     | none=>simp [hs] at h
     | some l1=>
       simp only [hs] at h
       cases hb:Nat.beq (P.cellsOf x.type) l1.length with
       | false=>simp [hb] at h
       | true=>
         simp only [hb,cond_true] at h
         have hc:=Nat.eq_of_beq_eq_true hb
         cases hr:shapeF P f (off+l1.length) r with
         | none=>simp [hr] at h
         | some l2=>
           simp only [hr,Option.some.injEq] at h
           subst h
           simp only [List.length_append] at hlx hly
           have hue:∃ de,P.underlying x.type=some de:=by
            cases f with
            | zero=>simp [shape] at hs
            | succ f=>cases hx:P.underlying x.type with
              | none=>simp [shape,hx] at hs
              | some de=>exact ⟨de,rfl⟩
           obtain ⟨de,hue⟩:=hue
           have cx:=Z2M hx
           have cy:=Z2M hy
           have px:=Z39 hue w xs off l1.length hc (by omega) (Z3a hs hue)
           have py:=Z39 hue w ys off l1.length hc (by omega) (Z3a hs hue)
           have he:=equal_shape w f x.type l1 d _ _ hs cx.1 cy.1 (by omega)
           have ih:=equal_shapeF w f (off+l1.length) r l2 d xs ys hr (by simpa [List.drop_drop] using cx.2) (by simpa [List.drop_drop] using cy.2) (by omega) (by omega) (by omega)
           simp only [Op.eqFields,Sem.run_bind,Sem.run_ite,ho,px,py,Result.andThen_ok,he]
           rw [if_pos hn,Z3t l1.length (xs.drop off) (ys.drop off) (by simp;omega)]
           cases hq:ZN ((xs.drop off).take l1.length) ((ys.drop off).take l1.length) with
           | false=>simp
           | true=>simpa [List.drop_drop] using ih
end
section
def Z1P (ti:TI):SV:=bif ti.k.agg then .agg ti.zero else ti.zero.headD .dead
structure TabOk (P:Program) (T:Tb):Prop where
 ti:TOk P T
 eq:∀ t ti ls,T t=some ti→ti.leafs=some ls→shape P 40 t=some ls∧P.eqGuardType P.depth t=false∧ti.k.agg=true
 zv:∀ t ti,T t=some ti→(P.info? t).map (·.zero)=some (some (den E0 (Z1P ti)))
 arr:∀ t ti n e te,T t=some ti→ti.k=.array n e→T e=some te→ti.size=n * te.size∧cellsL E0 (ZF n te.zero)=cellsL E0 ti.zero
theorem Zdv {a b c d:List Value} (h:a.length=c.length) (h2:b.length=d.length):ZN (a++b) (c++d)=(ZN a c&&ZN b d):=by
 rw [Z3t a.length _ _ (by simp [h,h2])]
 simp [h]
theorem Z7H (k k':IntKind):∀ (a b:List Int),a.length=b.length→ZN (a.map (.int k)) (b.map (.int k'))=decide (a=b)
 | [],[],_=>by simp [ZN]
 | x::a,y::b,h=>by
   simp at h
   simp only [List.map_cons,ZN,eqV,Z7H k k' a b h]
   rw [Bool.eq_iff_iff];simp
 | [],_::_,h=>by simp at h
 | _::_,[],h=>by simp at h
theorem Z7I {k:IntKind}:∀ {n:Nat} {l l':List LK},Z5r k n l=some l'→l=List.replicate n (.i k)++l'
 | 0,l,l',h=>by simpa [Z5r] using h
 | n+1,[],l',h=>by simp [Z5r] at h
 | n+1,x::l,l',h=>by
   cases x <;> simp [Z5r] at h
   rename_i k'
   by_cases hk:k=k'
   ·subst hk;simp at h;simp [List.replicate_succ,Z7I h]
   ·have hk':(k == k')=false:=beq_eq_false_iff_ne.2 hk
    rw [hk'] at h;simp at h
theorem Z94 (k:IntKind):∀ (a:List Int) (r:List Value) (l:List LK),conf r l=true→conf (a.map (.int k)++r) (List.replicate a.length (.i k)++l)=true
 | [],r,l,h=>by simpa using h
 | x::a,r,l,h=>by simp [List.replicate_succ,conf,Z38,Z94 k a r l h]
theorem Z2a {m:Mem} {V:List Nat} (E:Env):∀ {xs:List SV} {ls:List LK},Z1a xs ls=true→OkL m V xs→conf (cellsL E xs) ls=true
 | [],[],_,_=>by simp [cellsL,conf]
 | [],_::_,h,_=>by simp [Z1a] at h
 | x::r,ls,h,ho=>by
   simp only [OkL] at ho
   cases x <;> try (simp [Z1a] at h;done)
   case i k n=>
    cases ls with
    | nil=>simp [Z1a] at h
    | cons l ls=>cases l <;> simp [Z1a] at h;simp [cellsL,cells,conf,Z38,h.1,Z2a E h.2 ho.2]
   case b v=>
    cases ls with
    | nil=>simp [Z1a] at h
    | cons l ls=>cases l <;> simp [Z1a] at h;simp [cellsL,cells,conf,Z38,Z2a E h ho.2]
   case s v=>
    cases ls with
    | nil=>simp [Z1a] at h
    | cons l ls=>cases l <;> simp [Z1a] at h;simp [cellsL,cells,conf,Z38,Z2a E h ho.2]
   case ints k n a=>
    simp only [Z1a] at h
    cases hd:Z5r k n ls with
    | none=>simp [hd] at h
    | some l'=>
      simp only [hd] at h
      have hn:a.length=n:=by have:=ho.1.2;simpa [Ok] using this
      rw [Z7I hd,← hn]
      simp only [cellsL,cells]
      exact Z94 k a _ l' (Z2a E h ho.2)
theorem Z95 {m:Mem} {V:List Nat} (E:Env) {x y:SV} {b:Bool} (h:eqU x y=some b) (hx:Ok m V x) (hy:Ok m V y):ZN (cells E x) (cells E y)=b∧(cells E x).length=(cells E y).length:=by
 cases x <;> cases y <;> simp [eqU] at h
 case i.i k a k' c=>obtain ⟨rfl,rfl⟩:k=k'∧decide (a=c)=b:=by
                     by_cases hk:k=k'
                     ·subst hk;simpa using h
                     ·have hk':(k == k')=false:=beq_eq_false_iff_ne.2 hk
                      rw [hk'] at h;simp at h
                    simp [cells,ZN,eqV]
 case b.b a c=>subst h;simp [cells,ZN,eqV]
 case s.s a c=>subst h;simp [cells,ZN,eqV]
 case ints.ints k n a k' n' c=>
  cases hb:(k == k'&&Nat.beq n n') with
  | false=>simp [hb] at h
  | true=>
    simp only [hb,cond_true,Option.some.injEq] at h
    simp at hb
    obtain ⟨_,hn⟩:=hb
    simp only [Ok] at hx hy
    subst h
    simp only [cells]
    exact ⟨Z7H k k' a c (by rw [hx,hy,hn]),by simp [hx,hy,hn]⟩
theorem Z96 {m:Mem} {V:List Nat} (E:Env):∀ {xs ys:List SV} {b:Bool},eqL xs ys=some b→OkL m V xs→OkL m V ys→ZN (cellsL E xs) (cellsL E ys)=b∧(cellsL E xs).length=(cellsL E ys).length
 | [],[],b,h,_,_=>by simp [eqL] at h;simp [cellsL,ZN,h]
 | [],_::_,b,h,_,_=>by simp [eqL] at h
 | _::_,[],b,h,_,_=>by simp [eqL] at h
 | [x],[y],b,h,hx,hy=>by
   simp only [OkL] at hx hy
   have:=Z95 E (by simpa [eqL] using h) hx.1.2 hy.1.2
   simpa [cellsL] using this
 | [x],y::z::ys,b,h,hx,hy=>by
   simp only [eqL] at h
   cases hu:eqU x y with
   | none=>simp [hu] at h
   | some b1=>simp [hu,eqL] at h
 | x::z::xs,[y],b,h,hx,hy=>by
   simp only [eqL] at h
   cases hu:eqU x y with
   | none=>simp [hu] at h
   | some b1=>simp [hu,eqL] at h
 | x::z::xs,y::u::ys,b,h,hx,hy=>by
   simp only [eqL] at h
   cases hu:eqU x y with
   | none=>simp [hu] at h
   | some b1=>
     simp only [hu] at h
     cases hl:eqL (z::xs) (u::ys) with
     | none=>simp [hl] at h
     | some b2=>
       simp only [hl,Option.some.injEq] at h
       simp only [OkL] at hx hy
       have h1:=Z95 E hu hx.1.2 hy.1.2
       have h2:=Z96 E hl (by simp only [OkL];exact hx.2) (by simp only [OkL];exact hy.2)
       show ZN (cells E x++cellsL E (z::xs)) (cells E y++cellsL E (u::ys))=b∧(cells E x++cellsL E (z::xs)).length=(cells E y++cellsL E (u::ys)).length
       rw [Zdv h1.2 h2.2,h1.1,h2.1]
       exact ⟨h,by simp [h1.2,h2.2]⟩
theorem Z1Q {P:Program} {w:World} {op:BinOp} {t:TypeId} {x y:Operand} {a b:Value}
 (h:match a,b with | .nilIface,.nilIface=>Z1y x||Z1y y | .agg _,.agg _=>false | _,_=>true):(eqGuard op t x y a b).run P w=.ok () w:=by
 unfold eqGuard
 cases op <;> simp <;> (cases a <;> cases b <;> simp at h ⊢) <;> (cases x <;> cases y <;> simp [Z1y] at h ⊢)
theorem den_v {E:Env}:(∀ k n,den E (.i k n)=.int k n)∧(∀ b,den E (.b b)=.bool b)∧(∀ l,den E (.s l)=.string ⟨⟨l⟩⟩)∧(∀ v,den E (.raw v)=v)∧den E .nils=.slice none 0 0:=by
 refine ⟨?_,?_,?_,?_,?_⟩ <;> intros <;> simp [den,wrapV,cells]
theorem Gd_i {m:Mem} {V:List Nat} (k:IntKind) (n:Int):Gd m V (.i k n):=⟨by simp [Ok],rfl⟩
theorem Gd_b {m:Mem} {V:List Nat} (b:Bool):Gd m V (.b b):=⟨by simp [Ok],rfl⟩
theorem Gd_s {m:Mem} {V:List Nat} (l:List UInt8):Gd m V (.s l):=⟨by simp [Ok],rfl⟩
theorem Z2N {P:Program} {w:World} {op:BinOp} {k:IntKind} {x y:Int} (h:op=.and∨op=.or∨op=.xor∨op=.andNot):(Op.intBits op k x y).run P w=.ok (.int k (bits op k x y)) w:=by
 rcases h with rfl | rfl | rfl | rfl <;> rfl
section
variable {P:Program} {T:Tb} (hT:TabOk P T) {E:Env} {m:Mem} {V:List Nat} {w:World}
theorem ZgE {op:BinOp} {k:IntKind} {x y:Int} {r:SV} (t:TypeId) (hs:Z6w op=false) (h:(binI op k x y).To r):(binOp op t (.int k x) (.int k y)).run P w=.ok (den E r) w∧Gd m V r:=by
 cases op <;> simp [Z6w] at hs <;> simp [binI] at h
 case quo=>obtain ⟨h0,rfl⟩:=h;refine ⟨?_,Gd_i _ _⟩;simp [binOp,Op.intDiv,h0,den_v]
 case rem=>obtain ⟨h0,rfl⟩:=h;refine ⟨?_,Gd_i _ _⟩;simp [binOp,Op.intDiv,h0,den_v]
 case and=>subst h;refine ⟨?_,Gd_i _ _⟩;simp [binOp,den_v,Z2N]
 case or=>subst h;refine ⟨?_,Gd_i _ _⟩;simp [binOp,den_v,Z2N]
 case xor=>subst h;refine ⟨?_,Gd_i _ _⟩;simp [binOp,den_v,Z2N]
 case andNot=>subst h;refine ⟨?_,Gd_i _ _⟩;simp [binOp,den_v,Z2N]
 case eql=>subst h;refine ⟨?_,Gd_b _⟩;simp [binOp,Op.intCmp,den_v];rfl
 case neq=>subst h;refine ⟨?_,Gd_b _⟩;simp [binOp,Op.intCmp,den_v];rfl
 all_goals subst h;refine ⟨?_,by first | exact Gd_i _ _ | exact Gd_b _⟩;simp [binOp,Op.intArith,Op.intCmp,den_v]
theorem ZgF {op:BinOp} {x y:List UInt8} {r:SV} (t:TypeId) (h:(binS op x y).To r):(binOp op t (.string ⟨⟨x⟩⟩) (.string ⟨⟨y⟩⟩)).run P w=.ok (den E r) w∧Gd m V r:=by
 have hl:∀ l:List UInt8,(⟨⟨l⟩⟩:ByteArray).toList=l:=fun l=>ByteArray.toList_mk l
 have hz:∀ l:List UInt8,(⟨⟨l⟩⟩:ByteArray).size=l.length:=fun l=>rfl
 cases op <;> simp [binS] at h
 case add=>
  obtain ⟨h0,rfl⟩:=h
  refine ⟨?_,Gd_s _⟩
  have hm:IntKind.i64.max=9223372036854775807:=by decide
  have hap:(⟨⟨x⟩⟩:ByteArray)++⟨⟨y⟩⟩=⟨⟨x++y⟩⟩:=by
   apply ByteArray.ext
   simp
  simp only [binOp,Op.stringOp,hz,hm,den_v,hap]
  rw [if_neg (by omega)]
  rfl
 case eql=>subst h;refine ⟨?_,Gd_b _⟩;simp only [binOp,Op.stringOp,hl,den_v,Sem.run_pure];congr 2;rw [Bool.eq_iff_iff];simp
 case neq=>subst h;refine ⟨?_,Gd_b _⟩;simp only [binOp,Op.stringOp,hl,den_v,Sem.run_pure];congr 3;rw [Bool.eq_iff_iff];simp
 case lss=>subst h;refine ⟨?_,Gd_b _⟩;simp only [binOp,Op.stringOp,hl,den_v,Sem.run_pure]
theorem shf_ok {op:BinOp} {k k':IntKind} {x y:Int} {r:SV} (t:TypeId) (h:(shf op k x y).To r):(binOp op t (.int k x) (.int k' y)).run P w=.ok (den E r) w∧Gd m V r:=by
 cases op <;> simp [shf] at h
 all_goals
  obtain ⟨h0,rfl⟩:=h
  refine ⟨?_,Gd_i _ _⟩
  simp only [binOp,Op.shift,den_v]
  rw [if_neg (by omega)]
  rfl
end
end
section
section
variable {P:Program} {T:Tb} (hT:TabOk P T) {E:Env} {m:Mem} {V:List Nat} {w:World}
include hT
theorem eq_agg {t:TypeId} {ti:TI} (ht:T t=some ti) {ls:List LK} (hl:ti.leafs=some ls) {xs ys:List SV} {b:Bool} (hx:OkL m V xs) (hy:OkL m V ys)
 (kx:Z1a xs ls=true) (ky:Z1a ys ls=true) (he:eqL xs ys=some b) :
 (Op.equal t (.agg (cellsL E xs).toArray) (.agg (cellsL E ys).toArray)).run P w=.ok b w:=by
 obtain ⟨hs,_,ha⟩:=hT.eq t ti ls ht hl
 obtain ⟨d,hd,hk⟩:=(hT.ti t ti ht).desc
 have hof:∀ cs,Z1z P t cs=.agg cs.toArray:=fun cs=>by
  cases hkk:ti.k <;> simp [hkk,TK.agg] at ha <;> cases d <;> simp [hkk,kokB] at hk <;> simp [Z1z,hd]
 have:=equal_shape (P:=P) w 40 t ls 10000 (cellsL E xs) (cellsL E ys) hs (Z2a E kx hx) (Z2a E ky hy) (by omega)
 rw [hof,hof,(Z96 E he hx hy).1] at this
 exact this
omit hT in
theorem Z59 {k:TK} {x:SV} (h:ZY k x=true):(∃ e,k=.ptr e∧x=.raw (.pointer none))∨(∃ e,k=.slice e∧x=.nils)∨(∃ a b,k=.map a b∧x=.raw (.map none))∨(k=.func∧x=.raw .nilFunc)∨(∃ b,k=.iface b∧x=.raw .nilIface):=by
 unfold ZY at h
 split at h <;> first | (simp at h;done) | (simp;done)
omit hT in
theorem Zal {e:TypeId} {y:SV} {b:Bool} (h:nilB (.ptr e) y=some b):∃ o,den E y=.pointer o∧b=o.isNone:=by
 cases y <;> try (simp [nilB] at h;done)
 case raw v=>cases v <;> try (simp [nilB] at h;done)
             case pointer o=>cases o <;> simp [nilB] at h;exact ⟨none,by simp [den_v],by simp [h]⟩
 case ptr=>simp [nilB] at h;exact ⟨some _,by simp only [den,wrapV,cells,List.headD_cons];rfl,by simp [h]⟩
 case ipt=>simp [nilB] at h;exact ⟨some _,by simp only [den,wrapV,cells,List.headD_cons];rfl,by simp [h]⟩
omit hT in
theorem Z7J {e:TypeId} {y:SV} {b:Bool} (hnn:∀ k v,Vle V k v→v≠0→∃ b c,E k v=some (b,c)) (hy:Gd m V y) (h:nilB (.slice e) y=some b):∃ o l c,den E y=.slice o l c∧b=o.isNone:=by
 cases y <;> try (simp [nilB] at h;done)
 case nils=>simp [nilB] at h;exact ⟨none,0,0,by simp [den_v],by simp [h]⟩
 case sl k ver off len cap dc=>
  cases ver with
  | zero=>simp [nilB] at h
  | succ ver=>
    simp [nilB] at h
    have:=hy.1
    simp only [Ok] at this
    obtain ⟨bb,c,he⟩:=hnn k _ this.1 (by omega)
    exact ⟨some ⟨bb,_,none⟩,_,_,by simp only [den,wrapV,cells,List.headD_cons,he];rfl,by simp [h]⟩
 case imm α d n enc xs a cap=>simp [nilB] at h;exact ⟨a,_,_,by simp only [den,wrapV,cells,List.headD_cons];rfl,by simp [h]⟩
omit hT in
theorem Zam {u v:TypeId} {y:SV} {b:Bool} (h:nilB (.map u v) y=some b):∃ o,den E y=.map o∧b=o.isNone:=by
 cases y <;> try (simp [nilB] at h;done)
 case raw v=>cases v <;> try (simp [nilB] at h;done)
             case map o=>cases o <;> simp [nilB] at h;exact ⟨none,by simp [den_v],by simp [h]⟩
 case map=>simp [nilB] at h;exact ⟨some _,by simp only [den,wrapV,cells,List.headD_cons];rfl,by simp [h]⟩
omit hT in
theorem Z97 {y:SV} {b:Bool} (h:nilB .func y=some b):(den E y=.nilFunc∧b=true)∨∃ f a c,den E y=.func f a c∧b=false:=by
 cases y <;> try (simp [nilB] at h;done)
 case raw v=>cases v <;> try (simp [nilB] at h;done)
             case nilFunc=>simp [nilB] at h;exact .inl ⟨by simp [den_v],by simp [h]⟩
 case fn=>simp [nilB] at h;exact .inr ⟨_,_,_,by simp only [den,wrapV,cells,List.headD_cons];rfl,by simp [h]⟩
 case bm=>simp [nilB] at h;exact .inr ⟨_,_,_,by simp only [den,wrapV,cells,List.headD_cons];rfl,by simp [h]⟩
omit hT in
theorem Z7K {z:Bool} {y:SV} {b:Bool} (h:nilB (.iface z) y=some b):(den E y=.nilIface∧b=true)∨∃ t v,den E y=.iface t v∧b=false:=by
 cases y <;> try (simp [nilB] at h;done)
 case raw v=>cases v <;> try (simp [nilB] at h;done)
             case nilIface=>simp [nilB] at h;exact .inl ⟨by simp [den_v],by simp [h]⟩
 case iface=>simp [nilB] at h;exact .inr ⟨_,_,by simp only [den,wrapV,cells,List.headD_cons];rfl,by simp [h]⟩
omit hT in
theorem Zfz (d:Nat) {t e:TypeId} (hu:P.underlying t=some (.pointer e)) (o:Option Addr):(Op.equalIn (d+1) t (.pointer none) (.pointer o)).run P w=.ok o.isNone w∧(Op.equalIn (d+1) t (.pointer o) (.pointer none)).run P w=.ok o.isNone w:=by
 cases o <;> simp [Op.equalIn,Z6 hu]
omit hT in
theorem ZcG (d:Nat) {t e:TypeId} (hu:P.underlying t=some (.slice e)) (o:Option Addr) (l c l' c':Nat):(Op.equalIn (d+1) t (.slice none l' c') (.slice o l c)).run P w=.ok o.isNone w∧(Op.equalIn (d+1) t (.slice o l c) (.slice none l' c')).run P w=.ok o.isNone w:=by
 cases o <;> simp [Op.equalIn,Z6 hu]
omit hT in
theorem ZfA (d:Nat) {t u v:TypeId} (hu:P.underlying t=some (.map u v)) (o:Option Nat):(Op.equalIn (d+1) t (.map none) (.map o)).run P w=.ok o.isNone w∧(Op.equalIn (d+1) t (.map o) (.map none)).run P w=.ok o.isNone w:=by
 cases o <;> simp [Op.equalIn,Z6 hu]
omit hT in
theorem Z5Z (d:Nat) {t:TypeId} {ps rs:Array TypeId} {v:Bool} (hu:P.underlying t=some (.func ps rs v)):(Op.equalIn (d+1) t .nilFunc .nilFunc).run P w=.ok true w∧∀ f a c,(Op.equalIn (d+1) t .nilFunc (.func f a c)).run P w=.ok false w∧(Op.equalIn (d+1) t (.func f a c) .nilFunc).run P w=.ok false w:=by
 refine ⟨by simp [Op.equalIn,Z6 hu],fun f a c=>⟨?_,?_⟩⟩ <;> simp [Op.equalIn,Z6 hu]
omit hT in
theorem Z5w (d:Nat) {t:TypeId} {ms:Array (String×TypeId)} (hu:P.underlying t=some (.interface ms)):(Op.equalIn (d+1) t .nilIface .nilIface).run P w=.ok true w∧∀ f a,(Op.equalIn (d+1) t .nilIface (.iface f a)).run P w=.ok false w∧(Op.equalIn (d+1) t (.iface f a) .nilIface).run P w=.ok false w:=by
 refine ⟨by simp [Op.equalIn,Z6 hu],fun f a=>⟨?_,?_⟩⟩ <;> simp [Op.equalIn,Z6 hu]
theorem ZbU (hnn:∀ k v,Vle V k v→v≠0→∃ b c,E k v=some (b,c)) {t:TypeId} {ti:TI} (ht:T t=some ti) {x y:SV} {b:Bool} (hgy:Gd m V y) (hx:ZY ti.k x=true) (h:nilB ti.k y=some b) :
 (Op.equal t (den E x) (den E y)).run P w=.ok b w∧(Op.equal t (den E y) (den E x)).run P w=.ok b w:=by
 have hti:=hT.ti t ti ht
 obtain ⟨d,hd,hk⟩:=hti.desc
 rcases Z59 hx with ⟨e,h1,rfl⟩ | ⟨e,h1,rfl⟩ | ⟨u,v,h1,rfl⟩ | ⟨h1,rfl⟩ | ⟨z,h1,rfl⟩ <;> rw [h1] at h hk
 ·obtain ⟨o,ho,rfl⟩:=Zal (E:=E) h
  cases d <;> simp [kokB] at hk
  rw [ho,den_v.2.2.2.1];exact Zfz 9999 hd o
 ·obtain ⟨o,l,c,ho,rfl⟩:=Z7J (E:=E) hnn hgy h
  cases d <;> simp [kokB] at hk
  rw [ho,den_v.2.2.2.2];exact ZcG 9999 hd o l c 0 0
 ·obtain ⟨o,ho,rfl⟩:=Zam (E:=E) h
  cases d <;> simp [kokB] at hk
  rw [ho,den_v.2.2.2.1];exact ZfA 9999 hd o
 ·cases d <;> simp [kokB] at hk
  rcases Z97 (E:=E) h with ⟨ho,rfl⟩ | ⟨f,a,c,ho,rfl⟩ <;> rw [ho,den_v.2.2.2.1]
  ·exact ⟨(Z5Z 9999 hd).1,(Z5Z 9999 hd).1⟩
  ·exact (Z5Z 9999 hd).2 f a c
 ·cases d <;> simp [kokB] at hk
  rcases Z7K (E:=E) h with ⟨ho,rfl⟩ | ⟨f,a,ho,rfl⟩ <;> rw [ho,den_v.2.2.2.1]
  ·exact ⟨(Z5w 9999 hd).1,(Z5w 9999 hd).1⟩
  ·exact (Z5w 9999 hd).2 f a
theorem nil_eq (hnn:∀ k v,Vle V k v→v≠0→∃ b c,E k v=some (b,c)) {t:TypeId} {ti:TI} (ht:T t=some ti) {c:Bool} {x y:SV} {b:Bool} (hgx:Gd m V x) (hgy:Gd m V y) (h:nilE ti.k c x y=some b) :
 (Op.equal t (den E x) (den E y)).run P w=.ok b w∧ckI ti.k c=true∧(ZY ti.k x=true∨ZY ti.k y=true)∧∃ b',nilB ti.k x=some b'∨nilB ti.k y=some b':=by
 unfold nilE at h
 cases hc:ckI ti.k c with
 | false=>rw [hc] at h;simp at h
 | true=>
   rw [hc] at h
   simp only [cond_true] at h
   cases hx:ZY ti.k x with
   | true=>simp only [hx,cond_true] at h;exact ⟨(ZbU hT hnn ht hgy hx h).1,rfl,.inl rfl,b,.inr h⟩
   | false=>
     simp only [hx,cond_false] at h
     cases hy:ZY ti.k y with
     | false=>simp [hy] at h
     | true=>simp only [hy,cond_true] at h;exact ⟨(ZbU hT hnn ht hgx hy h).2,rfl,.inr rfl,b,.inl h⟩
omit hT in
theorem Z3b {t:TypeId} {x y:Value} (h:(match x with | .int _ _=>false | .float _ _=>false | .complex _ _ _=>false | .string _=>false | _=>true)=true) {b:Bool} (he:(Op.equal t x y).run P w=.ok b w) :
 (binOp .eql t x y).run P w=.ok (.bool b) w∧(binOp .neq t x y).run P w=.ok (.bool !b) w:=by
 constructor
 ·have:binOp .eql t x y=(do pure (.bool (← Op.equal t x y))):=by cases x <;> simp at h <;> (cases y <;> rfl)
  rw [this];simp [he]
 ·have:binOp .neq t x y=(do pure (.bool (!(← Op.equal t x y)))):=by cases x <;> simp at h <;> (cases y <;> rfl)
  rw [this];simp [he]
theorem ZbV (hnn:∀ k v,Vle V k v→v≠0→∃ b c,E k v=some (b,c)) {t:TypeId} {ti:TI} (ht:T t=some ti) {neg c:Bool} {x y r:SV} {xo yo:Operand} (hc:c=(Z1y xo||Z1y yo)) (hx:Gd m V x) (hy:Gd m V y) (h:(binE neg c ti x y).To r) :
 (eqGuard (if neg then .neq else .eql) t xo yo (den E x) (den E y)).run P w=.ok () w∧(binOp (if neg then .neq else .eql) t (den E x) (den E y)).run P w=.ok (den E r) w∧Gd m V r:=by
 have hti:=hT.ti t ti ht
 obtain ⟨d,hd,hk⟩:=hti.desc
 unfold binE at h
 split at h
 ·rename_i a c' hkk
  simp at h;subst h
  rw [hkk] at hk
  cases d <;> simp [kokB] at hk
  have he:=run_equal_bool (P:=P) w t a c' hd
  have:=Z3b (P:=P) (w:=w) (t:=t) (x:=.bool a) (y:=.bool c') rfl he
  refine ⟨Z1Q (by simp [den_v]),?_,Gd_b _⟩
  cases neg
  ·simpa [den_v] using this.1
  ·simpa [den_v,bne] using this.2
 ·rename_i xs ys
  cases hl:ti.leafs with
  | none=>simp [hl] at h
  | some ls=>
    simp only [hl] at h
    cases hm:(Z1a xs ls&&Z1a ys ls) with
    | false=>simp [hm] at h
    | true=>
      simp only [hm,cond_true] at h
      simp only [Bool.and_eq_true] at hm
      cases he:eqL xs ys with
      | none=>simp [he] at h
      | some b=>
        simp only [he] at h
        simp at h;subst h
        have ox:OkL m V xs:=by have:=hx.1;simpa only [Ok] using this
        have oy:OkL m V ys:=by have:=hy.1;simpa only [Ok] using this
        have he':=eq_agg hT (E:=E) (w:=w) ht hl ox oy hm.1 hm.2 he
        have:=Z3b (P:=P) (w:=w) (t:=t) (x:=.agg (cellsL E xs).toArray) (y:=.agg (cellsL E ys).toArray) rfl he'
        refine ⟨?_,?_,Gd_b _⟩
        ·rw [den_agg,den_agg];exact run_eqGuard_agg w _ t _ _ _ _ (hT.eq t ti ls ht hl).2.1
        ·rw [den_agg,den_agg]
         cases neg
         ·simpa [den_v] using this.1
         ·simpa [den_v] using this.2
 ·rename_i x y _ _ _ _ _
  cases he:nilE ti.k c x y with
  | none=>simp [he] at h
  | some b=>
    simp only [he] at h
    simp at h;subst h
    obtain ⟨e1,e2,e3,b',e4⟩:=nil_eq hT (E:=E) (w:=w) hnn ht hx hy he
    have hden:∀ z:SV,Gd m V z→(ZY ti.k z=true∨∃ b',nilB ti.k z=some b')→(match den E z with | .int _ _=>false | .float _ _=>false | .complex _ _ _=>false | .string _=>false | .agg _=>false | _=>true)=true∧(den E z=.nilIface→∃ n,ti.k=.iface n):=by
     intro z hgz hz
     rcases hz with hz | ⟨b',hz⟩
     ·rcases Z59 hz with ⟨e,h1,rfl⟩ | ⟨e,h1,rfl⟩ | ⟨u,v,h1,rfl⟩ | ⟨h1,rfl⟩ | ⟨z,h1,rfl⟩ <;> simp [den_v,h1]
     ·cases hkk:ti.k <;> rw [hkk] at hz <;> try (cases z <;> simp [nilB] at hz;done)
      ·obtain ⟨o,ho,_⟩:=Zal (E:=E) hz;simp [ho]
      ·obtain ⟨o,l,c,ho,_⟩:=Z7J (E:=E) hnn hgz hz;simp [ho]
      ·obtain ⟨o,ho,_⟩:=Zam (E:=E) hz;simp [ho]
      ·rcases Z97 (E:=E) hz with ⟨ho,_⟩ | ⟨f,a,c,ho,_⟩ <;> simp [ho]
      ·rcases Z7K (E:=E) hz with ⟨ho,_⟩ | ⟨f,a,ho,_⟩ <;> simp [ho]
    have hxy:(ZY ti.k x=true∨∃ b',nilB ti.k x=some b')∧(ZY ti.k y=true∨∃ b',nilB ti.k y=some b'):=by
     unfold nilE at he
     rw [e2] at he
     simp only [cond_true] at he
     cases hx:ZY ti.k x with
     | true=>simp only [hx,cond_true] at he;exact ⟨.inl rfl,.inr ⟨_,he⟩⟩
     | false=>
       simp only [hx,cond_false] at he
       cases hy:ZY ti.k y with
       | true=>simp only [hy,cond_true] at he;exact ⟨.inr ⟨_,he⟩,.inl rfl⟩
       | false=>simp [hy] at he
    have d1:=hden x hx hxy.1
    have d2:=hden y hy hxy.2
    refine ⟨?_,?_,Gd_b _⟩
    ·refine Z1Q ?_
     have hcc:den E x=.nilIface→(Z1y xo||Z1y yo)=true:=fun hz=>by
      obtain ⟨n,hn⟩:=d1.2 hz
      rw [hn] at e2
      simp only [ckI] at e2
      rw [← hc];exact e2
     have d11:=d1.1
     generalize den E x=vx at *
     generalize den E y=vy at *
     cases vx <;> cases vy <;> first | rfl | exact hcc rfl | (simp at d11;done)
    ·have:=Z3b (P:=P) (w:=w) (t:=t) (x:=den E x) (y:=den E y) (by have:=d1.1;revert this;cases den E x <;> simp) e1
     cases neg
     ·simpa [den_v] using this.1
     ·simpa [den_v] using this.2
theorem ZgG (hnn:∀ k v,Vle V k v→v≠0→∃ b c,E k v=some (b,c)) {op:BinOp} {t:TypeId} {x y r:SV} {xo yo:Operand} (hx:Gd m V x) (hy:Gd m V y) (h:(binR T op t (Z1y xo||Z1y yo) x y).To r) :
 (do eqGuard op t xo yo (den E x) (den E y);binOp op t (den E x) (den E y):Sem Value).run P w=.ok (den E r) w∧Gd m V r:=by
 unfold binR at h
 split at h
 ·rename_i k a k' b
  have hg:(eqGuard op t xo yo (den E (.i k a)) (den E (.i k' b))).run P w=.ok () w:=Z1Q (by simp [den_v])
  simp only [Sem.run_bind,hg,Result.andThen_ok]
  cases hs:Z6w op with
  | true=>simp only [hs,cond_true] at h;simpa [den_v] using shf_ok (E:=E) (w:=w) t h
  | false=>
    simp only [hs,cond_false] at h
    by_cases hk:k=k'
    ·subst hk;simp at h;simpa [den_v] using ZgE (E:=E) (w:=w) t hs h
    ·have hk':(k == k')=false:=beq_eq_false_iff_ne.2 hk
     simp [hk'] at h
 ·rename_i a b
  have hg:(eqGuard op t xo yo (den E (.s a)) (den E (.s b))).run P w=.ok () w:=Z1Q (by simp [den_v])
  simp only [Sem.run_bind,hg,Result.andThen_ok]
  simpa [den_v] using ZgF (E:=E) (w:=w) t h
 ·cases ht:T t with
  | none=>simp [ht] at h
  | some ti=>
    simp only [ht] at h
    cases op <;> simp only at h <;> try (simp at h;done)
    ·have:=ZbV hT (E:=E) (w:=w) hnn ht rfl hx hy h
     simp only [Bool.false_eq_true,if_false] at this
     exact ⟨by simp only [Sem.run_bind,this.1,Result.andThen_ok,this.2.1],this.2.2⟩
    ·have:=ZbV hT (E:=E) (w:=w) hnn ht rfl hx hy h
     simp only [if_true] at this
     exact ⟨by simp only [Sem.run_bind,this.1,Result.andThen_ok,this.2.1],this.2.2⟩
end
end
section
section
variable {P:Program} {T:Tb} (hT:TabOk P T) {E:Env} {m:Mem} {V:List Nat} {w:World}
include hT
theorem ZfB {src dst:TypeId} {x r:SV} (h:(Z7A T src dst x).To r):(convert src dst (den E x)).run P w=.ok (den E r) w∧Gd m V r:=by
 unfold Z7A at h
 cases hts:T src with
 | none=>simp [hts] at h
 | some tis=>
 obtain ⟨ds,hs,_⟩:=(hT.ti src tis hts).desc
 cases ht:T dst with
 | none=>simp [hts,ht] at h
 | some ti=>
   simp only [hts,ht] at h
   have hti:=hT.ti dst ti ht
   cases hk:ti.k <;> simp only [hk] at h <;> (cases x <;> simp at h)
   case int.i k k' n=>
    subst h
    refine ⟨?_,Gd_i _ _⟩
    simp only [convert,Sem.run_bind,Z6 hs,Z6 (hti.int hk),Result.andThen_ok,den_v]
    cases ds <;> simp [Conv.intToInt]
   case str.s l=>
    subst h
    refine ⟨?_,Gd_s _⟩
    simp only [convert,Sem.run_bind,Z6 hs,Z6 (hti.str hk),Result.andThen_ok,den_v]
    cases ds <;> simp
theorem ZfC {x r:SV} (hx:Gd m V x) (h:(Z7D x).To r) (o:Oper) (y:Operand) (ho:o.op=.nilCheck y) (ρ:Operand→Value) (hρ:ρ y=den E x) :
 (execOp ρ o).run P w=.ok (.value (den E r)) w∧Gd m V r:=by
 cases x <;> simp [Z7D] at h <;> subst h <;> refine ⟨?_,hx⟩ <;> simp [execOp,ho,hρ,den,wrapV,cells]
omit hT in
theorem Z8A {l:List SV} (h:OkA m V l):∀ {n:Nat} {x:SV},l[n]?=some x→Gd m V x:=by
 induction l with
 | nil=>intro n x hx;simp at hx
 | cons y r ih=>
   simp only [OkA] at h
   intro n x hx
   cases n with
   | zero=>simp at hx;subst hx;exact ⟨h.1.2,h.1.1⟩
   | succ n=>exact ih h.2 (by simpa using hx)
omit hT in
theorem Z79 {l:List SV}:∀ {n:Nat},(denL E l)[n]?=(l[n]?).map (den E):=by
 induction l with
 | nil=>intro n;simp [denL]
 | cons y r ih=>
   intro n
   cases n with
   | zero=>simp [denL,den]
   | succ n=>simpa [denL] using ih
omit hT in
theorem ZgH {x r:SV} {n:Nat} (hx:Gd m V x) (h:(extR x n).To r):(Instr.extract (den E x) n).run P w=.ok (den E r) w∧Gd m V r:=by
 cases x <;> simp [extR] at h
 rename_i vs
 have ho:OkA m V vs:=by have:=hx.1;simpa only [Ok] using this
 cases hv:vs[n]? with
 | none=>simp [hv] at h
 | some v=>
   simp [hv] at h;subst h
   refine ⟨?_,Z8A ho hv⟩
   have:=Z79 (E:=E) (l:=vs) (n:=n)
   rw [hv] at this
   simp [Instr.extract,den,wrapV,cells]
   simp [den,wrapV] at this
   simp [this]
theorem ZcH {x r:SV} {xt t:TypeId} {ok:Bool} (hx:Gd m V x) (h:(Z57 T x t ok).To r):(Instr.typeAssert (den E x) xt t ok).run P w=.ok (den E r) w∧Gd m V r:=by
 unfold Z57 at h
 cases ht:T t with
 | none=>simp [ht] at h
 | some ti=>
   have hti:=hT.ti t ti ht
   obtain ⟨d,hd,hk⟩:=hti.desc
   cases x <;> simp [ht] at h
   rename_i t' v
   have hv:Gd m V v:=by have:=hx.1;simp only [Ok] at this;exact this
   have key:(∀ ms,d≠.interface ms)∧t'=t∧r=(bif ok then .tup [v,.b true] else v):=by
    have hne:∀ (q:R),(match ti.k with | .iface _=>R.no | _=>q).To r→(∀ ms,d≠.interface ms)∧q.To r:=by
     intro q hq
     refine ⟨fun ms e=>?_,?_⟩
     ·subst e;cases hkk:ti.k <;> rw [hkk] at hq hk <;> simp [kokB] at hq hk
     ·cases hkk:ti.k <;> rw [hkk] at hq <;> first | exact hq | (simp at hq;done)
    obtain ⟨h1,h2⟩:=hne _ h
    cases hb:Nat.beq t' t with
    | false=>simp [hb] at h2
    | true=>
      simp only [hb,cond_true] at h2
      refine ⟨h1,Nat.eq_of_beq_eq_true hb,?_⟩
      cases ok <;> simpa [eq_comm] using h2
   obtain ⟨h1,rfl,rfl⟩:=key
   have hrun:(Instr.typeAssert (.iface t' (den E v)) xt t' ok).run P w=.ok (if ok then .tuple #[den E v,.bool true] else den E v) w:=by
    simp only [Instr.typeAssert,Sem.run_bind,Z6 hd,Result.andThen_ok]
    cases d <;> first | (exact absurd rfl (h1 _)) | simp
   have hden:den E (.iface t' v)=.iface t' (den E v):=by simp [den,wrapV,cells]
   rw [hden,hrun]
   cases ok
   ·exact ⟨by simp,hv⟩
   ·refine ⟨by simp [den,wrapV,cells,denL],⟨?_,rfl⟩⟩
    show Ok m V (.tup [v,.b true])
    simp only [Ok,OkA]
    exact ⟨⟨hv.2,hv.1⟩,⟨rfl,by simp⟩,trivial⟩
theorem ZgI {t:TypeId} {x r:SV} {ty:TypeId} (hx:Gd m V x) (h:(lenR T t x).To r) :
 (Builtin.len_ #[t] ty #[den E x]).run P w=.ok (den E r) w∧Gd m V r:=by
 unfold lenR at h
 cases ht:T t with
 | none=>simp [ht] at h
 | some ti=>
   have hti:=hT.ti t ti ht
   simp only [ht] at h
   have hsl:isSl ti.k=true→∃ e,P.underlying t=some (.slice e):=fun hh=>by
    cases hk:ti.k <;> rw [hk] at hh <;> simp [isSl] at hh
    exact ⟨_,hti.slice hk⟩
   split at h
   ·rename_i l
    cases hk:ti.k <;> rw [hk] at h <;> simp at h
    subst h
    refine ⟨?_,Gd_i _ _⟩
    simp only [Builtin.len_,den_v]
    simp [Z6 (hti.str hk),goInt];rfl
   ·cases hh:isSl ti.k with
    | false=>simp [hh] at h
    | true=>
      obtain ⟨e,hu⟩:=hsl hh
      simp [hh] at h;subst h
      refine ⟨?_,Gd_i _ _⟩
      simp [Builtin.len_,Z6 hu,den_v,goInt]
   ·cases hh:isSl ti.k with
    | false=>simp [hh] at h
    | true=>
      obtain ⟨e,hu⟩:=hsl hh
      simp [hh] at h;subst h
      refine ⟨?_,Gd_i _ _⟩
      simp [Builtin.len_,Z6 hu,den,wrapV,cells,goInt]
   ·rename_i k ver off len cap dc
    cases hh:isSl ti.k with
    | false=>simp [hh] at h
    | true=>
      obtain ⟨e,hu⟩:=hsl hh
      simp [hh] at h;subst h
      refine ⟨?_,Gd_i _ _⟩
      have:∃ o c,den E (.sl k ver off len cap dc)=.slice o len c:=by
       simp only [den,wrapV,cells,List.headD_cons]
       cases E k ver with
       | none=>exact ⟨_,_,rfl⟩
       | some p=>exact ⟨_,_,rfl⟩
      obtain ⟨o,c,ho⟩:=this
      simp [Builtin.len_,Z6 hu,ho,goInt,den_v]
   ·simp at h
   ·cases hk:ti.k <;> rw [hk] at h <;> simp at h
    subst h
    refine ⟨?_,Gd_i _ _⟩
    simp [Builtin.len_,Z6 (hti.array hk),den_v,goInt]
end
end
section
theorem Z60 {o:Operand} {N:Nat} (h:Z29 o N=true):∃ k n,o=.const (.int k (Int.ofNat n))∧n < N:=by
 cases o <;> simp [Z29] at h
 rename_i v
 cases v <;> try (simp at h;done)
 rename_i k n
 cases n <;> try (simp at h;done)
 rename_i n
 exact ⟨k,n,rfl,Nat.le_of_ble_eq_true h⟩
theorem ZbW (p:List Ix) (x:Ix):ofs (p++[x])=ofs p+(x.i * x.sz+x.sub):=by
 induction p with
 | nil=>simp [ofs]
 | cons y p ih=>simp [ofs,ih];omega
section
variable {P:Program} {T:Tb} (hT:TabOk P T) {E:Env} {m:Mem} {V:List Nat} {w:World}
include hT
theorem Zdw {t:TypeId} {x ix r:SV} {ixo:Operand} {ρ:Operand→Value} (hρ:ρ ixo=den E ix) (hc:∀ v,ixo=.const v→ρ ixo=v) (hnn:∀ k v,Vle V k v→v≠0→∃ b c,E k v=some (b,c)) (hx:Gd m V x) (hi:Gd m V ix) (h:(Z4b T t x ixo ix).To r) :
 (Instr.indexAt t (den E x) (ρ ixo)).run P w=.ok (den E r) w∧Gd m V r:=by
 unfold Z4b at h
 cases ix <;> try (simp at h;done)
 rename_i ki n
 simp only at h
 rw [hρ,den_v.1]
 have hcn:∀ N,Z29 ixo N=true→0≤n∧n < N∧(n.toNat:Int)=n:=by
  intro N hN
  obtain ⟨k,u,rfl,hu⟩:=Z60 hN
  have:=hc _ rfl
  rw [hρ,den_v.1] at this
  simp at this
  obtain ⟨_,rfl⟩:=this
  omega
 cases ht:T t with
 | none=>simp [ht] at h
 | some ti=>
   have hti:=hT.ti t ti ht
   simp only [ht] at h
   cases hk:ti.k <;> simp only [hk] at h <;> try (simp at h;done)
   case array N e=>
    cases hte:T e with
    | none=>simp [hte] at h
    | some te=>
      have hti':=hT.ti e te hte
      simp only [hte] at h
      have hrun:∀ b u:Nat,0≤n→n < N→(Instr.indexAt t (.pointer (some ⟨b,u,none⟩)) (.int ki n)).run P w=.ok (.pointer (some ⟨b,u+n.toNat * te.size,none⟩)) w:=fun b u h0 h1=>by
       simp only [Instr.indexAt,Sem.run_bind,asIntOf,Sem.run_pure,Result.andThen_ok,Z6 (hti.array hk),Instr.sureAddr]
       rw [if_pos ⟨h0,h1⟩]
       simp [hti'.run_sizeOf,ZD]
      cases x <;> try (simp at h;done)
      case ptr k ver off p=>
       simp only at h
       have fin:0≤n→n < N→∀ c,(Instr.indexAt t (den E (.ptr k ver off p)) (.int ki n)).run P w=.ok (den E (.ptr k ver off (p++[⟨c,n.toNat,te.size,0⟩]))) w∧Gd m V (.ptr k ver off (p++[⟨c,n.toNat,te.size,0⟩])):=by
        intro h0 h1 c
        refine ⟨?_,by simpa [Gd,Ok,live] using hx⟩
        simp only [den,wrapV,cells,List.headD_cons,hrun _ _ h0 h1,ZbW]
        simp [Nat.add_assoc]
       cases hf:ti.flat with
       | true=>
         simp [hf] at h
         obtain ⟨h1,rfl⟩:=h
         refine ⟨?_,by simpa [Gd,Ok,live] using hx⟩
         simp only [den,wrapV,cells,List.headD_cons,hrun _ _ h1.1 h1.2]
         rw [Nat.add_right_comm off (ofs p)]
       | false=>
       simp only [hf,cond_false] at h
       cases hcx:Z29 ixo N with
       | true=>simp [hcx] at h;subst h;have:=hcn N hcx;exact fin this.1 this.2.1 _
       | false=>simp [hcx] at h;obtain ⟨h1,rfl⟩:=h;exact fin h1.1 h1.2 _
      case ipt α d q enc xs a j sub p=>
       simp only at h
       have fin:0≤n→n < N→∀ c,(Instr.indexAt t (den E (.ipt α d q enc xs a j sub p)) (.int ki n)).run P w=.ok (den E (.ipt α d q enc xs a j sub (p++[⟨c,n.toNat,te.size,0⟩]))) w∧Gd m V (.ipt α d q enc xs a j sub (p++[⟨c,n.toNat,te.size,0⟩])):=by
        intro h0 h1 c
        refine ⟨?_,by simpa [Gd,Ok,live] using hx⟩
        simp only [den,wrapV,cells,List.headD_cons,hrun _ _ h0 h1,ZbW]
        simp [Nat.add_assoc]
       cases hf:(ti.flat&&!Zdq (enc (xs.getD j d)) sub) with
       | true=>
         simp only [hf,cond_true] at h
         simp at h
         obtain ⟨h1,rfl⟩:=h
         refine ⟨?_,by simpa [Gd,Ok,live] using hx⟩
         simp only [den,wrapV,cells,List.headD_cons,hrun _ _ h1.1 h1.2]
         congr 4
         omega
       | false=>
       simp only [hf,cond_false] at h
       cases hcx:Z29 ixo N with
       | true=>simp [hcx] at h;subst h;have:=hcn N hcx;exact fin this.1 this.2.1 _
       | false=>simp [hcx] at h;obtain ⟨h1,rfl⟩:=h;exact fin h1.1 h1.2 _
   case slice e=>
    cases hte:T e with
    | none=>simp [hte] at h
    | some te=>
      have hti':=hT.ti e te hte
      simp only [hte] at h
      have hrun:∀ (a:Addr) (l c:Nat),0≤n→n < l→(Instr.indexAt t (.slice (some a) l c) (.int ki n)).run P w=.ok (.pointer (some (a.add (n.toNat * te.size)))) w:=fun a l c h0 h1=>by
       simp only [Instr.indexAt,Sem.run_bind,asIntOf,Sem.run_pure,Result.andThen_ok,Z6 (hti.slice hk),Instr.sureAddr]
       rw [if_pos ⟨h0,h1⟩]
       simp [hti'.run_sizeOf]
      cases x <;> try (simp at h;done)
      case imm α d q enc xs a cap=>
       simp only at h
       cases hb:Nat.beq q te.size with
       | false=>simp [hb] at h
       | true=>
         simp only [hb,cond_true,ZgD] at h
         obtain ⟨⟨h0,h1⟩,rfl⟩:=h
         have hq:=Nat.eq_of_beq_eq_true hb
         have ho:=hx.1
         simp only [Ok] at ho
         obtain ⟨ho1,ho2,ho3,ho4⟩:=ho
         have hlt:n.toNat < xs.length:=by omega
         obtain ⟨ad,arr,ty,fr,e1,e2,_⟩:=ho2 (by intro e;simp [e] at hlt)
         subst e1
         refine ⟨?_,⟨by simp only [Ok,Option.getD_some];exact ⟨hlt,ho2,ho3,ho4⟩,rfl⟩⟩
         simp only [den,wrapV,cells,List.headD_cons,hrun _ _ _ h0 h1,Z4c e2,ofs,hq,Nat.add_zero,Option.getD_some]
      case sl k ver off len cap dc=>
       cases hf:ti.flat with
       | true=>
         have h:(0≤n∧n < len)∧SV.ptr k ver (off+n.toNat * te.size) []=r:=by cases cap <;> simpa [hf] using h
         obtain ⟨⟨h0,h1⟩,rfl⟩:=h
         have ho:=hx.1
         simp only [Ok] at ho
         have hv0:ver≠0:=fun e=>by have:=ho.2 e;omega
         obtain ⟨b,c,he⟩:=hnn k ver ho.1 hv0
         refine ⟨?_,⟨by simp only [Ok];exact ⟨ho.1,hv0⟩,rfl⟩⟩
         have hne:∀ c':Nat,(if cap=none∧len=0∧c'=dc then 0 else off)=off:=fun c'=>if_neg fun h=>absurd h.2.1 (by omega)
         simp only [den,wrapV,cells,List.headD_cons,he,hne,hrun _ _ _ h0 h1,ZD,ofs,Env.blk,Option.map_some,Option.getD_some,Nat.add_zero]
       | false=>
       simp only [hf,cond_false] at h
       cases cap with
       | some cap=>
         simp only at h
         cases hcx:Z29 ixo len with
         | false=>
           simp [hcx] at h
           obtain ⟨⟨h0,h1⟩,rfl⟩:=h
           have ho:=hx.1
           simp only [Ok] at ho
           have hv0:ver≠0:=fun e=>by have:=ho.2 e;omega
           obtain ⟨b,c,he⟩:=hnn k ver ho.1 hv0
           refine ⟨?_,⟨by simp only [Ok];exact ⟨ho.1,hv0⟩,rfl⟩⟩
           have hne:∀ c':Nat,(if some cap=none∧len=0∧c'=dc then 0 else off)=off:=fun c'=>if_neg fun h=>by cases h.1
           simp only [den,wrapV,cells,List.headD_cons,he,hne,hrun _ _ _ h0 h1,ZD,ofs,Env.blk,Option.map_some,Option.getD_some,Nat.add_zero]
         | true=>
           simp [hcx] at h;subst h
           have h1:=hcn len hcx
           have ho:=hx.1
           simp only [Ok] at ho
           have hv0:ver≠0:=fun e=>by have:=ho.2 e;omega
           obtain ⟨b,c,he⟩:=hnn k ver ho.1 hv0
           refine ⟨?_,⟨by simp only [Ok];exact ⟨ho.1,hv0⟩,rfl⟩⟩
           have hne:∀ c':Nat,(if some cap=none∧len=0∧c'=dc then 0 else off)=off:=fun c'=>if_neg fun h=>by cases h.1
           simp only [den,wrapV,cells,List.headD_cons,he,hne,hrun _ _ _ h1.1 h1.2.1,ZD,ofs,Env.blk,Option.map_some,Option.getD_some,Nat.add_zero]
       | none=>
         simp at h
         obtain ⟨⟨hoff,h0,h1⟩,rfl⟩:=h
         have ho:=hx.1
         simp only [Ok] at ho
         have hv0:ver≠0:=fun e=>by have:=ho.2 e;omega
         obtain ⟨b,c,he⟩:=hnn k ver ho.1 hv0
         refine ⟨?_,⟨by simp only [Ok];exact ⟨ho.1,hv0⟩,rfl⟩⟩
         have hne:∀ c':Nat,(if len=0∧c'=dc then 0 else dc * te.size)=dc * te.size:=fun c'=>if_neg fun h=>absurd h.1 (by omega)
         simp only [den,wrapV,cells,List.headD_cons,he,hrun _ _ _ h0 h1,ZD,ofs,Env.blk,Option.map_some,Option.getD_some,Nat.add_zero,Nat.zero_add,Nat.add_mul,hoff,true_and,hne]
theorem Z8B {e:TypeId} {te:TI} (hte:T e=some te) {cs:List SV} (ho:OkL m V cs) {o:Nat} {l:List SV} (hl:OkL m V l) (hat:∀ u c,(cellsL E l)[u]?=some c→(cellsL E cs)[o+u]?=some c)
 {x:SV} (hr:rdT te.k.agg te.size l=some x):(part e (cellsL E cs).toArray o).run P w=.ok (den E x) w∧Gd m V x:=by
 refine ⟨?_,Zaj hr hl⟩
 have hti:=hT.ti e te hte
 cases ha:te.k.agg with
 | true=>
   rw [ha] at hr
   obtain ⟨cs',rfl,ho',hlen,hc⟩:=Z8z (E:=E) hr hl
   have:(cellsL E cs).toArray.extract o (o+te.size)=(cellsL E cs').toArray:=by
    apply Array.ext'
    simp only [List.extract_toArray,List.extract_eq_take_drop,Nat.add_sub_cancel_left]
    apply List.ext_getElem?
    intro u
    by_cases hu:u < te.size
    ·have hx:(cellsL E cs')[u]?=some ((cellsL E cs')[u]'(by omega)):=List.getElem?_eq_getElem _
     have:=hat u _ (hc u _ hx)
     rw [List.getElem?_take_of_lt hu,List.getElem?_drop,this,hx]
    ·rw [List.getElem?_eq_none (by simp;omega),List.getElem?_eq_none (by omega)]
   simp only [part,Sem.run_bind,hti.run_isAgg,ha,Result.andThen_ok,if_true,hti.run_sizeOf,Sem.run_pure,this,den_agg]
 | false=>
   rw [ha] at hr
   obtain ⟨_,_,hc⟩:=Z78 (E:=E) hr hl
   have:=hat 0 _ hc
   simp only [Nat.add_zero] at this
   simp only [part,Sem.run_bind,hti.run_isAgg,ha,Result.andThen_ok,Bool.false_eq_true,if_false,List.getElem?_toArray,this,Sem.run_pure]
theorem Zdx {t:TypeId} {x ix r:SV} {c:Bool} (hc:c=true→∀ k n,ix=.i k n→0≤n) (hx:Gd m V x) (h:(Z53 T t x ix c).To r) :
 (Instr.index t (den E x) (den E ix)).run P w=.ok (den E r) w∧Gd m V r:=by
 unfold Z53 at h
 split at h
 ·rename_i l k n
  cases ht:T t with
  | none=>simp [ht] at h
  | some ti=>
  have hti:=hT.ti t ti ht
  simp only [ht] at h
  cases hk:ti.k <;> rw [hk] at h <;> simp at h
  obtain ⟨⟨h0,h1⟩,rfl⟩:=h
  refine ⟨?_,Gd_i _ _⟩
  have hlt:n.toNat < l.length:=by omega
  have hg:(⟨⟨l⟩⟩:ByteArray)[n.toNat]?=some (l[n.toNat]'hlt):=by
   rw [getElem?_def,dif_pos (show n.toNat < (⟨⟨l⟩⟩:ByteArray).size from hlt)]
   rfl
  simp only [Instr.index,den_v,Sem.run_bind,asIntOf,Sem.run_pure,Result.andThen_ok,Z6 (hti.str hk),if_pos h0,hg]
  simp [hlt]
 ·rename_i cs k n
  cases ht:T t with
  | none=>simp [ht] at h
  | some ti=>
    have hti:=hT.ti t ti ht
    simp only [ht] at h
    cases hk:ti.k <;> simp only [hk] at h <;> try (simp at h;done)
    rename_i N e
    cases hte:T e with
    | none=>simp [hte] at h
    | some te=>
      have hti':=hT.ti e te hte
      simp only [hte] at h
      cases hf:ti.flat with
      | true=>
        simp only [hf,cond_true] at h
        cases hd:ZI cs (n.toNat * te.size) with
        | none=>rw [hd] at h;simp at h
        | some l=>
          rw [hd] at h
          simp only at h
          cases hrd:rdT te.k.agg te.size l with
          | none=>rw [hrd] at h;simp at h
          | some y=>
            rw [hrd] at h
            simp at h
            obtain ⟨⟨h0,hN⟩,rfl⟩:=h
            have ho:OkL m V cs:=by have:=hx.1;simpa only [Ok] using this
            obtain ⟨o2,hat⟩:=Z2L E hd ho
            obtain ⟨h3,h4⟩:=Z8B hT (w:=w) hte ho o2 hat hrd
            refine ⟨?_,h4⟩
            simp only [Instr.index,den_agg,den_v,Sem.run_bind,asIntOf,Sem.run_pure,Result.andThen_ok,Z6 (hti.array hk)]
            rw [if_pos ⟨h0,hN⟩]
            simp only [Sem.run_bind,hti'.run_sizeOf,Result.andThen_ok,h3]
      | false=>
      simp only [hf,cond_false] at h
      match cs,hx,h with
      | [u],hx,h=>
      simp only at h
      cases hbn:Nat.beq (ZcD u) N with
      | false=>simp [hbn] at h
      | true=>
      simp only [hbn,cond_true] at h
      have hun:=Nat.eq_of_beq_eq_true hbn
      have ho:OkL m V [u]:=by have:=hx.1;simpa only [Ok] using this
      have key:0≤n∧(rdR te.k.agg te.size (Z2e u ⟨c,n.toNat,te.size,0⟩)).To r:=by
       cases hrd:rdR te.k.agg te.size (Z2e u ⟨c,n.toNat,te.size,0⟩) with
       | no=>rw [hrd] at h;simp at h
       | v y=>
         rw [hrd] at h
         cases c with
         | true=>simp at h;exact ⟨hc rfl k n rfl,by simp [h]⟩
         | false=>simp at h
       | ob p y=>rw [hrd] at h;simp at h;exact ⟨h.1.1,by simp [h.1.2,h.2]⟩
      obtain ⟨h0,h2⟩:=key
      obtain ⟨l,hn,hrd⟩:=Z7G h2
      have ho1:Ok m V u:=by simp only [OkL] at ho;exact ho.1.2
      obtain ⟨o2,hat⟩:=Z7F (E:=E) hn ho1
      have hat':∀ j v,(cellsL E l)[j]?=some v→(cellsL E [u])[n.toNat * te.size+j]?=some v:=fun j v hv=>by
       have:=hat j v hv
       simpa [cellsL] using this
      obtain ⟨h3,h4⟩:=Z8B hT (w:=w) hte ho o2 hat' hrd
      refine ⟨?_,h4⟩
      have hN:n < N:=by
       have:=Zfx hn
       simp only at this
       omega
      simp only [Instr.index,den_agg,den_v,Sem.run_bind,asIntOf,Sem.run_pure,Result.andThen_ok,Z6 (hti.array hk)]
      rw [if_pos ⟨h0,hN⟩]
      simp only [Sem.run_bind,hti'.run_sizeOf,Result.andThen_ok,h3]
 ·simp at h
theorem Zdy {t:TypeId} {x r:SV} {f:Nat} (hx:Gd m V x) (h:(Z7B T t x f).To r):(Instr.field t (den E x) f).run P w=.ok (den E r) w∧Gd m V r:=by
 unfold Z7B at h
 cases x <;> try (simp at h;done)
 rename_i cs
 simp only at h
 cases ht:T t with
 | none=>simp [ht] at h
 | some ti=>
   have hti:=hT.ti t ti ht
   simp only [ht] at h
   cases hk:ti.k <;> simp only [hk] at h <;> try (simp at h;done)
   rename_i fs
   obtain ⟨fields,hu,hfs,_⟩:=hti.struct hk
   cases hf:fs[f]? with
   | none=>simp [hf] at h
   | some oe=>
     obtain ⟨o,e⟩:=oe
     simp only [hf] at h
     cases hte:T e with
     | none=>simp [hte] at h
     | some te=>
       simp only [hte] at h
       obtain ⟨l,hn,hrd⟩:=Z7G h
       cases hd:ZI cs o with
       | none=>simp [hd] at hn
       | some l'=>
         simp [hd] at hn
         subst hn
         have ho:OkL m V cs:=by have:=hx.1;simpa only [Ok] using this
         obtain ⟨o2,hat⟩:=Z2L E hd ho
         obtain ⟨h3,h4⟩:=Z8B hT (w:=w) hte ho o2 hat hrd
         refine ⟨?_,h4⟩
         have hfld:∃ fl,fields[f]?=some fl∧fl.offset=o∧fl.type=e:=by
          rw [← hfs] at hf
          simp only [List.getElem?_map,Array.getElem?_toList] at hf
          cases hx:fields[f]? with
          | none=>simp [hx] at hf
          | some fl=>simp [hx] at hf;exact ⟨fl,rfl,hf.1,hf.2⟩
         obtain ⟨fl,hfl,hfo,hfe⟩:=hfld
         simp only [Instr.field,Sem.run_bind,Z6 hu,Result.andThen_ok,hfl,den_agg,asAgg,Sem.run_pure,hfe,hfo,h3]
omit hT in
theorem ZbX {b:Bool} {l:List SV} {r:SV} (h:(minR b l).To r) (at_:Array TypeId) (ty:TypeId) :
 ((if b then Builtin.max_ else Builtin.min_) at_ ty (denL E l).toArray).run P w=.ok (den E r) w∧Gd m V r:=by
 unfold minR at h
 split at h
 ·rename_i k x k' y
  by_cases hk:k=k'
  ·subst hk
   simp at h;subst h
   refine ⟨?_,Gd_i _ _⟩
   cases b <;> simp [denL,wrapV,cells,Builtin.min_,Builtin.max_,Builtin.min2,Builtin.max2,den_v]
  ·have hk':(k == k')=false:=beq_eq_false_iff_ne.2 hk
   simp [hk'] at h
 ·simp at h
omit hT in
theorem Z4d {segs s' new:List SV} {off:Nat} (h:Z1i segs off new=some s') (ho:OkL m V segs) (hn:OkL m V new) :
 OkL m V s'∧(cellsL E s').length=(cellsL E segs).length∧off+(cellsL E new).length≤(cellsL E segs).length ∧
 cellsL E s'=(cellsL E segs).take off++cellsL E new++(cellsL E segs).drop (off+(cellsL E new).length):=by
 unfold Z1i at h
 rw [Z4a] at h
 cases ht:Z17 segs off with
 | none=>simp [ht] at h
 | some pre=>
   simp only [ht] at h
   cases hd:ZI segs (off+wdL new) with
   | none=>simp [hd] at h
   | some post=>
     simp only [hd,Option.some.injEq] at h
     subst h
     obtain ⟨r1,e1,w1⟩:=Z2v ht
     obtain ⟨p2,e2,w2⟩:=Z3Q hd
     have o1:=OkL_append.1 (e1 ▸ ho)
     have o2:=OkL_append.1 (e2 ▸ ho)
     have ok':OkL m V (pre++new++post):=OkL_append.2 ⟨OkL_append.2 ⟨o1.1,hn⟩,o2.2⟩
     have l1:=length_cellsL E pre V o1.1
     have l2:=length_cellsL E new V hn
     have l3:=length_cellsL E p2 V o2.1
     have c1:cellsL E segs=cellsL E pre++cellsL E r1:=by rw [e1,Zl]
     have c2:cellsL E segs=cellsL E p2++cellsL E post:=by rw [e2,Zl]
     have hpre:(cellsL E segs).take off=cellsL E pre:=by rw [c1,List.take_left' (by omega)]
     have hpost:(cellsL E segs).drop (off+(cellsL E new).length)=cellsL E post:=by rw [c2,List.drop_left' (by omega)]
     have hlen:(cellsL E segs).length=off+wdL new+(cellsL E post).length:=by rw [c2];simp;omega
     refine ⟨ok',?_,by omega,by rw [Zl,Zl,hpre,hpost]⟩
     rw [Zl,Zl]
     simp only [List.length_append]
     omega
omit hT in
theorem Z1R {x:SV} (hx:Gd m V x) (hok:Zs x=true):(den E x).cells.toList=cellsL E (Zj x)∧OkL m V (Zj x):=by
 cases x <;> try (simp [Zs,Z27] at hok;done)
 case agg cs=>exact ⟨by simp [den_agg,Value.cells,Zj],hx.1⟩
 case raw v=>cases v <;> try (simp [Zs,Z27,Z1Z] at hok;done)
             all_goals (refine ⟨?_,?_⟩ <;> simp [den,wrapV,cells,Zj,cellsL,Value.cells,OkL,isUnit,Z1Z,Ok])
 case sl k ver off len cap dc=>
  refine ⟨?_,⟨⟨rfl,hx.1⟩,trivial⟩⟩
  simp only [den,wrapV,cells,Zj,cellsL,List.headD_cons,List.append_nil]
  cases E k ver with
  | none=>rfl
  | some p=>rfl
 all_goals (refine ⟨?_,⟨⟨rfl,hx.1⟩,trivial⟩⟩;simp [den,wrapV,cells,Zj,cellsL,Value.cells])
omit hT in
theorem Zdz (cs:List Value):∀ (acc:List Value) (off:Nat),off+cs.length≤acc.length →
 (cs.toArray.zipIdx.foldl (fun (a:Array Value) (p:Value×Nat)=>a.setIfInBounds (off+p.2) p.1) acc.toArray)=(acc.take off++cs++acc.drop (off+cs.length)).toArray:=by
 intro acc off h
 rw [← Array.foldl_toList]
 simp only [Array.toList_zipIdx]
 have key:∀ (cs:List Value) (k:Nat) (acc:List Value),off+k+cs.length≤acc.length →
  List.foldl (fun (a:Array Value) (p:Value×Nat)=>a.setIfInBounds (off+p.2) p.1) acc.toArray (cs.zipIdx k)=(acc.take (off+k)++cs++acc.drop (off+k+cs.length)).toArray:=by
  intro cs
  induction cs with
  | nil=>intro k acc h;simp
  | cons c cs ih=>
    intro k acc h
    simp only [List.length_cons] at h
    simp only [List.zipIdx_cons,List.foldl_cons,List.setIfInBounds_toArray]
    rw [ih (k+1) (acc.set (off+k) c) (by simp;omega)]
    congr 1
    apply List.ext_getElem?
    intro i
    simp only [List.length_cons]
    by_cases h1:i < off+k
    ·rw [List.append_assoc,List.append_assoc,List.getElem?_append_left (by simp;omega),List.getElem?_append_left (by simp;omega)]
     rw [List.getElem?_take_of_lt (by omega),List.getElem?_take_of_lt h1,List.getElem?_set_ne (by omega)]
    ·by_cases h2:i=off+k
     ·subst h2
      rw [List.append_assoc,List.append_assoc,List.getElem?_append_left (by simp;omega),List.getElem?_append_right (by simp;omega)]
      rw [List.getElem?_take_of_lt (by omega),List.getElem?_set_self (by omega)]
      simp [Nat.min_eq_left (show off+k≤acc.length by omega)]
     ·have e1:(List.take (off+(k+1)) (acc.set (off+k) c)).length=off+k+1:=by simp;omega
      have e2:(List.take (off+k) acc).length=off+k:=by simp;omega
      have l1:∀ B:List Value,(List.take (off+(k+1)) (acc.set (off+k) c)++B)[i]?=B[i - (off+k+1)]?:=fun B=>by
       rw [List.getElem?_append_right (by omega),e1]
      have l2:∀ B:List Value,(List.take (off+k) acc++c::B)[i]?=B[i - (off+k+1)]?:=fun B=>by
       rw [List.getElem?_append_right (by omega),e2,show i - (off+k)=(i - (off+k+1))+1 by omega,List.getElem?_cons_succ]
      rw [List.append_assoc,List.append_assoc,l1,List.cons_append,l2]
      by_cases h3:i - (off+k+1) < cs.length
      ·rw [List.getElem?_append_left h3,List.getElem?_append_left h3]
      ·rw [List.getElem?_append_right (by omega),List.getElem?_append_right (by omega),List.getElem?_drop,List.getElem?_drop,List.getElem?_set_ne (by omega)]
       congr 1;omega
 simpa using key cs 0 acc (by omega)
omit hT in
theorem Zan {place:Nat→Option (Nat×Nat)} {i off size:Nat} {v:Value} {cs acc:List Value} {rest:List (Nat×Value)} (hp:place i=some (off,size)) (hv:v.cells.toList=cs) (hs:cs.length=size) (hl:off+cs.length≤acc.length) :
 Instr.fill place acc.toArray ((i,v)::rest)=Instr.fill place (acc.take off++cs++acc.drop (off+cs.length)).toArray rest:=by
 have hv':v.cells=cs.toArray:=by rw [← hv]
 simp only [Instr.fill,hp,hv',List.size_toArray,hs]
 have:¬ (off+size > acc.length):=by omega
 simp only [ne_eq,not_true_eq_false,decide_false,Bool.false_or,decide_eq_true_eq,this,Bool.false_eq_true,if_false]
 have:=Zdz cs acc off hl
 rw [hs] at this
 rw [← this]
omit hT in
theorem Z2Z {z:List SV} (hz:OkL m V z):∀ n,OkL m V (ZF n z)
 | 0=>by simp [ZF,OkL]
 | n+1=>by simp only [ZF];exact OkL_append.2 ⟨hz,Z2Z hz n⟩
theorem TabOk.zeroOk {t:TypeId} {ti:TI} (ht:T t=some ti):OkL m V ti.zero∧cellsL E ti.zero=cellsL E0 ti.zero:=by
 have:=(hT.ti t ti ht).zok
 have h1:OkL m [] ti.zero:=OkL.mono (fun _ _ h=>by simp at h) _ [] [] (fun _ _ h=>h) this
 exact ⟨h1.up,h1.E0⟩
theorem Z5U {fs:List (Nat×TypeId)} {place:Nat→Option (Nat×Nat)} (hp:∀ (i o:Nat) (e:TypeId) (te:TI),fs[i]?=some (o,e)→T e=some te→place i=some (o,te.size)) :
 ∀ (parts:List (Nat×SV)) (acc cs:List SV),(∀ p ∈ parts,Zs p.2=true→Gd m V p.2)→OkL m V acc→Z1J T fs parts acc=some cs →
   OkL m V cs∧Instr.fill place (cellsL E acc).toArray (parts.map fun p=>(p.1,den E p.2))=some (cellsL E cs).toArray
 | [],acc,cs,_,ho,h=>by simp [Z1J] at h;subst h;exact ⟨ho,by simp [Instr.fill]⟩
 | (i,x)::r,acc,cs,hg,ho,h=>by
   simp only [Z1J] at h
   cases hf:fs[i]? with
   | none=>simp [hf] at h
   | some oe=>
     obtain ⟨o,e⟩:=oe
     cases hte:T e with
     | none=>simp [hf,hte] at h
     | some te=>
       simp only [hf,hte,Z2K] at h
       cases hb:(Zs x&&Nat.beq (wdL (Zj x)) te.size) with
       | false=>simp [hb] at h
       | true=>
         simp only [hb,cond_true] at h
         simp at hb
         cases hs:Z1i acc o (Zj x) with
         | none=>simp [hs] at h
         | some acc'=>
           simp only [hs] at h
           have hx:=hg (i,x) (List.mem_cons_self ..) hb.1
           obtain ⟨h1,h2⟩:=Z1R (E:=E) hx hb.1
           obtain ⟨o1,o2,o3,o4⟩:=Z4d (E:=E) hs ho h2
           obtain ⟨q1,q2⟩:=Z5U hp r acc' cs (fun p hp=>hg p (List.mem_cons_of_mem _ hp)) o1 h
           refine ⟨q1,?_⟩
           have hlen:(cellsL E (Zj x)).length=te.size:=by rw [length_cellsL E _ V h2];exact hb.2
           rw [List.map_cons,Zan (hp i o e te hf hte) h1 hlen o3,← o4]
           exact q2
omit hT in
theorem Z3u {sz:Nat}:∀ (parts:List (Nat×SV)) (acc cs:List SV),(∀ p ∈ parts,Zs p.2=true→Gd m V p.2)→OkL m V acc→ZZ sz parts acc=some cs →
 OkL m V cs∧Instr.fill (fun i=>some (i * sz,sz)) (cellsL E acc).toArray (parts.map fun p=>(p.1,den E p.2))=some (cellsL E cs).toArray
 | [],acc,cs,_,ho,h=>by simp [ZZ] at h;subst h;exact ⟨ho,by simp [Instr.fill]⟩
 | (i,x)::r,acc,cs,hg,ho,h=>by
   simp only [ZZ,Z2K] at h
   cases hb:(Zs x&&Nat.beq (wdL (Zj x)) sz) with
   | false=>simp [hb] at h
   | true=>
     simp only [hb,cond_true] at h
     simp at hb
     cases hs:Z1i acc (i * sz) (Zj x) with
     | none=>simp [hs] at h
     | some acc'=>
       simp only [hs] at h
       have hx:=hg (i,x) (List.mem_cons_self ..) hb.1
       obtain ⟨h1,h2⟩:=Z1R (E:=E) hx hb.1
       obtain ⟨o1,o2,o3,o4⟩:=Z4d (E:=E) hs ho h2
       obtain ⟨q1,q2⟩:=Z3u r acc' cs (fun p hp=>hg p (List.mem_cons_of_mem _ hp)) o1 h
       refine ⟨q1,?_⟩
       have hlen:(cellsL E (Zj x)).length=sz:=by rw [length_cellsL E _ V h2];exact hb.2
       rw [List.map_cons,Zan (place:=fun i=>some (i * sz,sz)) rfl h1 hlen o3,← o4]
       exact q2
omit hT in
theorem Z7L {k:IntKind}:∀ {cs:List SV} {xs:List Int},Z5s k cs=some xs→cellsL E cs=xs.map (.int k)∧wdL cs=xs.length
 | [],xs,h=>by simp [Z5s] at h;subst h;simp [cellsL,wdL]
 | x::r,xs,h=>by
   cases x <;> try (simp [Z5s] at h;done)
   rename_i k' n
   simp only [Z5s] at h
   by_cases hk:k=k'
   ·subst hk
    simp at h
    cases hr:Z5s k r with
    | none=>simp [hr] at h
    | some l=>
      simp [hr] at h;subst h
      have:=Z7L hr
      simp [cellsL,cells,this.1,wdL,wd,this.2];omega
   ·have hk':(k == k')=false:=beq_eq_false_iff_ne.2 hk
    simp [hk'] at h
omit hT in
theorem ZfD {te:TI} {n:Nat} {cs:List SV} (ho:OkL m V cs):OkL m V (Z9U te n cs)∧cellsL E (Z9U te n cs)=cellsL E cs:=by
 unfold Z9U
 simp only [Z2K]
 split
 ·rename_i k hk
  cases hb:Nat.beq (wdL cs) n with
  | false=>exact ⟨ho,rfl⟩
  | true=>
    simp only [cond_true]
    have hw:=Nat.eq_of_beq_eq_true hb
    split
    ·rename_i xs hx
     obtain ⟨h1,h2⟩:=Z7L (E:=E) hx
     exact ⟨by simp [OkL,isUnit,Ok,← hw,h2],by simp [cellsL,cells,h1]⟩
    ·exact ⟨ho,rfl⟩
 ·exact ⟨ho,rfl⟩
omit hT in
theorem Z5x {f:Bool} {te:TI} {n:Nat} {cs:List SV} (ho:OkL m V cs):OkL m V (Z2s f te n cs)∧cellsL E (Z2s f te n cs)=cellsL E cs:=by
 cases f with
 | true=>exact ⟨ho,rfl⟩
 | false=>exact ZfD ho
omit hT in
theorem Z4e {fs:List (Nat×TypeId)}:∀ (parts:List (Nat×SV)) (acc cs:List SV),Z1J T fs parts acc=some cs→∀ p ∈ parts,Zs p.2=true
 | [],_,_,_=>by simp
 | (i,x)::r,acc,cs,h=>by
   simp only [Z1J,Z2K] at h
   split at h
   ·split at h
    ·cases hb:(Zs x&&Nat.beq (wdL (Zj x)) _) with
     | false=>rw [hb] at h;simp at h
     | true=>
       rw [hb] at h;simp only [cond_true] at h
       split at h
       ·have ih:=Z4e r _ cs h
        intro p hp
        rcases List.mem_cons.1 hp with rfl | hp
        ·simp at hb;exact hb.1
        ·exact ih p hp
       ·simp at h
    ·simp at h
   ·simp at h
omit hT in
theorem Z2w {sz:Nat}:∀ (parts:List (Nat×SV)) (acc cs:List SV),ZZ sz parts acc=some cs→∀ p ∈ parts,Zs p.2=true
 | [],_,_,_=>by simp
 | (i,x)::r,acc,cs,h=>by
   simp only [ZZ,Z2K] at h
   cases hb:(Zs x&&Nat.beq (wdL (Zj x)) sz) with
   | false=>rw [hb] at h;simp at h
   | true=>
     rw [hb] at h;simp only [cond_true] at h
     split at h
     ·have ih:=Z2w r _ cs h
      intro p hp
      rcases List.mem_cons.1 hp with rfl | hp
      ·simp at hb;exact hb.1
      ·exact ih p hp
     ·simp at h
theorem ZdA {t:TypeId} {parts:List (Nat×SV)} {vs:List (Nat×Value)} {r:SV} (hg:∀ p ∈ parts,Zs p.2=true→Gd m V p.2)
 (hv:(∀ p ∈ parts,Zs p.2=true)→vs=parts.map fun p=>(p.1,den E p.2)) (h:(Zai T t parts).To r) :
 (Instr.build t vs.toArray).run P w=.ok (den E r) w∧Gd m V r:=by
 unfold Zai at h
 cases ht:T t with
 | none=>simp [ht] at h
 | some ti=>
   have hti:=hT.ti t ti ht
   simp only [ht] at h
   obtain ⟨it,z,hit,hs,_,hz,hzc⟩:=hti.inf
   obtain ⟨zo,zc⟩:=hT.zeroOk (m:=m) (V:=V) (E:=E) ht
   have hz':z.cells=(cellsL E ti.zero).toArray:=by rw [zc,← hzc]
   cases hk:ti.k <;> simp only [hk] at h <;> try (simp at h;done)
   case struct fs=>
    obtain ⟨fields,hu,hfs,hfi⟩:=hti.struct hk
    cases hb:Z1J T fs parts ti.zero with
    | none=>simp [hb] at h
    | some cs=>
      simp [hb] at h;subst h
      have hplaces:∃ places,fields.toList.mapM (fun f=>(P.info? f.type).map fun i=>(f.offset,i.size))=some places∧∀ (i:Nat) (f:Field),fields.toList[i]?=some f→places[i]?=some (f.offset,P.cellsOf f.type):=by
       clear hfs hu
       generalize fields.toList=fl at hfi
       induction fl with
       | nil=>exact ⟨[],by simp,by simp⟩
       | cons f fl ih=>
         obtain ⟨pl,hp1,hp2⟩:=ih (fun g hg=>hfi g (List.mem_cons_of_mem _ hg))
         obtain ⟨i,hi,_⟩:=hfi f (List.mem_cons_self ..)
         refine ⟨(f.offset,i.size)::pl,by simp [hi,hp1],fun j g hj=>?_⟩
         cases j with
         | zero=>simp at hj;subst hj;simp [Program.cellsOf,hi]
         | succ j=>simpa using hp2 j g (by simpa using hj)
      obtain ⟨places,hp1,hp2⟩:=hplaces
      have hplace:∀ (i o:Nat) (e:TypeId) (te:TI),fs[i]?=some (o,e)→T e=some te→places.toArray[i]?=some (o,te.size):=by
       intro i o e te hi hte
       rw [← hfs] at hi
       simp only [List.getElem?_map] at hi
       cases hf:fields.toList[i]? with
       | none=>rw [hf] at hi;simp at hi
       | some f=>
         rw [hf] at hi;simp at hi
         obtain ⟨rfl,rfl⟩:=hi
         obtain ⟨i',z',hi',hs',_⟩:=(hT.ti _ te hte).inf
         simp [hp2 i f hf,Program.cellsOf,hi',hs']
      obtain ⟨q1,q2⟩:=Z5U hT (E:=E) hplace parts ti.zero cs hg zo hb
      refine ⟨?_,.agg q1⟩
      rw [den_agg]
      apply run_build
      simp only [Program.built,hit,hu,hz,hp1,hz']
      rw [hv (Z4e parts _ cs hb)]
      exact q2
   case array n e=>
    cases hte:T e with
    | none=>simp [hte] at h
    | some te=>
      simp only [hte] at h
      cases hb:ZZ te.size parts (ZF n te.zero) with
      | none=>simp [hb] at h
      | some cs=>
        simp [hb] at h;subst h
        obtain ⟨ie,ze,hie,hse,_⟩:=(hT.ti e te hte).inf
        obtain ⟨zeo,zec⟩:=hT.zeroOk (m:=m) (V:=V) (E:=E) hte
        obtain ⟨q1,q2⟩:=Z3u (E:=E) parts (ZF n te.zero) cs hg (Z2Z zeo n) hb
        obtain ⟨p1,p2⟩:=Z5x (E:=E) (f:=ti.flat) (te:=te) (n:=n) q1
        have hzz:cellsL E (ZF n te.zero)=cellsL E ti.zero:=by
         have h0:=(hT.arr t ti n e te ht hk hte).2
         have hzo:OkL (fun _=>none) [] te.zero:=(hT.ti e te hte).zok
         rw [OkL.E0 (E:=E) (Z2Z hzo n),h0,zc]
        refine ⟨?_,.agg p1⟩
        rw [den_agg,p2]
        apply run_build
        simp only [Program.built,hit,hti.array hk,hz,hie,hz',hse]
        rw [hv (Z2w parts _ cs hb),← hzz]
        exact q2
omit hT in
theorem Z11 {lo hi:Option SV} {len cap u v:Nat} {p:Option (PSigma fun p:Prop=>Decidable p)} (isS:Bool) (hb:ZT lo hi len=some (p,u,v)) (hp:∀ q,p=some q→q.1) (hc:len≤cap) :
 (Instr.sliceBounds isS len cap (lo.map (den E)) (hi.map (den E)) none).run P w=.ok (u,v,cap) w∧u≤v∧v≤len:=by
 have hsb:∀ (k:IntKind) (a:Int) (y:Nat) (code:BoundsCode),0≤a→a≤y→(Instr.sliceBound (.int k a) y code).run P w=.ok a.toNat w:=fun k a y code h0 h1=>by
  simp only [Instr.sliceBound,asIntOf,Sem.run_bind,Sem.run_pure,Result.andThen_ok,if_pos (And.intro h0 h1)]
 unfold ZT at hb
 split at hb
 ·simp at hb;obtain ⟨rfl,rfl,rfl⟩:=hb
  exact ⟨by simp [Instr.sliceBounds],by omega,by omega⟩
 ·rename_i k a
  simp at hb;obtain ⟨rfl,rfl,rfl⟩:=hb
  have:=hp _ rfl
  refine ⟨?_,by omega,by omega⟩
  simp [Instr.sliceBounds,den_v,hsb k a len _ this.1 this.2]
 ·rename_i k b
  simp at hb;obtain ⟨rfl,rfl,rfl⟩:=hb
  have:=hp _ rfl
  refine ⟨?_,by omega,by omega⟩
  simp [Instr.sliceBounds,den_v,hsb k b cap _ this.1 (by omega)]
 ·rename_i k a k' b
  simp at hb;obtain ⟨rfl,rfl,rfl⟩:=hb
  have:=hp _ rfl
  refine ⟨?_,by omega,by omega⟩
  have h1:((b.toNat:Nat):Int)=b:=by omega
  simp [Instr.sliceBounds,den_v,hsb k' b cap _ (by omega) (by omega),hsb k a b.toNat _ this.1 (by omega)]
 ·simp at hb
omit hT in
theorem Z3G {p:Option (PSigma fun p:Prop=>Decidable p)} {x r:SV} (h:(mkR p x).To r):x=r∧∀ q,p=some q→q.1:=by
 cases p with
 | none=>simp [mkR] at h;exact ⟨h,fun q hq=>by simp at hq⟩
 | some q=>simp [mkR] at h;exact ⟨h.2,fun q' hq=>by cases hq;exact h.1⟩
theorem ZdB {t:TypeId} {x r:SV} {lo hi:Option SV} (hnn:∀ k v,Vle V k v→v≠0→∃ b c,E k v=some (b,c)) (hx:Gd m V x) (h:(Z5Y T t x lo hi).To r) :
 (Instr.sliceAt t (den E x) (lo.map (den E)) (hi.map (den E)) none).run P w=.ok (den E r) w∧Gd m V r:=by
 unfold Z5Y at h
 cases ht:T t with
 | none=>simp [ht] at h
 | some ti=>
   have hti:=hT.ti t ti ht
   simp only [ht] at h
   cases hk:ti.k <;> simp only [hk] at h <;> try (simp at h;done)
   case str=>
    cases x <;> try (simp at h;done)
    rename_i l
    simp only at h
    cases hb:ZT lo hi l.length with
    | none=>simp [hb] at h
    | some q=>
      obtain ⟨p,a,b⟩:=q
      simp only [hb] at h
      obtain ⟨rfl,hp⟩:=Z3G h
      obtain ⟨h1,h2,h3⟩:=Z11 (E:=E) (w:=w) (P:=P) false hb hp (Nat.le_refl _)
      refine ⟨?_,Gd_s _⟩
      have hu:=hti.str hk
      have hsz:(⟨⟨l⟩⟩:ByteArray).size=l.length:=rfl
      have hex:(⟨⟨l⟩⟩:ByteArray).extract a b=⟨⟨(l.take b).drop a⟩⟩:=by
       apply ByteArray.ext
       rw [ByteArray.data_extract]
       apply Array.ext'
       simp [List.extract_eq_take_drop,List.drop_take]
      simp only [Instr.sliceAt,Sem.run_bind,Z6 hu,Result.andThen_ok,den_v,Instr.slice,Option.isSome_none,Bool.false_eq_true,if_false,hsz,Sem.run_pure,h1,hex]
   case slice e=>
    have hu:=hti.slice hk
    cases x <;> try (simp at h;done)
    case nils=>
     simp only at h
     cases hte:T e with
     | none=>simp [hte] at h
     | some te=>
       cases hb:ZT lo hi 0 with
       | none=>simp [hte,hb] at h
       | some q=>
         obtain ⟨p,a,b⟩:=q
         simp only [hte,hb] at h
         obtain ⟨rfl,hp⟩:=Z3G h
         obtain ⟨h1,h2,h3⟩:=Z11 (E:=E) (w:=w) (P:=P) true hb hp (Nat.le_refl _)
         have hb0:b=0:=by omega
         have ha0:a=0:=by omega
         subst hb0;subst ha0
         refine ⟨?_,hx⟩
         simp [Instr.sliceAt,Z6 hu,den_v,Instr.slice,h1,(hT.ti e te hte).run_sizeOf]
    case sl k ver off len cap dc=>
     simp only at h
     cases hte:T e with
     | none=>simp [hte] at h
     | some te=>
       cases hb:ZT lo hi len with
       | none=>simp [hte,hb] at h
       | some q=>
         obtain ⟨p,u,v⟩:=q
         simp only [hte,hb] at h
         have ho:=hx.1
         simp only [Ok] at ho
         have run:∀ (a:Option Addr) (c:Nat),u≤v→v≤len→len≤c→(∀ q,p=some q→q.1)→(Instr.sliceAt t (.slice a len c) (lo.map (den E)) (hi.map (den E)) none).run P w=.ok (.slice (if c=u then a else a.map (·.add (u * te.size))) (v - u) (c - u)) w:=fun a c _ _ hc hp=>by
          obtain ⟨h1,_,_⟩:=Z11 (E:=E) (w:=w) (P:=P) true hb hp hc
          simp only [Instr.sliceAt,Sem.run_bind,Z6 hu,Result.andThen_ok,Instr.slice,h1,(hT.ti e te hte).run_sizeOf,Sem.run_pure]
         cases cap with
         | none=>simp at h
         | some c=>
           simp only at h
           obtain ⟨hc,h⟩:=Z6x h
           obtain ⟨rfl,hp⟩:=Z3G h
           obtain ⟨_,h2,h3⟩:=Z11 (E:=E) (w:=w) (P:=P) true hb hp hc
           refine ⟨?_,⟨by simp only [Ok];exact ⟨ho.1,fun e=>by have:=ho.2 e;omega⟩,rfl⟩⟩
           simp only [den,wrapV,cells,List.headD_cons]
           cases he:E k ver with
           | none=>
             simp only [Option.getD_some]
             rw [run none c h2 h3 hc hp]
             congr 3;split <;> rfl
           | some q=>
             obtain ⟨b,c'⟩:=q
             simp only [Option.getD_some]
             rw [run _ c h2 h3 hc hp]
             congr 3
             split <;> simp [ZD]
    case imm α d n enc xs a cap=>
     simp only at h
     cases hte:T e with
     | none=>simp [hte] at h
     | some te=>
       cases hb:ZT lo hi xs.length with
       | none=>simp [hte,hb] at h
       | some q=>
         obtain ⟨p,u,v⟩:=q
         simp only [hte,hb] at h
         cases hbn:Nat.beq n te.size with
         | false=>simp [hbn] at h
         | true=>
           have hn:=Nat.eq_of_beq_eq_true hbn
           simp only [hbn,cond_true] at h
           obtain ⟨rfl,hp⟩:=Z3G h
           have ho:=hx.1
           simp only [Ok] at ho
           obtain ⟨o1,o2,o3,o4⟩:=ho
           obtain ⟨h1,h2,h3⟩:=Z11 (E:=E) (w:=w) (P:=P) true hb hp o1
           have hlen:((xs.take v).drop u).length=v - u:=by simp;omega
           have hget:∀ j,j < v - u→((xs.take v).drop u).getD j d=xs.getD (u+j) d:=fun j hj=>by
            simp only [List.getD_eq_getElem?_getD,List.getElem?_drop,List.getElem?_take_of_lt (show u+j < v by omega)]
           refine ⟨?_,⟨?_,rfl⟩⟩
           ·have hd:∀ y cap',den E (.imm α d n enc ((xs.take v).drop u) y cap')=.slice y (v - u) cap':=fun y cap'=>by simp only [den,wrapV,cells,List.headD_cons,hlen]
            have hd':den E (.imm α d n enc xs a cap)=.slice a xs.length cap:=by simp only [den,wrapV,cells,List.headD_cons]
            rw [hd,hd']
            simp only [Instr.sliceAt,Sem.run_bind,Z6 hu,Result.andThen_ok,Instr.slice,h1,(hT.ti e te hte).run_sizeOf,Sem.run_pure,hn]
           ·simp only [Ok,hlen]
            refine ⟨by omega,?_,o3,fun j hj=>by rw [hget j hj];exact o4 _ (by omega)⟩
            intro hne
            have hpos:0 < v - u:=by
             rcases Nat.eq_zero_or_pos (v - u) with h0 | h0
             ·exact absurd (List.eq_nil_of_length_eq_zero (by rw [hlen,h0])) hne
             ·exact h0
            have hcu:cap≠u:=by omega
            obtain ⟨ad,arr,ty,fr,e1,e2,e3,e4⟩:=o2 (by intro e;simp [e] at h3;omega)
            subst e1
            refine ⟨ad.add (u * n),arr,ty,fr,by simp [hcu],?_,?_,?_⟩
            ·rw [Z4c e2]
            ·rw [Z4c e2];exact e3
            ·intro j hj w' c hc
             rw [Z4c e2]
             rw [hlen] at hj
             rw [hget j hj] at hc
             have:=e4 (u+j) (by omega) w' c hc
             rw [← this];congr 1
             simp only [Nat.add_mul];omega
   case array N e=>
    have hu:=hti.array hk
    cases hte:T e with
    | none=>simp [hte] at h
    | some te=>
      simp only [hte] at h
      cases x <;> try (simp at h;done)
      case ptr k ver off ix=>
      cases ix with
      | cons _ _=>simp at h
      | nil=>
        simp only at h
        cases hb:ZT lo hi N with
        | none=>rw [hb] at h;simp at h
        | some q=>
          obtain ⟨p,u,v⟩:=q
          rw [hb] at h
          obtain ⟨rfl,hp⟩:=Z3G h
          obtain ⟨h1,h2,h3⟩:=Z11 (E:=E) (w:=w) (P:=P) false hb hp (Nat.le_refl _)
          have ho:=hx.1
          simp only [Ok] at ho
          obtain ⟨b,c,he⟩:=hnn k ver ho.1 ho.2
          refine ⟨?_,⟨by simp only [Ok];exact ⟨ho.1,fun e=>absurd e ho.2⟩,rfl⟩⟩
          have hq:den E (.ptr k ver off [])=.pointer (some ⟨b,off,none⟩):=by simp [den,wrapV,cells,Env.blk,he,ofs]
          rw [hq]
          simp only [Instr.sliceAt,Sem.run_bind,Z6 hu,Result.andThen_ok,Instr.sureAddr,Sem.run_pure,h1,(hT.ti e te hte).run_sizeOf]
          simp only [den,wrapV,cells,List.headD_cons,he,Option.getD_some,reduceCtorEq,false_and,if_false]
          congr 3
          split <;> simp [ZD]
   case ptr arr=>
    have hu:=hti.ptr hk
    cases hta:T arr with
    | none=>simp [hta] at h
    | some ta=>
      simp only [hta] at h
      cases hka:ta.k <;> simp only [hka] at h <;> try (simp at h;done)
      rename_i N e
      have hua:=(hT.ti arr ta hta).array hka
      have gen:(match T e with
       | some te=>match x with
         | .ptr k ver off []=>match ZT lo hi N with
           | some (p,u,v)=>mkR p (.sl k ver (if N=u then off else off+u * te.size) (v - u) (some (N - u)) 0)
           | none=>.no
         | _=>.no
       | none=>R.no).To r→(Instr.sliceAt t (den E x) (lo.map (den E)) (hi.map (den E)) none).run P w=.ok (den E r) w∧Gd m V r:=by
       clear h
       intro h
       cases hte:T e with
       | none=>rw [hte] at h;simp at h
       | some te=>
         rw [hte] at h
         cases x <;> try (simp at h;done)
         case ptr k ver off ix=>
         cases ix with
         | cons _ _=>simp at h
         | nil=>
           simp only at h
           cases hb:ZT lo hi N with
           | none=>rw [hb] at h;simp at h
           | some q=>
             obtain ⟨p,u,v⟩:=q
             rw [hb] at h
             obtain ⟨rfl,hp⟩:=Z3G h
             obtain ⟨h1,h2,h3⟩:=Z11 (E:=E) (w:=w) (P:=P) false hb hp (Nat.le_refl _)
             have ho:=hx.1
             simp only [Ok] at ho
             obtain ⟨b,c,he⟩:=hnn k ver ho.1 ho.2
             refine ⟨?_,⟨by simp only [Ok];exact ⟨ho.1,fun e=>absurd e ho.2⟩,rfl⟩⟩
             have hq:den E (.ptr k ver off [])=.pointer (some ⟨b,off,none⟩):=by simp [den,wrapV,cells,Env.blk,he,ofs]
             rw [hq]
             simp only [Instr.sliceAt,Sem.run_bind,Z6 hu,Result.andThen_ok,Instr.slice,asAddr,Sem.run_pure,Z6 hua,h1,(hT.ti e te hte).run_sizeOf]
             simp only [den,wrapV,cells,List.headD_cons,he,Option.getD_some]
             congr 3
             split <;> simp [ZD]
      cases lo with
      | some _=>exact gen h
      | none=>
        cases hi with
        | some _=>exact gen h
        | none=>
          simp only at h
          cases hte:T e with
          | none=>simp [hte] at h
          | some te=>
            simp only [hte] at h
            have hrun:∀ a:Addr,(Instr.sliceAt t (.pointer (some a)) none none none).run P w=.ok (.slice (some a) N N) w:=fun a=>by
             have hz:a.add 0=a:=by simp [Addr.add]
             have hii:∀ (x:Option Addr),(if N=0 then x else x)=x:=fun x=>by split <;> rfl
             simp [Instr.sliceAt,Instr.slice,Instr.sliceBounds,Z6 hu,Z6 hua,asAddr,(hT.ti e te hte).run_sizeOf,hz]
            cases x <;> try (simp at h;done)
            case ptr k ver off ix=>
             cases ix with
             | cons _ _=>simp at h
             | nil=>
               simp at h;subst h
               have ho:=hx.1
               simp only [Ok] at ho
               obtain ⟨b,c,he⟩:=hnn k ver ho.1 ho.2
               refine ⟨?_,⟨by simp only [Ok];exact ⟨ho.1,fun e=>absurd e ho.2⟩,rfl⟩⟩
               simp only [Option.map_none,den,wrapV,cells,List.headD_cons,he,hrun,ofs,Env.blk,Option.map_some,Option.getD_some,Nat.add_zero,reduceCtorEq,false_and,if_false]
            case ipt α d n enc xs a j sub ix=>
             simp only at h
             cases hsz:Nat.beq te.size 1 with
             | false=>simp [hsz] at h
             | true=>
               simp only [hsz,cond_true] at h
               have ho:=hx.1
               simp only [Ok] at ho
               obtain ⟨hj,him,hw,hok⟩:=ho
               have key:∃ k ys l,(nav (enc (xs.getD j d)) sub ix).To (.ints k N ys::l)∧r=.imm Int 0 1 (fun x=>[.i k x]) ys (some ⟨a.block,a.off+j * n+sub+ofs ix,none⟩) N:=by
                cases hnv:nav (enc (xs.getD j d)) sub ix with
                | no=>rw [hnv] at h;simp [Z2Y] at h
                | ok l=>
                  rw [hnv] at h
                  cases l with
                  | nil=>simp [Z2Y] at h
                  | cons y l=>
                    cases y <;> try (simp [Z2Y] at h;done)
                    rename_i k q ys
                    simp only [Z2Y] at h
                    cases hb:Nat.beq q N with
                    | false=>simp [hb] at h
                    | true=>have:=Nat.eq_of_beq_eq_true hb;subst this;simp [hb] at h;exact ⟨k,ys,l,by simp,h.symm⟩
                | ob p l=>
                  rw [hnv] at h
                  cases l with
                  | nil=>simp [Z2Y] at h
                  | cons y l=>
                    cases y <;> try (simp [Z2Y] at h;done)
                    rename_i k q ys
                    simp only [Z2Y] at h
                    cases hb:Nat.beq q N with
                    | false=>simp [hb] at h
                    | true=>have:=Nat.eq_of_beq_eq_true hb;subst this;simp [hb] at h;exact ⟨k,ys,l,by simp [h.1],h.2.symm⟩
               obtain ⟨k,ys,l,hn,rfl⟩:=key
               obtain ⟨o2,hat⟩:=Z77 (E:=E0) hn (hok j hj)
               have hyl:ys.length=N:=by simp only [OkL,Ok] at o2;exact o2.1.2
               refine ⟨?_,⟨?_,rfl⟩⟩
               ·simp only [Option.map_none,den,wrapV,cells,List.headD_cons,hrun,hyl]
               ·simp only [Ok]
                refine ⟨by omega,?_,fun x=>by simp [wdL,wd],fun i _=>by simp [OkL,Ok,isUnit]⟩
                intro hne
                obtain ⟨ad,arr',ty,fr,e1,e2,e3,e4⟩:=him (by intro e;simp [e] at hj)
                cases e1
                refine ⟨_,arr',ty,fr,rfl,rfl,e3,fun i hi w' c hc=>?_⟩
                simp only [cellsL,cells,List.append_nil] at hc
                have hw0:w'=0:=by have:=(List.getElem?_eq_some_iff.1 hc).1;simp at this;exact this
                subst hw0
                simp at hc
                have hgi:(cellsL E0 (.ints k N ys::l))[i]?=some c:=by
                 simp only [cellsL,cells]
                 rw [List.getElem?_append_left (by simp;exact hi)]
                 simp [hi,← hc]
                have:=e4 j hj _ _ (hat i c hgi)
                rw [← this];congr 1
                simp only [Nat.mul_one,Nat.add_zero];omega
omit hT in
theorem Zao {hi:Option SV} {len u v:Nat} {p:Option (PSigma fun p:Prop=>Decidable p)} (h:ZT none hi len=some (p,u,v)):u=0:=by
 cases hi with
 | none=>simp [ZT] at h;exact h.2.1.symm
 | some x=>cases x <;> simp [ZT] at h;exact h.2.1.symm
theorem ZdC {C:Fr} {h:List SB} (hr:Rel E C m h w) {t:TypeId} {k ver off len dc:Nat} {r:SV} {lo hi:Option SV} (hx:Gd m (vers h) (.sl k ver off len none dc)) (hh:(Z7C T h t k ver off len dc lo hi).To r) :
 (Instr.sliceAt t (den E (.sl k ver off len none dc)) (lo.map (den E)) (hi.map (den E)) none).run P w=.ok (den E r) w∧Gd m (vers h) r:=by
 unfold Z7C at hh
 cases ht:T t with
 | none=>simp [ht] at hh
 | some ti=>
   have hti:=hT.ti t ti ht
   simp only [ht] at hh
   cases hk:ti.k <;> simp only [hk] at hh <;> try (simp at hh;done)
   rename_i e
   have hu:=hti.slice hk
   cases hte:T e with
   | none=>simp [hte] at hh
   | some te=>
     simp only [hte] at hh
     cases hB:h.getD k .fresh <;> rw [hB] at hh <;> simp only at hh <;> try (simp at hh;done)
     rename_i ty segs ver' gw
     cases hb:ZT lo hi len with
     | none=>simp [hb] at hh
     | some q=>
       obtain ⟨p,u,v⟩:=q
       simp only [hb] at hh
       obtain ⟨⟨⟨e1,e2,e3⟩,e4,e5⟩,hh⟩:=Z6x hh
       have hkB:=getD_some hB (by simp)
       have ho:=hx.1
       simp only [Ok] at ho
       have key:(E k ver=none∧len=0)∨∃ b c,E k ver=some (b,c)∧dc+len≤c:=by
        have hbl:=hr.bl k _ hkB
        cases gw with
        | zero=>omega
        | succ g=>
          obtain ⟨o1,o2,o3⟩:=hbl
          by_cases hv:ver'=0
          ·exact .inl ⟨by rw [e1,hv];exact (o2 hv).2,ho.2 (e1.trans hv)⟩
          ·obtain ⟨b,c,sp,he,_,hl,_⟩:=o3 hv
           refine .inr ⟨b,c,by rw [e1];exact he,?_⟩
           have hw:=length_cellsL E segs _ o1
           have:(dc+len) * (g+1)≤c * (g+1):=by rw [e2] at e5;omega
           exact Nat.le_of_mul_le_mul_right this (by omega)
       have run:∀ (a:Option Addr) (c:Nat),len≤c→(∀ q,p=some q→q.1)→(Instr.sliceAt t (.slice a len c) (lo.map (den E)) (hi.map (den E)) none).run P w=.ok (.slice (if c=u then a else a.map (·.add (u * te.size))) (v - u) (c - u)) w∧u≤v∧v≤len:=fun a c hc hp=>by
        obtain ⟨h1,h2,h3⟩:=Z11 (E:=E) (w:=w) (P:=P) true hb hp hc
        exact ⟨by simp only [Instr.sliceAt,Sem.run_bind,Z6 hu,Result.andThen_ok,Instr.slice,h1,(hT.ti e te hte).run_sizeOf,Sem.run_pure],h2,h3⟩
       cases lo with
       | none=>
         simp only at hh
         obtain ⟨rfl,hp⟩:=Z3G hh
         have hu0:u=0:=Zao hb
         subst hu0
         rcases key with ⟨k1,k2⟩ | ⟨b,c,k1,k2⟩
         ·obtain ⟨r1,r2,r3⟩:=run none 0 (by omega) hp
          have hv0:v=0:=by omega
          subst hv0
          refine ⟨?_,⟨by simp only [Ok];exact ⟨ho.1,fun _=>trivial⟩,rfl⟩⟩
          simp only [den,wrapV,cells,List.headD_cons,k1,Option.getD_none]
          simpa [k2] using r1
         ·generalize hoff0:(if len=0∧c=dc then 0 else off)=off0
          obtain ⟨r1,r2,r3⟩:=run (some ⟨b,off0,none⟩) (c - dc) (by omega) hp
          refine ⟨?_,⟨by simp only [Ok];exact ⟨ho.1,fun e=>by have:=ho.2 e;omega⟩,rfl⟩⟩
          simp only [den,wrapV,cells,List.headD_cons,k1,Option.getD_none,true_and,hoff0,Nat.sub_zero]
          have e9:(if v=0∧c=dc then 0 else off)=off0:=by
           rw [← hoff0]
           by_cases hcd:c=dc
           ·rw [if_pos ⟨by omega,hcd⟩,if_pos ⟨by omega,hcd⟩]
           ·rw [if_neg (fun h=>hcd h.2),if_neg (fun h=>hcd h.2)]
          simp only [e9]
          simpa [ZD] using r1
       | some l=>
         simp only at hh
         obtain ⟨hul,hh⟩:=Z6x hh
         obtain ⟨rfl,hp⟩:=Z3G hh
         rcases key with ⟨k1,k2⟩ | ⟨b,c,k1,k2⟩
         ·obtain ⟨r1,r2,r3⟩:=run none 0 (by omega) hp
          have hv0:v=0:=by omega
          have hu0:u=0:=by omega
          subst hv0 hu0
          refine ⟨?_,⟨by simp only [Ok];exact ⟨ho.1,fun _=>trivial⟩,rfl⟩⟩
          simp only [den,wrapV,cells,List.headD_cons,k1,Option.getD_none]
          simpa [k2] using r1
         ·have e8:(if len=0∧c=dc then 0 else off)=off:=by
           split
           ·rename_i h8
            rcases hul with h9 | h9
            ·omega
            ·rw [e4,h9,Nat.zero_mul]
           ·rfl
          obtain ⟨r1,r2,r3⟩:=run (some ⟨b,off,none⟩) (c - dc) (by omega) hp
          refine ⟨?_,⟨by simp only [Ok];exact ⟨ho.1,fun e=>by have:=ho.2 e;omega⟩,rfl⟩⟩
          simp only [den,wrapV,cells,List.headD_cons,k1,Option.getD_none,true_and,e8]
          rw [r1]
          by_cases hcu:c - dc=u
          ·have h7:dc=0:=by omega
           have h6:off=0:=by rw [e4,h7,Nat.zero_mul]
           rw [if_pos hcu,if_pos ⟨by omega,by omega⟩,h6,Nat.sub_sub]
          ·rw [if_neg hcu,if_neg (fun h=>by omega)]
           simp [ZD,Nat.sub_sub]
omit hT in
theorem Z7a {len cap:Nat} (k k':IntKind):(Instr.sliceBounds true len cap none (some (.int k 0)) (some (.int k' 0))).run P w=.ok (0,0,0) w:=by
 simp [Instr.sliceBounds,Instr.sliceBound,asIntOf]
theorem ZcI {t:TypeId} {x r:SV} {lo hi:Option SV} {mx:SV} (hx:Gd m V x) (h:(Z55 T t x lo hi (some mx)).To r) :
 (Instr.sliceAt t (den E x) (lo.map (den E)) (hi.map (den E)) (some (den E mx))).run P w=.ok (den E r) w∧Gd m V r:=by
 unfold Z55 at h
 split at h
 ·rename_i k k' hm
  cases hm
  cases ht:T t with
  | none=>simp [ht] at h
  | some ti=>
    have hti:=hT.ti t ti ht
    simp only [ht] at h
    cases hk:ti.k <;> simp only [hk] at h <;> try (simp at h;done)
    rename_i e
    cases hte:T e with
    | none=>simp [hte] at h
    | some te=>
      simp only [hte] at h
      have run:∀ (a:Option Addr) (l c:Nat),(Instr.sliceAt t (.slice a l c) none (some (.int k 0)) (some (.int k' 0))).run P w=.ok (.slice a 0 0) w:=fun a l c=>by
       simp only [Instr.sliceAt,Sem.run_bind,Z6 (hti.slice hk),Result.andThen_ok,Instr.slice,Z7a,(hT.ti e te hte).run_sizeOf,Sem.run_pure]
       simp
      have e0:Int.ofNat 0=0:=rfl
      simp only [Option.map_none,Option.map_some,den_v.1,e0]
      cases x <;> try (simp at h;done)
      case sl kk ver off len cap dc=>
       have h:SV.sl kk ver off 0 (some 0) 0=r∧(cap=none→off=0∨0 < len):=by
        cases cap with
        | none=>simp at h;exact ⟨h.2,fun _=>h.1⟩
        | some c=>simp at h;exact ⟨h,fun e=>by cases e⟩
       obtain ⟨rfl,hcn⟩:=h
       have ho:=hx.1
       simp only [Ok] at ho
       refine ⟨?_,⟨by simp only [Ok];exact ⟨ho.1,fun _=>trivial⟩,rfl⟩⟩
       simp only [den,wrapV,cells,List.headD_cons]
       cases E kk ver with
       | none=>simpa using run none len _
       | some q=>
         have e8:(if cap=none∧len=0∧q.2=dc then 0 else off)=off:=by
          split
          ·rename_i h8
           rcases hcn h8.1 with h9 | h9
           ·exact h9.symm
           ·omega
          ·rfl
         simp only [e8]
         simpa using run _ len _
      case nils=>
       simp at h;subst h
       refine ⟨?_,hx⟩
       rw [den_v.2.2.2.2];exact run none 0 0
      case imm α d n enc xs a cap=>
       simp at h;subst h
       have ho:=hx.1
       simp only [Ok] at ho
       refine ⟨?_,⟨?_,rfl⟩⟩
       ·simp only [den,wrapV,cells,List.headD_cons,List.length_nil];exact run a _ _
       ·simp only [Ok,List.length_nil]
        exact ⟨Nat.le_refl _,fun e=>absurd rfl e,ho.2.2.1,fun j hj=>by omega⟩
 ·simp at h
end
end
section
structure Evs (E:Env) (m:Mem) (V:List Nat) (e:Operand→SV) (ρ:Operand→Value):Prop where
 gd:∀ o,e o=.dead∨Gd m V (e o)∧ρ o=den E (e o)
 cst:∀ v,ρ (.const v)=v
theorem Evs.live {E m V e ρ} (h:Evs E m V e ρ) {o:Operand} (hl:live (e o)=true):Gd m V (e o)∧ρ o=den E (e o):=by
 rcases h.gd o with hd | hg
 ·rw [hd] at hl;simp [SX.live] at hl
 ·exact hg
theorem Z1q {x:SV} (h:Zs x=true):live x=true:=by cases x <;> simp [Zs,Z27] at h <;> rfl
section
variable {T:Tb} {h:List SB} {t:TypeId}
theorem Z7M:Z20 T h t .dead=.no:=by unfold Z20;cases T t <;> rfl
theorem ZbF {f:Nat}:Z56 T t .dead f=.no:=by
 unfold Z56
 (repeat' split) <;> first | rfl | simp_all
theorem ZdD {k:TK}:nilB k .dead=none:=by cases k <;> rfl
theorem Z9F {k:TK}:ZY k .dead=false:=by cases k <;> rfl
theorem Z98 {k:TK} {c:Bool} {y:SV}:nilE k c .dead y=none∧nilE k c y .dead=none:=by
 unfold nilE
 rw [Z9F,ZdD]
 cases ckI k c <;> cases ZY k y <;> simp
theorem Z99 {neg c:Bool} {ti:TI} {y:SV}:binE neg c ti .dead y=.no∧binE neg c ti y .dead=.no:=by
 constructor <;> unfold binE <;> (repeat' split) <;> first | rfl | (simp_all;done) | (simp_all [Z98];done) | (rename_i hh;simp [Z98] at hh;done)
theorem binR_dead {op:BinOp} {c:Bool} {y:SV}:binR T op t c .dead y=.no∧binR T op t c y .dead=.no:=by
 constructor
 ·simp only [binR]
  cases T t with
  | none=>rfl
  | some ti=>cases op <;> simp [Z99]
 ·cases y <;> simp only [binR] <;> (cases T t with
  | none=>rfl
  | some ti=>cases op <;> simp [Z99])
theorem addrIx_dead {o:Operand} {y:SV}:Z4b T t .dead o y=.no∧Z4b T t y o .dead=.no:=by
 refine ⟨?_,by cases y <;> rfl⟩
 unfold Z4b
 (repeat' split) <;> first | rfl | simp_all
theorem indexR_dead {c:Bool} {y:SV}:Z53 T t .dead y c=.no∧Z53 T t y .dead c=.no:=by
 refine ⟨by cases y <;> rfl,?_⟩
 unfold Z53
 split <;> simp_all
theorem ZbG {f:Nat}:Z7B T t .dead f=.no:=rfl
theorem ZcJ {s:TypeId}:Z7A T s t .dead=.no:=by
 unfold Z7A
 cases T s <;> cases T t <;> simp only
 rename_i ti
 cases ti.k <;> rfl
theorem ZdE {n:Nat}:extR .dead n=.no:=rfl
theorem Zap {c:Bool}:Z57 T .dead t c=.no:=by unfold Z57;cases T t <;> rfl
theorem Zaq {lo hi mx:Option SV}:Z55 T t .dead lo hi mx=.no:=by
 unfold Z55
 (repeat' split) <;> first | rfl | simp_all
theorem ZbH {lo hi:Option SV}:Z5Y T t .dead lo hi=.no:=by
 unfold Z5Y
 (repeat' split) <;> first | rfl | simp_all
end
section
variable {P:Program} {T:Tb} (hT:TabOk P T) {E:Env} {C:Fr} {m:Mem} {h:List SB} {w:World} (hr:Rel E C m h w) {e:Operand→SV} {ρ:Operand→Value} (he:Evs E m (vers h) e ρ)
include hT hr he
theorem Z4f (o:Oper) {x:SV} (hx:(Zx T h e o.op).To x):∃ v,(execOp ρ o).run P w=.ok (.value v) w∧(x=.dead∨Gd m (vers h) x∧v=den E x):=by
 cases ho:o.op <;> rw [ho] at hx <;> try (simp [Zx] at hx;done)
 case move y=>simp [Zx] at hx;subst hx;exact ⟨ρ y,by simp [execOp,ho],(he.gd y).imp id id⟩
 case assign y=>simp [Zx] at hx;subst hx;exact ⟨ρ y,by simp [execOp,ho],(he.gd y).imp id id⟩
 case load t p=>
  simp only [Zx] at hx
  rcases he.gd p with hd | ⟨g,hρ⟩
  ·rw [hd,Z7M] at hx;simp at hx
  ·obtain ⟨h1,h2⟩:=Zak hT.ti hr g hx
   exact ⟨den E x,by simp [execOp,ho,hρ,h1],.inr ⟨h2,rfl⟩⟩
 case nilCheck y=>
  simp only [Zx] at hx
  rcases he.gd y with hd | ⟨g,hρ⟩
  ·rw [hd] at hx;simp [Z7D] at hx
  ·obtain ⟨h1,h2⟩:=ZfC hT (w:=w) (E:=E) g hx o y ho ρ hρ
   exact ⟨_,h1,.inr ⟨h2,rfl⟩⟩
 case fieldAddr t p f=>
  simp only [Zx] at hx
  rcases he.gd p with hd | ⟨g,hρ⟩
  ·rw [hd,ZbF] at hx;simp at hx
  ·obtain ⟨h1,h2⟩:=Zdt hT.ti (w:=w) (E:=E) g hx
   exact ⟨_,by simp [execOp,ho,hρ,h1],.inr ⟨h2,rfl⟩⟩
 case indexAddr t y ix=>
  simp only [Zx] at hx
  rcases he.gd y with hd | ⟨g,hρ⟩
  ·rw [hd,addrIx_dead.1] at hx;simp at hx
  ·rcases he.gd ix with hd | ⟨g2,hρ2⟩
   ·rw [hd,addrIx_dead.2] at hx;simp at hx
   ·obtain ⟨h1,h2⟩:=Zdw hT (w:=w) (E:=E) hρ2 (fun v hv=>by rw [hv];exact he.cst v) hr.nn g g2 hx
    exact ⟨_,by simp [execOp,ho,hρ,h1],.inr ⟨h2,rfl⟩⟩
 case index t y ix=>
  simp only [Zx] at hx
  rcases he.gd y with hd | ⟨g,hρ⟩
  ·rw [hd,indexR_dead.1] at hx;simp at hx
  ·rcases he.gd ix with hd | ⟨g2,hρ2⟩
   ·rw [hd,indexR_dead.2] at hx;simp at hx
   ·obtain ⟨h1,h2⟩:=Zdx hT (w:=w) (E:=E) (fun hc k n hk=>by
     obtain ⟨k',u,hu,_⟩:=Z60 hc
     have:=he.cst (.int k' (Int.ofNat u))
     rw [← hu,hρ2,hk,den_v.1] at this
     simp at this
     omega) g hx
    exact ⟨_,by simp [execOp,ho,hρ,hρ2,h1],.inr ⟨h2,rfl⟩⟩
 case field t y f=>
  simp only [Zx] at hx
  rcases he.gd y with hd | ⟨g,hρ⟩
  ·rw [hd,ZbG] at hx;simp at hx
  ·obtain ⟨h1,h2⟩:=Zdy hT (w:=w) (E:=E) g hx
   exact ⟨_,by simp [execOp,ho,hρ,h1],.inr ⟨h2,rfl⟩⟩
 case binOp op t y z yt=>
  simp only [Zx] at hx
  rcases he.gd y with hd | ⟨g,hρ⟩
  ·rw [hd,binR_dead.1] at hx;simp at hx
  ·rcases he.gd z with hd | ⟨g2,hρ2⟩
   ·rw [hd,binR_dead.2] at hx;simp at hx
   ·obtain ⟨h1,h2⟩:=ZgG hT (w:=w) (E:=E) hr.nn g g2 hx
    refine ⟨_,?_,.inr ⟨h2,rfl⟩⟩
    simp only [Sem.run_bind] at h1
    simp only [execOp,ho,hρ,hρ2,Sem.run_bind,h1,Result.andThen_ok,Sem.run_pure]
 case unOp op t y=>
  cases op <;> try (simp [Zx] at hx;done)
  all_goals
   simp only [Zx] at hx
   rcases he.gd y with hd | ⟨g,hρ⟩
   ·rw [hd] at hx;simp at hx
   ·cases hy:e y <;> rw [hy] at hx <;> simp at hx
    subst hx
    refine ⟨_,?_,.inr ⟨by first | exact Gd_i _ _ | exact Gd_b _,rfl⟩⟩
    first
    | (simp [execOp,ho,hρ,hy,den_v,Op.unary];done)
    | (simp only [execOp,ho,hρ,hy,den_v,Op.unary,Op.intArith,Sem.run_bind,Sem.run_pure,Result.andThen_ok];done)
    | (simp only [execOp,ho,hρ,hy,den_v,Op.unary,Op.intArith,Sem.run_bind,Sem.run_pure,Result.andThen_ok,Int.zero_sub];done)
    | (simp only [execOp,ho,hρ,hy,den_v,Op.unary,Sem.run_bind,Z2N (.inr (.inr (.inl rfl))),Result.andThen_ok,Sem.run_pure];done)
 case convert src dst y=>
  simp only [Zx] at hx
  rcases he.gd y with hd | ⟨g,hρ⟩
  ·rw [hd,ZcJ] at hx;simp at hx
  ·obtain ⟨h1,h2⟩:=ZfB hT (w:=w) (E:=E) (m:=m) (V:=vers h) hx
   exact ⟨_,by simp [execOp,ho,hρ,h1],.inr ⟨h2,rfl⟩⟩
 case extract y n=>
  simp only [Zx] at hx
  rcases he.gd y with hd | ⟨g,hρ⟩
  ·rw [hd,ZdE] at hx;simp at hx
  ·obtain ⟨h1,h2⟩:=ZgH (P:=P) (w:=w) (E:=E) g hx
   exact ⟨_,by simp [execOp,ho,hρ,h1],.inr ⟨h2,rfl⟩⟩
 case build t parts=>
  simp only [Zx] at hx
  have hall:∀ p:Nat×Operand,Zs (e p.2)=true→Gd m (vers h) (e p.2)∧ρ p.2=den E (e p.2):=fun p hp=>he.live (Z1q hp)
  obtain ⟨h1,h2⟩:=ZdA hT (w:=w) (E:=E) (m:=m) (V:=vers h) (vs:=parts.toList.map fun p=>(p.1,ρ p.2)) (fun p hp hok=>by
   obtain ⟨q,_,rfl⟩:=List.mem_map.1 hp
   exact (hall q hok).1)
   (fun hcs=>by
    rw [List.map_map]
    apply List.map_congr_left
    intro q hq
    simp only [Function.comp]
    rw [(hall q (hcs (q.1,e q.2) (List.mem_map.2 ⟨q,hq,rfl⟩))).2]) hx
  refine ⟨_,?_,.inr ⟨h2,rfl⟩⟩
  have:(parts.map fun x:Nat×Operand=>match x with | (i,x)=>(i,ρ x))=(parts.toList.map fun p=>(p.1,ρ p.2)).toArray:=by
   apply Array.ext';simp
  simp only [execOp,ho,this,Sem.run_bind,h1,Result.andThen_ok,Sem.run_pure]
 case makeFunc fn first caps=>
  cases fn <;> try (simp [Zx] at hx;done)
  rename_i f
  simp only [Zx] at hx
  cases hf:first.toList with
  | cons o1 ol=>
    cases ol with
    | cons _ _=>simp [hf] at hx
    | nil=>
      cases hc:caps.toList with
      | cons _ _=>simp [hf,hc] at hx
      | nil=>
        simp only [hf,hc] at hx
        cases hb:live (e o1) with
        | false=>simp [hb] at hx
        | true=>
          simp only [hb,cond_true,Zds] at hx;subst hx
          have hfe:first = #[o1]:=by apply Array.ext';simpa using hf
          have hce:caps = #[]:=by apply Array.ext';simpa using hc
          obtain ⟨g,hρ⟩:=he.live hb
          refine ⟨.func (.func f) #[ρ o1] #[],by simp [execOp,ho,Instr.makeFunc,hfe,hce],.inr ⟨⟨by simp only [Ok];exact g,rfl⟩,?_⟩⟩
          rw [hρ]
          simp only [den,wrapV,cells,List.headD_cons]
  | nil=>
    simp only [hf] at hx
    cases hb:(caps.toList.map e).all live with
    | false=>simp [hb] at hx
    | true=>
      simp only [hb,cond_true,Zds] at hx;subst hx
      have hfe:first = #[]:=by apply Array.ext';simpa using hf
      have hl:∀ o ∈ caps.toList,live (e o)=true:=fun o ho=>List.all_eq_true.1 hb (e o) (List.mem_map.2 ⟨o,ho,rfl⟩)
      refine ⟨.func (.func f) #[] (caps.map ρ),by simp [execOp,ho,Instr.makeFunc,hfe],.inr ⟨⟨?_,rfl⟩,?_⟩⟩
      ·simp only [Ok]
       have:∀ l:List Operand,(∀ o ∈ l,live (e o)=true)→OkA m (vers h) (l.map e):=by
        intro l
        induction l with
        | nil=>intro _;simp [OkA]
        | cons o l ih=>intro hh;simp only [List.map_cons,OkA];exact ⟨⟨hh o (List.mem_cons_self ..),(he.live (hh o (List.mem_cons_self ..))).1.1⟩,ih fun o ho=>hh o (List.mem_cons_of_mem _ ho)⟩
       exact this _ hl
      ·have:∀ l:List Operand,(∀ o ∈ l,live (e o)=true)→denL E (l.map e)=l.map ρ:=by
        intro l
        induction l with
        | nil=>intro _;simp [denL]
        | cons o l ih=>intro hh;simp only [List.map_cons,denL,ih fun o ho=>hh o (List.mem_cons_of_mem _ ho)];rw [(he.live (hh o (List.mem_cons_self ..))).2];rfl
       simp only [den,wrapV,cells,List.headD_cons,this _ hl]
       congr 1
       apply Array.ext';simp
 case makeInterface t y=>
  simp only [Zx] at hx
  cases ht:T t with
  | none=>simp [ht] at hx
  | some ti=>
    obtain ⟨d,hd,hk⟩:=(hT.ti t ti ht).desc
    simp only [ht] at hx
    have key:(∀ ms,d≠.interface ms)∧live (e y)=true∧x=.iface t (e y):=by
     cases hkk:ti.k <;> rw [hkk] at hx hk <;> simp at hx <;> (cases hl:live (e y) with
      | false=>simp [hl] at hx
      | true=>(simp [hl] at hx;exact ⟨fun ms em=>by subst em;simp [kokB] at hk,rfl,hx.symm⟩))
    obtain ⟨h1,h2,rfl⟩:=key
    obtain ⟨g,hρ⟩:=he.live h2
    refine ⟨.iface t (den E (e y)),?_,.inr ⟨⟨by simp only [Ok];exact g,rfl⟩,by simp only [den,wrapV,cells,List.headD_cons]⟩⟩
    simp only [execOp,ho,hρ,Instr.makeInterface,Sem.run_bind,Z6 hd,Result.andThen_ok]
    cases d <;> first | (exact absurd rfl (h1 _)) | simp
 case typeAssert y xt t ok=>
  simp only [Zx] at hx
  rcases he.gd y with hd | ⟨g,hρ⟩
  ·rw [hd,Zap] at hx;simp at hx
  ·obtain ⟨h1,h2⟩:=ZcH hT (w:=w) (E:=E) (xt:=xt) g hx
   exact ⟨_,by simp [execOp,ho,hρ,h1],.inr ⟨h2,rfl⟩⟩
 case slice t y lo hi mx=>
  have mapO:∀ q:Option Operand,Z2S e q=true→q.map ρ=(q.map e).map (den E):=fun q hq=>by
   cases q with
   | none=>rfl
   | some o=>simp [(he.live hq).2]
  cases mx with
  | some mx=>
    simp only [Zx] at hx
    cases hb:(Z2S e lo&&Z2S e hi&&live (e mx)) with
    | false=>simp only [hb] at hx;simp at hx
    | true=>
      simp only [hb,cond_true] at hx
      simp only [Bool.and_eq_true] at hb
      rcases he.gd y with hd | ⟨g,hρ⟩
      ·rw [hd,Zaq] at hx;simp at hx
      ·obtain ⟨h1,h2⟩:=ZcI hT (w:=w) (E:=E) g hx
       refine ⟨_,?_,.inr ⟨h2,rfl⟩⟩
       simp only [execOp,ho,hρ,mapO lo hb.1.1,mapO hi hb.1.2,Option.map_some,(he.live hb.2).2,Sem.run_bind,h1,Result.andThen_ok,Sem.run_pure]
  | none=>
    simp only [Zx] at hx
    cases hb:(Z2S e lo&&Z2S e hi) with
    | false=>simp only [hb] at hx;simp at hx
    | true=>
      simp only [hb,cond_true] at hx
      simp only [Bool.and_eq_true] at hb
      rcases he.gd y with hd | ⟨g,hρ⟩
      ·rw [hd] at hx;simp only [Z54,ZbH] at hx;simp at hx
      ·have key:(Instr.sliceAt t (den E (e y)) ((lo.map e).map (den E)) ((hi.map e).map (den E)) none).run P w=.ok (den E x) w∧Gd m (vers h) x:=by
        unfold Z54 at hx
        split at hx
        ·rename_i hy
         rw [hy] at g ⊢
         exact ZdC hT hr g hx
        ·exact ZdB hT (w:=w) (E:=E) hr.nn g hx
       obtain ⟨h1,h2⟩:=key
       refine ⟨_,?_,.inr ⟨h2,rfl⟩⟩
       simp only [execOp,ho,hρ,mapO lo hb.1,mapO hi hb.2,Option.map_none,Sem.run_bind,h1,Result.andThen_ok,Sem.run_pure]
 case call c=>
  obtain ⟨cal,args,ats⟩:=c
  cases cal <;> try (simp [Zx] at hx;done)
  rename_i b
  have hdl:∀ l:List Operand,(∀ o ∈ l,live (e o)=true)→denL E (l.map e)=l.map ρ:=by
   intro l
   induction l with
   | nil=>intro _;simp [denL]
   | cons o l ih=>intro hh;simp only [List.map_cons,denL,ih fun o ho=>hh o (List.mem_cons_of_mem _ ho)];rw [(he.live (hh o (List.mem_cons_self ..))).2];rfl
  have hargs:args.map ρ=(args.toList.map ρ).toArray:=by apply Array.ext';simp
  cases b <;> try (simp [Zx] at hx;done)
  case len=>
   simp only [Zx] at hx
   split at hx
   ·rename_i y t ha hat
    rcases he.gd y with hd | ⟨g,hρ⟩
    ·rw [hd] at hx;unfold lenR at hx
     cases ht:T t <;> rw [ht] at hx <;> simp at hx
    ·obtain ⟨h1,h2⟩:=ZgI hT (w:=w) (E:=E) (ty:=o.type) g hx
     have hat':ats = #[t]:=by apply Array.ext';simpa using hat
     refine ⟨_,?_,.inr ⟨h2,rfl⟩⟩
     simp only [execOp,ho,resolve,hargs,ha,List.map_cons,List.map_nil,hρ,Sem.run_bind,Sem.run_pure,Result.andThen_ok,invoke,builtin,hat',h1]
   ·simp at hx
  case min=>
   simp only [Zx] at hx
   cases hb:(args.toList.map e).all live with
   | false=>simp [hb] at hx
   | true=>
     simp only [hb,cond_true] at hx
     have hl:∀ o ∈ args.toList,live (e o)=true:=fun o ho=>List.all_eq_true.1 hb (e o) (List.mem_map.2 ⟨o,ho,rfl⟩)
     obtain ⟨h1,h2⟩:=ZbX (P:=P) (w:=w) (E:=E) (m:=m) (V:=vers h) hx ats o.type
     refine ⟨_,?_,.inr ⟨h2,rfl⟩⟩
     simp only [Bool.false_eq_true,if_false,hdl _ hl] at h1
     simp only [execOp,ho,resolve,hargs,Sem.run_bind,Sem.run_pure,Result.andThen_ok,invoke,builtin,h1]
  case max=>
   simp only [Zx] at hx
   cases hb:(args.toList.map e).all live with
   | false=>simp [hb] at hx
   | true=>
     simp only [hb,cond_true] at hx
     have hl:∀ o ∈ args.toList,live (e o)=true:=fun o ho=>List.all_eq_true.1 hb (e o) (List.mem_map.2 ⟨o,ho,rfl⟩)
     obtain ⟨h1,h2⟩:=ZbX (P:=P) (w:=w) (E:=E) (m:=m) (V:=vers h) hx ats o.type
     refine ⟨_,?_,.inr ⟨h2,rfl⟩⟩
     simp only [if_true,hdl _ hl] at h1
     simp only [execOp,ho,resolve,hargs,Sem.run_bind,Sem.run_pure,Result.andThen_ok,invoke,builtin,h1]
end
end
theorem GV.fun {t:List SV} {q:List (Nat×Bool)} {g g':Bool} (h:GV t q g) (h':GV t q g'):g=g':=by
 induction h generalizing g' with
 | nil=>cases h';rfl
 | one hd=>cases h' with
   | one hd'=>rw [hd] at hd';cases hd';rfl
   | cons hd' _=>rw [hd] at hd';cases hd'
 | cons hd _ ih=>cases h' with
   | one hd'=>rw [hd] at hd';cases hd'
   | cons hd' h2=>rw [hd] at hd';cases hd';rw [ih h2]
theorem Zar:∀ {p q:List (Nat×Bool)},eqP p q=true→p=q
 | [],[],_=>rfl
 | [],_::_,h=>by simp [eqP] at h
 | _::_,[],h=>by simp [eqP] at h
 | (j,b)::r,(k,c)::s,h=>by
   simp [eqP] at h
   obtain ⟨⟨h1,h2⟩,h3⟩:=h
   rw [Zar h3,h1]
   cases b <;> cases c <;> simp at h2 ⊢
theorem ZgJ {t:List SV} {x:Nat×Bool} {p:List (Nat×Bool)} {g:Bool} (h:GV t (x::p) g) (hg:g=true):GV t p true:=by
 cases h with
 | one _=>exact .nil
 | cons _ h2=>
   rename_i g0 _
   have:g0=true:=by revert hg;cases g0 <;> simp
   rw [this] at h2;exact h2
theorem Z8C {t:List SV}:∀ {p q:List (Nat×Bool)},sufx q p=true→GV t p true→GV t q true
 | [],q,h,hg=>by simp only [sufx] at h;rw [Zar h];exact hg
 | x::p,q,h,hg=>by
   simp only [sufx,Bool.or_eq_true] at h
   rcases h with h | h
   ·rw [Zar h];exact hg
   ·exact Z8C h (ZgJ hg rfl)
theorem Z7N {t:List SV} {q:List (Nat×Bool)} {g:Bool} (h:GV t q g):gB t q=g:=by
 induction h with
 | nil=>rfl
 | one hd=>simp only [gB,hd]
 | cons hd _ ih=>simp only [gB,hd,ih]
theorem Z61 {E m V t v x} (h:SlotOk E m V t v x) (hl:live x=true):Gd m V x∧v=den E x:=by
 cases x <;> simp [live] at hl <;> exact ⟨⟨h.1,rfl⟩,h.2⟩
theorem Rep.slot {E C m S a w} (h:Rep E C m S a w) (n:Nat):S.t.getD n .dead=.dead∨∃ x v,S.t[n]?=some x∧S.t.getD n .dead=x∧a.tmps[n]?=some v∧a.eval (.tmp n)=v∧SlotOk E m (vers S.h) S.t v x:=by
 cases hs:S.t[n]? with
 | none=>left;simp [List.getD,hs]
 | some x=>
   right
   have hlt:n < S.t.length:=(List.getElem?_eq_some_iff.1 hs).1
   have hv:a.tmps[n]?=some (a.tmps[n]'(by rw [h.sz];exact hlt)):=Array.getElem?_eq_getElem _
   exact ⟨x,_,rfl,by simp [List.getD,hs],hv,by simp [Act.eval,Array.getD,h.sz,hlt],h.sl n x _ hs hv⟩
theorem ofV_ok {E m V} (v:Value):Gd m V (ofV v)∧den E (ofV v)=v:=by
 unfold ofV
 split
 ·exact ⟨Gd_i _ _,by simp [den_v]⟩
 ·exact ⟨Gd_b _,by simp [den_v]⟩
 ·exact ⟨Gd_s _,by simp [den_v]⟩
 ·exact ⟨⟨by simp [Ok],rfl⟩,by simp [den_v]⟩
 ·exact ⟨⟨by simp [Ok],rfl⟩,by simp [den_v]⟩
theorem Z7b (v:Value):∀ q x,ofV v≠.grd q x:=by
 intro q x;unfold ofV;split <;> simp
theorem ZbY (g:Nat):∀ q x,gV g≠.grd q x:=by
 intro q x;unfold gV;split <;> simp
theorem Rep.evs {E C m S a w} (h:Rep E C m S a w) {p:List (Nat×Bool)} (hp:GV S.t p true):Evs E m (vers S.h) (evG p S.t) a.eval:=by
 refine ⟨fun o=>?_,fun v=>rfl⟩
 cases o with
 | const v=>
   right
   have:=ofV_ok (E:=E) (m:=m) (V:=vers S.h) v
   have he:evG p S.t (.const v)=ofV v:=by
    simp only [evG,evO]
    cases hv:ofV v <;> first | rfl | exact absurd hv (Z7b v _ _)
   rw [he];exact ⟨this.1,this.2.symm⟩
 | global g=>
   right
   cases ht:tabs g with
   | none=>exact ⟨⟨by simp [evG,evO,gV,ht,Ok],by simp [evG,evO,gV,ht,SX.live]⟩,by simp [evG,evO,gV,ht,den_v,Act.eval]⟩
   | some v=>
     cases v with
     | ifc=>exact ⟨⟨by simp [evG,evO,gV,ht,Ok],by simp [evG,evO,gV,ht,SX.live]⟩,by simp [evG,evO,gV,ht,den_v,Act.eval]⟩
     | anyI k=>exact ⟨⟨by simp [evG,evO,gV,ht,Ok],by simp [evG,evO,gV,ht,SX.live]⟩,by simp [evG,evO,gV,ht,den_v,Act.eval]⟩
     | ints k zs=>
       have he:evG p S.t (.global g)=.ipt Unit () zs.length (fun _=>[.ints k zs.length zs]) [()] ⟨g,0,none⟩ 0 0 []:=by simp [evG,evO,gV,ht]
       rw [he]
       obtain ⟨t,fr,hm⟩:=h.rel.mf.2 g _ ht
       refine ⟨⟨?_,rfl⟩,by simp [den,wrapV,cells,ofs,Act.eval]⟩
       simp only [Ok]
       refine ⟨by simp,fun _=>⟨_,_,t,fr,rfl,rfl,hm,fun j hj u c hu=>?_⟩,fun _=>by simp [wdL,wd],fun j hj=>by simp [OkL,Ok,isUnit]⟩
       have:j=0:=by simpa using hj
       subst this
       simpa [cellsL,cells] using hu
 | func f=>right;exact ⟨⟨by simp [evG,evO,Ok,OkA],rfl⟩,by simp [evG,evO,den,wrapV,cells,denL,Act.eval]⟩
 | tmp n=>
   simp only [evG,evO]
   rcases h.slot n with hd | ⟨x,v,h1,h2,h3,h4,h5⟩
   ·left;rw [hd]
   ·rw [h2]
    cases x <;> try (right;exact ⟨(Z61 h5 rfl).1,by rw [h4];exact (Z61 h5 rfl).2⟩)
    case dead=>left;rfl
    case grd q y=>
     simp only
     cases hs:sufx q p with
     | false=>left;rfl
     | true=>
       right
       obtain ⟨g,hg,ht,_⟩:=h5
       have hgt:g=true:=hg.fun (Z8C hs hp)
       obtain ⟨o1,o2,o3⟩:=ht hgt
       exact ⟨⟨o1,o2⟩,by rw [h4];exact o3⟩
def setF (t:List SV) (d:Nat) (x:SV):List SV:=(t.map (Z2t d)).set d x
theorem Z9a (d:Nat) (x:SV) (K:SV→Prop):Z7E d x K=K (Z2t d x):=by
 cases x <;> simp only [Z7E,Z2t]
 rename_i q y
 cases inG d q <;> rfl
theorem ZbZ (d:Nat):∀ (l:List SV) (K:List SV→Prop),setK.setR d l K=K (l.map (Z2t d))
 | [],K=>rfl
 | x::l,K=>by simp only [setK.setR,Z9a,ZbZ d l,List.map_cons]
theorem Zc0 (d:Nat):∀ (l:List SV) (n:Nat) (v:SV) (K:List SV→Prop),setK d l n v K=K ((l.map (Z2t d)).set n v)
 | [],n,v,K=>by cases n <;> rfl
 | x::l,0,v,K=>by simp only [setK,ZbZ,List.map_cons,List.set_cons_zero]
 | x::l,n+1,v,K=>by simp only [setK,Z9a,Zc0 d l n v,List.map_cons,List.set_cons_succ]
theorem ZdF (v:SV) (K:SV→Prop):Zdr v K=K v:=by cases v <;> rfl
theorem Z1e (v:SV) (K:SV→Prop):Z2U v K=K v:=by
 cases v with
 | grd p x=>exact ZdF x (fun y=>K (.grd p y))
 | _=>rfl
def putF (t:List SV) (d:Option Nat) (x:SV):List SV:=match d with | some d=>setF t d x | none=>t
theorem ZV (t:List SV) (h:List SB) (d:Option Nat) (v:SV) (K:St→Prop):putK t h d v K=K ⟨putF t d v,h⟩:=by
 cases d <;> simp only [putK,putF,Z1e,Zc0,setF]
theorem Z30:∀ (l:List SB) (n:Nat) (v:SB) (K:List SB→Prop),setH l n v K=K (l.set n v)
 | [],n,v,K=>by cases n <;> rfl
 | x::l,0,v,K=>rfl
 | x::l,n+1,v,K=>by simp only [setH,Z30 l n v,List.set_cons_succ]
theorem Z47:∀ (l r:List SB) (K:List SB→Prop),appH l r K=K (l++r)
 | [],r,K=>rfl
 | x::l,r,K=>by simp only [appH,Z47 l r,List.cons_append]
theorem ZbI (t:List SV) (d:Nat) (x:SV):(setF t d x).length=t.length:=by simp [setF]
theorem Z4g {t t':List SV} {q:List (Nat×Bool)} {g:Bool} (h:GV t q g) (hq:∀ d y,(inG d q=true)→t.getD d .dead=y→(∃ v,y=.b v)∨(∃ q' v,y=.grd q' (.b v))→t'.getD d .dead=y):GV t' q g:=by
 induction h with
 | nil=>exact .nil
 | one hd=>exact .one (hq _ _ (by simp [inG]) hd (.inl ⟨_,rfl⟩))
 | cons hd _ ih=>
   refine .cons (hq _ _ (by simp [inG]) hd (.inr ⟨_,_,rfl⟩)) (ih fun d y hd'=>hq d y (by simp [inG,hd']))
theorem ZcK {t:List SV} {q:List (Nat×Bool)} {g:Bool} (h:GV t q g):∀ d q' v,inG d q=true→t.getD d .dead=.grd q' (.b v)→∀ d',inG d' q'=true→inG d' q=true:=by
 induction h with
 | nil=>intro d q' v hd;simp [inG] at hd
 | one hd=>
   intro d q' v hi hg d' hd'
   simp [inG] at hi
   subst hi
   rw [hd] at hg;cases hg
 | cons hd h2 ih=>
   intro d q' v hi hg d' hd'
   simp only [inG,Bool.or_eq_true] at hi ⊢
   rcases hi with hi | hi
   ·have:=Nat.eq_of_beq_eq_true hi
    subst this
    rw [hd] at hg;cases hg
    exact .inr hd'
   ·exact .inr (ih d q' v hi hg d' hd')
theorem ZdG (t:List SV) (d n:Nat) (x:SV) (hn:n≠d):(setF t d x).getD n .dead=Z2t d (t.getD n .dead):=by
 simp only [setF,List.getD_eq_getElem?_getD,List.getElem?_set_ne (Ne.symm hn),List.getElem?_map]
 cases t[n]? <;> rfl
theorem Zc1 {t:List SV} {q:List (Nat×Bool)} {g:Bool} (h:GV t q g) (d:Nat) (x:SV) (hd:inG d q=false):GV (setF t d x) q g:=by
 refine Z4g h fun n y hn hy hf=>?_
 have hne:n≠d:=fun e=>by subst e;rw [hd] at hn;cases hn
 rw [ZdG t d n x hne,hy]
 rcases hf with ⟨v,rfl⟩ | ⟨q',v,rfl⟩
 ·rfl
 ·simp only [Z2t]
  cases hi:inG d q' with
  | false=>rfl
  | true=>have:=ZcK h n q' v hn hy d hi;rw [hd] at this;cases this
theorem SlotOk.kill {E m V t v x} (h:SlotOk E m V t v x) (d:Nat) (y:SV):SlotOk E m V (setF t d y) v (Z2t d x):=by
 cases x <;> try exact h
 rename_i q z
 simp only [Z2t]
 cases hi:inG d q with
 | true=>exact trivial
 | false=>
   obtain ⟨g,hg,h1,h2⟩:=h
   exact ⟨g,Zc1 hg d y hi,h1,h2⟩
theorem SlotOk.mono {E E' m m' V V' t v x} (hx:Ext E m V E' m' V') (h:SlotOk E m V t v x):SlotOk E' m' V' t v x:=by
 have key:∀ y,Ok m V y→Ok m' V' y∧den E' y=den E y:=fun y hy=>⟨Ok.mono hx.mm y V V' hx.vv hy,Z2u hx.ee y hy⟩
 cases x <;> try (exact ⟨(key _ h.1).1,by rw [(key _ h.1).2];exact h.2⟩)
 ·rename_i q y
  obtain ⟨g,hg,h1,h2⟩:=h
  exact ⟨g,hg,fun ht=>⟨(key _ (h1 ht).1).1,(h1 ht).2.1,by rw [(key _ (h1 ht).1).2];exact (h1 ht).2.2⟩,h2⟩
 ·exact trivial
theorem Ext.refl (E:Env) (m:Mem) (V:List Nat):Ext E m V E m V:=⟨fun _ _ h=>h,fun _ _ h=>h,fun _ _ _=>rfl⟩
theorem Ext.trans {E m V E' m' V' E'' m'' V''} (h:Ext E m V E' m' V') (h':Ext E' m' V' E'' m'' V''):Ext E m V E'' m'' V'':=
 ⟨fun b o hb=>h'.mm b o (h.mm b o hb),fun k v hv=>h'.vv k v (h.vv k v hv),fun k v hv=>(h'.ee k v (h.vv k v hv)).trans (h.ee k v hv)⟩
theorem Rep.put {E C m S a w} (h:Rep E C m S a w) (d:Option Nat) {x:SV} {v:Value} (hx:∀ d',d=some d'→SlotOk E m (vers S.h) (setF S.t d' x) v x):Rep E C m ⟨putF S.t d x,S.h⟩ (a.put d v) w:=by
 cases d with
 | none=>exact ⟨h.sz,h.sl,h.df,h.rel⟩
 | some d=>
   have hx:=hx d rfl
   refine ⟨?_,?_,h.df,h.rel⟩
   ·simp [putF,ZbI,Act.put,h.sz]
   ·intro n y u hy hu
    simp only [putF,setF] at hy
    simp only [Act.put] at hu
    by_cases hnd:n=d
    ·subst hnd
     have hlt:n < S.t.length:=by have:=(List.getElem?_eq_some_iff.1 hy).1;simpa using this
     rw [List.getElem?_set_self (by simpa using hlt)] at hy
     cases hy
     rw [Array.getElem?_setIfInBounds_self_of_lt (by rw [h.sz];exact hlt)] at hu
     cases hu
     exact hx
    ·rw [List.getElem?_set_ne (Ne.symm hnd),List.getElem?_map] at hy
     rw [Array.getElem?_setIfInBounds_ne (Ne.symm hnd)] at hu
     cases hs:S.t[n]? with
     | none=>rw [hs] at hy;simp at hy
     | some z=>
       rw [hs] at hy;simp at hy;subst hy
       exact (h.sl n z u hs hu).kill d x
theorem Z1p {E m V t x} (h:Gd m V x):SlotOk E m V t (den E x) x:=by
 obtain ⟨h1,h2⟩:=h
 cases x <;> first | exact ⟨h1,rfl⟩ | (simp [live] at h2)
theorem Zw {w:World} {b:Nat} {o:Obj} (h:w.heap[b]?=some o):b < w.heap.size:=(Array.getElem?_eq_some_iff.1 h).1
theorem Holds.block {E m V w k B} {H:List SB} (hk:H[k]?=some B) (h:Holds E m V w k B):∀ b,Zk E H k b→∃ o,w.heap[b]?=some o:=by
 rintro b ⟨B',hB',hb⟩
 rw [hk] at hB';cases hB'
 cases B with
 | mem t segs ver gr=>
   obtain ⟨h0,c,he⟩:=hb
   cases gr with
   | zero=>obtain ⟨_,b',c',he',hh,_⟩:=h;rw [he] at he';cases he';exact ⟨_,hh⟩
   | succ gr=>obtain ⟨_,_,h3⟩:=h;obtain ⟨b',c',sp,he',hh,_⟩:=h3 h0;rw [he] at he';cases he';exact ⟨_,hh⟩
 | mp kv ver=>
   obtain ⟨h0,b',c',es,clock,he',hh,_⟩:=h
   obtain ⟨c,he⟩:=hb
   subst h0
   rw [he] at he';cases he';exact ⟨_,hh⟩
 | gone v=>exact hb.elim
 | fresh=>exact hb.elim
theorem Z1O (H H':List SB):vers (H++H')=vers H++vers H':=by simp [vers]
theorem Z3c {V V':List Nat} {k v:Nat} (h:Vle V k v):Vle (V++V') k v:=by
 obtain ⟨n,hn,hv⟩:=h
 exact ⟨n,by rw [List.getElem?_append_left (List.getElem?_eq_some_iff.1 hn).1];exact hn,hv⟩
theorem Z5a {V:List Nat} {k v:Nat} (h:Vle V k v):k < V.length:=by
 obtain ⟨n,hn,_⟩:=h;exact (List.getElem?_eq_some_iff.1 hn).1
theorem MapHas.stable {E E':Env} {kv:List (SV×SV)} {es:List MapEntry} (h:MapHas E kv es) (hs:∀ p ∈ kv,den E' p.1=den E p.1∧den E' p.2=den E p.2):MapHas E' kv es:=by
 unfold MapHas at *
 rw [h]
 apply List.map_congr_left
 intro p hp
 rw [(hs p hp).1,(hs p hp).2]
theorem Holds.mono {E E' m m' V V' w w' k B} (h:Holds E m V w k B) (hx:Ext E m V E' m' V') (hE:∀ v,B.lim=v+1→E' k v=E k v) (hw:∀ b,Z5t E k b B→w'.heap[b]?=w.heap[b]?):Holds E' m' V' w' k B:=by
 cases B with
 | mem t segs ver gr=>
   have he:=hE ver rfl
   cases gr with
   | zero=>
     obtain ⟨h0,b,c,h1,h2,h3⟩:=h
     exact ⟨h0,b,c,by rw [he,h1],by rw [hw b ⟨by omega,c,h1⟩,cellsL_stable hx.ee segs h3];exact h2,OkL.mono hx.mm segs V V' hx.vv h3⟩
   | succ gr=>
     obtain ⟨h3,h4,h5⟩:=h
     refine ⟨OkL.mono hx.mm segs V V' hx.vv h3,fun h0=>by rw [cellsL_stable hx.ee segs h3];subst h0;rw [he];exact h4 rfl,fun h0=>?_⟩
     obtain ⟨b,c,sp,h1,h2,h6⟩:=h5 h0
     exact ⟨b,c,sp,by rw [he,h1],by rw [hw b ⟨h0,c,h1⟩,cellsL_stable hx.ee segs h3];exact h2,by rw [cellsL_stable hx.ee segs h3];exact h6⟩
 | mp kv ver=>
   obtain ⟨h0,b,c,es,clock,h1,h2,h3,h4⟩:=h
   subst h0
   refine ⟨rfl,b,c,es,clock,by rw [hE 1 rfl,h1],by rw [hw b ⟨c,h1⟩];exact h2,h3.stable fun p hp=>⟨Z2u hx.ee _ (h4 p hp).1.1,Z2u hx.ee _ (h4 p hp).2.1⟩,fun p hp=>?_⟩
   have:=h4 p hp
   exact ⟨⟨Ok.mono hx.mm _ V V' hx.vv this.1.1,this.1.2⟩,Ok.mono hx.mm _ V V' hx.vv this.2.1,this.2.2⟩
 | gone v=>trivial
 | fresh=>trivial
def Env.upd (E:Env) (k v:Nat) (x:Nat×Nat):Env:=fun k' v'=>if k'=k∧v'=v then some x else E k' v'
theorem Zn (E:Env) (k v:Nat) (x:Nat×Nat):(E.upd k v x) k v=some x:=by simp [Env.upd]
theorem Zo (E:Env) {k v k' v':Nat} (x:Nat×Nat) (h:¬ (k'=k∧v'=v)):(E.upd k v x) k' v'=E k' v':=by simp [Env.upd,h]
theorem Rel.alloc {E C m H w} (h:Rel E C m H w) (B:SB) (o:Obj) (hB:B.lim=2)
 (hh:∀ E' V',(∀ k v,Vle (vers H) k v→E' k v=E k v)→(∀ k v,Vle (vers H) k v→Vle V' k v)→E' H.length 1=some (w.heap.size,0)→Holds E' m V' (w.alloc o) H.length B) :
 ∃ E',E' H.length 1=some (w.heap.size,0)∧Ext E m (vers H) E' m (vers (H++[B]))∧Rel E' C m (H++[B]) (w.alloc o):=by
 refine ⟨E.upd H.length 1 (w.heap.size,0),Zn ..,?_,?_⟩
 ·refine ⟨fun _ _ h=>h,fun k v hv=>by rw [Z1O];exact Z3c hv,fun k v hv=>Zo _ _ fun e=>?_⟩
  have:=Z5a hv
  simp [vers] at this;omega
 ·have hx:Ext E m (vers H) (E.upd H.length 1 (w.heap.size,0)) m (vers (H++[B])):=by
   refine ⟨fun _ _ h=>h,fun k v hv=>by rw [Z1O];exact Z3c hv,fun k v hv=>Zo _ _ fun e=>?_⟩
   have:=Z5a hv
   simp [vers] at this;omega
  have hold:∀ i,i < w.heap.size→(w.alloc o).heap[i]?=w.heap[i]?:=fun i hi=>by
   show (w.heap.push o)[i]?=_
   rw [Array.getElem?_push,if_neg (by omega)]
  have hfresh:∀ b o',w.heap[b]?=some o'→b < w.heap.size:=fun b o' hb=>Zw hb
  have hbl:∀ k b,Zk (E.upd H.length 1 (w.heap.size,0)) (H++[B]) k b→(k < H.length∧Zk E H k b)∨(k=H.length∧b=w.heap.size):=by
   rintro k b ⟨B',hB',hb⟩
   by_cases hk:k < H.length
   ·left
    rw [List.getElem?_append_left hk] at hB'
    refine ⟨hk,B',hB',?_⟩
    cases B' with
    | mem t segs ver gr=>
      obtain ⟨h0,c,he⟩:=hb
      rw [Zo _ _ (by omega)] at he
      exact ⟨h0,c,he⟩
    | mp kv ver=>
      obtain ⟨c,he⟩:=hb
      rw [Zo _ _ (by omega)] at he
      exact ⟨c,he⟩
    | gone v=>exact hb
    | fresh=>exact hb
   ·right
    have hk':k=H.length:=by
     have:=(List.getElem?_eq_some_iff.1 hB').1
     simp at this;omega
    subst hk'
    simp at hB'
    subst hB'
    refine ⟨rfl,?_⟩
    cases B with
    | mem t segs ver gr=>
      simp [SB.lim] at hB
      subst hB
      obtain ⟨_,c,he⟩:=hb
      rw [Zn] at he;cases he;rfl
    | mp kv ver=>
      simp [SB.lim] at hB
      subst hB
      obtain ⟨c,he⟩:=hb
      rw [Zn] at he;cases he;rfl
    | gone v=>exact hb.elim
    | fresh=>exact hb.elim
  have hsm:m w.heap.size=none:=by
   cases hm:m w.heap.size with
   | none=>rfl
   | some o'=>have:=hfresh _ _ (h.im _ _ hm);omega
  have hsf:C.F w.heap.size=none:=by
   cases hm:C.F w.heap.size with
   | none=>rfl
   | some o'=>have:=hfresh _ _ (h.fr _ _ hm);omega
  have hlt:∀ k b,Zk E H k b→b < w.heap.size:=fun k b hb=>by
   obtain ⟨B',hB',hb'⟩:=hb
   obtain ⟨o',ho'⟩:=(h.bl k B' hB').block hB' b ⟨B',hB',hb'⟩
   exact hfresh _ _ ho'
  refine ⟨h.os,h.tape,h.output,fun b o' hb=>?_,fun b o' hb=>?_,h.mf,fun k B' hB'=>?_,fun k v hv hv0=>?_,fun k b hb=>?_,fun j k b hj hk=>?_⟩
  ·have:=h.im b o' hb;rw [hold b (hfresh _ _ this)];exact this
  ·have:=h.fr b o' hb;rw [hold b (hfresh _ _ this)];exact this
  ·by_cases hk:k < H.length
   ·rw [List.getElem?_append_left hk] at hB'
    have hh':=h.bl k B' hB'
    refine hh'.mono hx (fun v hv=>Zo _ _ (by omega)) (fun b hb=>hold b (hlt k b ⟨B',hB',hb⟩))
   ·have hk':k=H.length:=by
     have:=(List.getElem?_eq_some_iff.1 hB').1
     simp at this;omega
    subst hk'
    simp at hB'
    subst hB'
    exact hh _ _ hx.ee hx.vv (Zn ..)
  ·by_cases hk:k < H.length
   ·have hv':Vle (vers H) k v:=by
     obtain ⟨n,hn,hl⟩:=hv
     rw [Z1O,List.getElem?_append_left (by simpa [vers] using hk)] at hn
     exact ⟨n,hn,hl⟩
    rw [Zo _ _ (by omega)]
    exact h.nn k v hv' hv0
   ·obtain ⟨n,hn,hl⟩:=hv
    have hk':k=H.length:=by
     have:=(List.getElem?_eq_some_iff.1 hn).1
     simp [vers] at this;omega
    subst hk'
    rw [Z1O,List.getElem?_append_right (by simp [vers])] at hn
    simp [vers,hB] at hn
    have:v=1:=by omega
    subst this
    exact ⟨_,_,Zn ..⟩
  ·rcases hbl k b hb with ⟨_,hb'⟩ | ⟨_,rfl⟩
   ·exact h.sp k b hb'
   ·exact ⟨hsm,hsf⟩
  ·rcases hbl j b hj with ⟨_,hj'⟩ | ⟨rfl,hbs⟩ <;> rcases hbl k b hk with ⟨_,hk'⟩ | ⟨rfl,hbs'⟩
   ·exact h.inj j k b hj' hk'
   ·have:=hlt j b hj';omega
   ·have:=hlt k b hk';omega
   ·rfl
mutual
theorem oneCell_cells {m:Mem} (E:Env):∀ (x:SV) (V:List Nat),isUnit x=true→Ok m V x→∀ c ∈ cells E x,c.oneCell'=true
 | .i _ _,_,_,_ | .b _,_,_,_ | .s _,_,_,_ | .nils,_,_,_ | .imm _ _ _ _ _ _ _,_,_,_ | .ipt _ _ _ _ _ _ _ _ _,_,_,_ | .ptr _ _ _ _,_,_,_ | .fn _ _,_,_,_ | .iface _ _,_,_,_ | .bm _ _,_,_,_ | .map _,_,_,_=>by simp [cells,Value.oneCell']
 | .sl k ver _ _ _ _,_,_,_=>by simp only [cells];cases E k ver <;> simp [Value.oneCell']
 | .raw v,_,hu,_=>by cases v <;> simp [isUnit,Z1Z] at hu <;> simp [cells,Value.oneCell']
 | .dead,_,hu,_=>by simp [isUnit] at hu
 | .agg _,_,hu,_=>by simp [isUnit] at hu
 | .tup _,_,hu,_=>by simp [isUnit] at hu
 | .grd _ _,_,hu,_=>by simp [isUnit] at hu
 | .ints _ n xs,_,_,h=>by simp [cells,Value.oneCell']
 | .arr N _ d n enc xs,V,_,h=>by
   simp only [Ok] at h
   simp only [cells,List.mem_flatMap,List.mem_range]
   rintro c ⟨j,hj,hc⟩
   exact oneCell_cellsL E (enc (xs.getD j d)) V (h.2.2 j hj) c hc
theorem oneCell_cellsL {m:Mem} (E:Env):∀ (l:List SV) (V:List Nat),OkL m V l→∀ c ∈ cellsL E l,c.oneCell'=true
 | [],_,_=>by simp [cellsL]
 | x::r,V,h=>by
   simp only [OkL] at h
   intro c hc
   simp only [cellsL,List.mem_append] at hc
   rcases hc with hc | hc
   ·exact oneCell_cells E x V h.1.1 h.1.2 c hc
   ·exact oneCell_cellsL E r V h.2 c hc
end
def Z13 (w:World) (b:Nat) (o:Obj):World:={ w with heap:=w.heap.setIfInBounds b o }
theorem Z3v {w:World} {b:Nat} (h:b < w.heap.size) (o:Obj):(Z13 w b o).heap[b]?=some o:=by simp [Z13,h]
theorem Z62 {w:World} {b i:Nat} (h:i≠b) (o:Obj):(Z13 w b o).heap[i]?=w.heap[i]?:=by
 simp only [Z13];rw [Array.getElem?_setIfInBounds_ne (Ne.symm h)]
theorem Zas (w:World) (b:Nat) (o o':Obj):Z13 (Z13 w b o) b o'=Z13 w b o':=by simp [Z13]
theorem ZbJ {w:World} {b o:Nat} {A:Array Value} {t:TypeId} {fr:Nat×Nat} (h:w.heap[b]?=some (.cells A t fr)) (v:Value):w.setCell ⟨b,o,none⟩ v=Z13 w b (.cells (A.setIfInBounds o v) t fr):=by
 obtain ⟨hlt,he⟩:=Array.getElem?_eq_some_iff.1 h
 simp only [World.setCell,Z13]
 congr 1
 apply Array.ext_getElem?
 intro i
 rw [Array.getElem?_modify]
 by_cases hi:b=i
 ·subst hi
  rw [if_pos rfl,h,Array.getElem?_setIfInBounds_self_of_lt hlt]
  simp
 ·rw [if_neg hi,Array.getElem?_setIfInBounds_ne hi]
def splV (A:List Value) (o:Nat) (vs:List Value):List Value:=A.take o++vs++A.drop (o+vs.length)
theorem ZdH (A:List Value) (o:Nat) (v:Value) (vs:List Value) (h:o+(v::vs).length≤A.length):splV (A.set o v) (o+1) vs=splV A o (v::vs):=by
 simp only [List.length_cons] at h
 simp only [splV,List.length_cons]
 have e1:(A.set o v).take (o+1)=A.take o++[v]:=by
  rw [List.take_add_one,List.getElem?_set_self (by omega),List.take_set_of_le (Nat.le_refl _)]
  rfl
 have e2:(A.set o v).drop (o+1+vs.length)=A.drop (o+(vs.length+1)):=by
  rw [List.drop_set_of_lt (by omega)];congr 1;omega
 rw [e1,e2];simp
theorem Z3l {P:Program}:∀ (vs:List Value) (w:World) (b o i:Nat) (A:List Value) (t:TypeId),w.heap[b]?=some (.cells A.toArray t (0,0))→(∀ v ∈ vs,v.oneCell'=true)→o+i+vs.length≤A.length →
 (storeCells ⟨b,o,none⟩ vs i).run P w=.ok () (Z13 w b (.cells (splV A (o+i) vs).toArray t (0,0)))
 | [],w,b,o,i,A,t,h,_,hl=>by
   have hlt:=Zw h
   simp only [storeCells,Sem.run_pure,splV,List.length_nil,Nat.add_zero,List.append_nil,List.take_append_drop]
   obtain ⟨_,he⟩:=Array.getElem?_eq_some_iff.1 h
   have:Z13 w b (.cells A.toArray t (0,0))=w:=by
    show { w with heap:=w.heap.setIfInBounds b (.cells A.toArray t (0,0)) }=w
    have hs:w.heap.setIfInBounds b (.cells A.toArray t (0,0))=w.heap:=by
     apply Array.ext_getElem?
     intro i
     by_cases hi:b=i
     ·subst hi;rw [Array.getElem?_setIfInBounds_self_of_lt hlt,h]
     ·rw [Array.getElem?_setIfInBounds_ne hi]
    rw [hs]
   rw [this]
 | v::vs,w,b,o,i,A,t,h,ho,hl=>by
   have hlt:=Zw h
   simp only [List.length_cons] at hl
   have hc:w.cell? ⟨b,o+i,none⟩=some (A[o+i]'(by omega)):=by
    rw [Z1E h];exact List.getElem?_eq_getElem _
   have hf:w.frozen? ⟨b,o+i,none⟩=false:=by simp [World.frozen?,h]
   simp only [storeCells,Sem.run_bind,ZD,run_store P w ⟨b,o+i,none⟩ v .plain (ho v (List.mem_cons_self ..)),hc,hf,Bool.false_eq_true,if_false,Result.andThen_ok]
   rw [ZbJ h,List.setIfInBounds_toArray]
   rw [Z3l vs _ b o (i+1) (A.set (o+i) v) t (Z3v hlt _) (fun u hu=>ho u (List.mem_cons_of_mem _ hu)) (by simp;omega)]
   rw [Zas,← Nat.add_assoc,ZdH A (o+i) v vs (by simp;omega)]
theorem ZJ {H:List SB} {k:Nat} {B B':SB} (hk:H[k]?=some B) (hl:B'.lim=B.lim):vers (H.set k B')=vers H:=by
 apply List.ext_getElem?
 intro i
 simp only [vers,List.getElem?_map]
 by_cases hi:k=i
 ·subst hi
  rw [List.getElem?_set_self (List.getElem?_eq_some_iff.1 hk).1,hk]
  simp [hl]
 ·rw [List.getElem?_set_ne hi]
theorem Rel.set {E C m H w w'} (h:Rel E C m H w) {k b:Nat} {B B':SB} (hk:H[k]?=some B) (hl:B'.lim=B.lim) (hb:Z5t E k b B) (hb':∀ c,Z5t E k c B'→c=b)
 (hos:w'.os=w.os∧w'.tape=w.tape∧w'.output=w.output∧w.drawn≤w'.drawn) (hw:∀ i,i≠b→w'.heap[i]?=w.heap[i]?) (hh:Holds E m (vers H) w' k B'):Rel E C m (H.set k B') w':=by
 have hv:=ZJ hk hl
 have hbk:Zk E H k b:=⟨B,hk,hb⟩
 have hsp:=h.sp k b hbk
 have hbl:∀ j c,Zk E (H.set k B') j c→Zk E H j c:=by
  rintro j c ⟨B2,h2,h3⟩
  by_cases hj:k=j
  ·subst hj
   rw [List.getElem?_set_self (List.getElem?_eq_some_iff.1 hk).1] at h2
   cases h2
   rw [hb' c h3];exact hbk
  ·rw [List.getElem?_set_ne hj] at h2
   exact ⟨B2,h2,h3⟩
 refine ⟨hos.1.trans h.os,hos.2.1.trans h.tape,⟨hos.2.2.1.trans h.output.1,h.output.2.trans hos.2.2.2⟩,fun i o hi=>?_,fun i o hi=>?_,h.mf,fun j B2 hj=>?_,by rw [hv];exact h.nn,fun j c hc=>h.sp j c (hbl j c hc),fun i j c hi hj=>h.inj i j c (hbl i c hi) (hbl j c hj)⟩
 ·rw [hw i (fun e=>by subst e;rw [hsp.1] at hi;cases hi)];exact h.im i o hi
 ·rw [hw i (fun e=>by subst e;rw [hsp.2] at hi;cases hi)];exact h.fr i o hi
 ·rw [hv]
  by_cases hjk:k=j
  ·subst hjk
   rw [List.getElem?_set_self (List.getElem?_eq_some_iff.1 hk).1] at hj
   cases hj;exact hh
  ·rw [List.getElem?_set_ne hjk] at hj
   refine (h.bl j B2 hj).mono (Ext.refl ..) (fun _ _=>rfl) fun c hc=>hw c fun e=>?_
   subst e
   exact hjk (h.inj k j c hbk ⟨B2,hj,hc⟩)
theorem Z7c (A L B new:List Value) (o:Nat) (h:o+new.length≤L.length):splV (A++L++B) (A.length+o) new=A++splV L o new++B:=by
 simp only [splV]
 have e1:(A++L++B).take (A.length+o)=A++L.take o:=by
  rw [List.append_assoc,List.take_length_add_append,List.take_append_of_le_length (by omega)]
 have e2:(A++L++B).drop (A.length+o+new.length)=L.drop (o+new.length)++B:=by
  rw [List.append_assoc,Nat.add_assoc,List.drop_length_add_append,List.drop_append_of_le_length (by omega)]
 rw [e1,e2];simp [List.append_assoc]
theorem Z6X {A new:List Value} {o:Nat} (h:o+new.length≤A.length):(splV A o new).length=A.length:=by
 simp [splV];omega
theorem Z9G {m:Mem} {V:List Nat} {E:Env} {N:Nat} {α:Type} {d:α} {n:Nat} {enc:α→List SV} {xs:List α} (h:Ok m V (.arr N α d n enc xs)) {i o:Nat} (hi:i < N) {y:α} (hy:OkL m V (enc y)) {new:List Value}
 (hb:o+new.length≤n) (hc:cellsL E (enc y)=splV (cellsL E (enc (xs.getD i d))) o new) :
 Ok m V (.arr N α d n enc (xs.set i y))∧i * n+o+new.length≤(cells E (.arr N α d n enc xs)).length∧cells E (.arr N α d n enc (xs.set i y))=splV (cells E (.arr N α d n enc xs)) (i * n+o) new:=by
 have h':=h
 simp only [Ok] at h
 obtain ⟨h1,h2,h3⟩:=h
 have hget:∀ j,j < N→(xs.set i y).getD j d=if j=i then y else xs.getD j d:=fun j hj=>by
  by_cases e:j=i
  ·subst e;simp [List.getD_eq_getElem?_getD,List.getElem?_set_self (show j < xs.length by omega)]
  ·simp [List.getD_eq_getElem?_getD,List.getElem?_set_ne (Ne.symm e),e]
 have hlen:∀ j,j < N→(cellsL E (enc (xs.getD j d))).length=n:=fun j hj=>by rw [length_cellsL E _ V (h3 j hj),h2]
 have hsplit:List.range N=List.range' 0 i++(i::List.range' (i+1) (N - i - 1)):=by
  rw [List.range_eq_range']
  have:N=i+(1+(N - i - 1)):=by omega
  conv=>lhs;rw [this]
  rw [← List.range'_append_1,Nat.zero_add,Nat.add_comm 1,List.range'_succ]
 have hA:∀ (c s:Nat),s+c≤N→((List.range' s c).flatMap fun j=>cellsL E (enc (xs.getD j d))).length=c * n:=by
  intro c
  induction c with
  | zero=>intro s _;simp
  | succ c ih=>
    intro s hs
    simp only [List.range'_succ,List.flatMap_cons,List.length_append,hlen s (by omega),ih (s+1) (by omega)]
    rw [Nat.succ_mul];omega
 have hLi:=hlen i hi
 have c0:cells E (.arr N α d n enc xs)=((List.range' 0 i).flatMap fun j=>cellsL E (enc (xs.getD j d)))++cellsL E (enc (xs.getD i d))++((List.range' (i+1) (N - i - 1)).flatMap fun j=>cellsL E (enc (xs.getD j d))):=by
  simp only [cells,hsplit,List.flatMap_append,List.flatMap_cons,List.append_assoc]
 have c1:cells E (.arr N α d n enc (xs.set i y))=((List.range' 0 i).flatMap fun j=>cellsL E (enc (xs.getD j d)))++cellsL E (enc y)++((List.range' (i+1) (N - i - 1)).flatMap fun j=>cellsL E (enc (xs.getD j d))):=by
  simp only [cells,hsplit,List.flatMap_append,List.flatMap_cons,List.append_assoc]
  have e1:((List.range' 0 i).flatMap fun j=>cellsL E (enc ((xs.set i y).getD j d)))=(List.range' 0 i).flatMap fun j=>cellsL E (enc (xs.getD j d)):=
   Z36 fun j hj=>by
    have:=List.mem_range'_1.1 hj
    rw [hget j (by omega),if_neg (by omega)]
  have e2:((List.range' (i+1) (N - i - 1)).flatMap fun j=>cellsL E (enc ((xs.set i y).getD j d)))=(List.range' (i+1) (N - i - 1)).flatMap fun j=>cellsL E (enc (xs.getD j d)):=
   Z36 fun j hj=>by
    have:=List.mem_range'_1.1 hj
    rw [hget j (by omega),if_neg (by omega)]
  rw [e1,e2,hget i hi,if_pos rfl]
 have hAl:=hA i 0 (by omega)
 refine ⟨?_,?_,?_⟩
 ·simp only [Ok]
  refine ⟨by simp [h1],h2,fun j hj=>?_⟩
  rw [hget j hj]
  split
  ·exact hy
  ·exact h3 j hj
 ·rw [c0];simp only [List.length_append,hAl,hLi];omega
 ·rw [c0,c1,hc]
  have:=Z7c ((List.range' 0 i).flatMap fun j=>cellsL E (enc (xs.getD j d))) (cellsL E (enc (xs.getD i d))) ((List.range' (i+1) (N - i - 1)).flatMap fun j=>cellsL E (enc (xs.getD j d))) new o (by omega)
  rw [hAl] at this
  exact this.symm
theorem Z9b {m:Mem} {V:List Nat} {E:Env} {new:List SV} (hn:OkL m V new):∀ (ix:List Ix) (segs:List SV) (off:Nat) (K:List SV→Prop),updK segs off ix new K→OkL m V segs →
 ∃ segs',K segs'∧OkL m V segs'∧wdL segs'=wdL segs∧off+ofs ix+(cellsL E new).length≤(cellsL E segs).length∧cellsL E segs'=splV (cellsL E segs) (off+ofs ix) (cellsL E new)
 | [],segs,off,K,h,ho=>by
   simp only [updK] at h
   cases hs:Z1i segs off new with
   | none=>simp [hs] at h
   | some s=>
     simp only [hs] at h
     obtain ⟨o1,o2,o3,o4⟩:=Z4d (E:=E) hs ho hn
     refine ⟨s,h,o1,?_,by simpa [ofs] using o3,by simpa [ofs,splV] using o4⟩
     have l1:=length_cellsL E s V o1
     have l2:=length_cellsL E segs V ho
     omega
 | x::r,segs,off,K,h,ho=>by
   simp only [updK] at h
   cases ht:Z17 segs off with
   | none=>simp [ht] at h
   | some pre=>
     cases hd:ZI segs off with
     | none=>simp [ht,hd] at h
     | some q=>
       cases q with
       | nil=>simp [ht,hd] at h
       | cons u post=>
         simp only [ht,hd] at h
         obtain ⟨r1,e1,w1⟩:=Z2v ht
         obtain ⟨p2,e2,w2⟩:=Z3Q hd
         have o1:=OkL_append.1 (e1 ▸ ho)
         have o2:=OkL_append.1 (e2 ▸ ho)
         have o3:=o2.2
         simp only [OkL] at o3
         have key:∃ u',K (pre++u'::post)∧isUnit u'=true∧Ok m V u'∧wd u'=wd u∧x.i * x.sz+x.sub+ofs r+(cellsL E new).length≤(cells E u).length∧cells E u'=splV (cells E u) (x.i * x.sz+x.sub+ofs r) (cellsL E new):=by
          obtain ⟨xc,xi,xsz,xsub⟩:=x
          unfold updU at h
          cases u <;> try (simp at h;done)
          case ints k n xs=>
           simp only at h
           split at h
           ·rename_i k' v
            by_cases hk:k=k'
            ·subst hk
             simp only [BEq.rfl,Bool.true_and] at h
             cases hb:(Nat.beq xsz 1&&Nat.beq xsub 0) with
             | false=>simp [hb] at h
             | true=>
               simp only [hb,cond_true] at h
               simp only [Bool.and_eq_true] at hb
               have e3:=Nat.eq_of_beq_eq_true hb.1
               have e4:=Nat.eq_of_beq_eq_true hb.2
               subst e3;subst e4
               have hlt:xi < n∧K (pre++.ints k n (xs.set xi v)::post):=by
                cases xc with
                | true=>
                  cases h3:Nat.blt xi n with
                  | true=>simp [h3] at h;exact ⟨Nat.le_of_ble_eq_true h3,h⟩
                  | false=>simp [h3] at h
                | false=>simp at h;exact ⟨h.ob,h.k⟩
               have hxl:xs.length=n:=by have:=o3.1.2;simpa only [Ok] using this
               refine ⟨_,hlt.2,rfl,by simp [Ok,hxl],rfl,?_,?_⟩
               ·simp [cells,cellsL,ofs];omega
               ·simp only [cells,cellsL,ofs,List.append_nil,splV,Nat.mul_one,Nat.add_zero,List.length_singleton]
                rw [List.map_set]
                rw [List.set_eq_take_append_cons_drop,if_pos (by simp;omega)]
                simp
            ·have hk':(k == k')=false:=beq_eq_false_iff_ne.2 hk
             simp [hk'] at h
           ·simp at h
          case arr N α d n enc xs=>
           simp only at h
           cases hb:Nat.beq xsz n with
           | false=>simp [hb] at h
           | true=>
             have e3:=Nat.eq_of_beq_eq_true hb
             subst e3
             simp only [hb,cond_true] at h
             have hlt:xi < N∧updK (enc (xs.getD xi d)) xsub r new (fun e=>∃ y:α,enc y=e∧K (pre++.arr N α d xsz enc (xs.set xi y)::post)):=by
              cases xc with
              | true=>
                cases h3:Nat.blt xi N with
                | true=>simp only [h3,cond_true] at h;exact ⟨Nat.le_of_ble_eq_true h3,h⟩
                | false=>simp [h3] at h
              | false=>simp only [cond_false] at h;exact ⟨h.ob,h.k⟩
             have hu:=o3.1.2
             have hu':=hu
             simp only [Ok] at hu'
             obtain ⟨e',⟨y,rfl,hK⟩,q1,q3,q4,q5⟩:=Z9b hn r _ _ _ hlt.2 (hu'.2.2 xi hlt.1)
             have hle:(cellsL E (enc (xs.getD xi d))).length=xsz:=by rw [length_cellsL E _ V (hu'.2.2 xi hlt.1),hu'.2.1]
             obtain ⟨a1,a2,a3⟩:=Z9G (E:=E) hu hlt.1 q1 (by rw [hle] at q4;exact q4) q5
             exact ⟨_,hK,rfl,a1,rfl,by simp only [Nat.add_assoc] at a2 ⊢;exact a2,by rw [a3];simp only [Nat.add_assoc]⟩
         obtain ⟨u',k1,k2,k3,k4,k6,k7⟩:=key
         have ok':OkL m V (pre++u'::post):=OkL_append.2 ⟨o1.1,by simp only [OkL];exact ⟨⟨k2,k3⟩,o3.2⟩⟩
         have l1:=length_cellsL E pre V o1.1
         have l2:=length_cellsL E p2 V o2.1
         have c1:cellsL E segs=cellsL E pre++cellsL E r1:=by rw [e1,Zl]
         have c2:cellsL E segs=cellsL E p2++(cells E u++cellsL E post):=by rw [e2,Zl];rfl
         have hpre:cellsL E pre=cellsL E p2:=by
          have:=congrArg (List.take off) c1
          rw [c2,List.take_left' (by omega),List.take_left' (by omega)] at this
          exact this.symm
         have hcell:cellsL E (pre++u'::post)=splV (cellsL E segs) (off+(x.i * x.sz+x.sub+ofs r)) (cellsL E new):=by
          rw [Zl,c2]
          show cellsL E pre++(cells E u'++cellsL E post)=_
          have:=Z7c (cellsL E p2) (cells E u) (cellsL E post) (cellsL E new) (x.i * x.sz+x.sub+ofs r) k6
          rw [l2,w2] at this
          rw [← List.append_assoc (cellsL E p2),this,hpre,k7,List.append_assoc]
         refine ⟨_,k1,ok',?_,?_,?_⟩
         ·have e4:=length_cellsL E _ V ok'
          have e5:=length_cellsL E segs V ho
          rw [hcell,Z6X (by rw [c2];simp only [List.length_append];omega)] at e4
          omega
         ·rw [c2];simp only [List.length_append,ofs];omega
         ·rw [hcell];simp only [ofs,Nat.add_assoc]
section
theorem Rep.up {E C m S a w E' m' h' w'} (h:Rep E C m S a w) (hx:Ext E m (vers S.h) E' m' (vers h')) (hr:Rel E' C m' h' w'):Rep E' C m' ⟨S.t,h'⟩ a w':=
 ⟨h.sz,fun n x v hx' hv=>(h.sl n x v hx' hv).mono hx,h.df,hr⟩
theorem Z3d {E C m S a w} (h:Rep E C m S a w) {ops:Array Oper} {o:Oper} {p:List (Nat×Bool)} (hg:Zt ops S.t o=some p) :
 ∃ g,GV S.t p g∧Region.wanted o (yielded ops a.tmps)=g:=by
 unfold Zt at hg
 cases ho:o.guard with
 | none=>simp [ho] at hg;subst hg;exact ⟨true,.nil,by simp [Region.wanted,ho]⟩
 | some jw=>
   obtain ⟨j,want⟩:=jw
   simp only [ho] at hg
   cases hd:(ops[j]?).bind (·.dst) with
   | none=>simp [hd] at hg
   | some d=>
     simp only [hd] at hg
     have hy:yielded ops a.tmps j=match a.tmps[d]? with | some (.bool b)=>some b | _=>none:=by simp only [yielded,hd];rfl
     rcases h.slot d with hdd | ⟨x,v,h1,h2,h3,h4,h5⟩
     ·rw [hdd] at hg;simp at hg
     ·rw [h2] at hg
      cases x <;> try (simp at hg;done)
      case b b=>
       simp at hg;subst hg
       refine ⟨b == want,.one h2,?_⟩
       have hv:v=.bool b:=by have:=h5.2;simpa [den_v] using this
       simp only [Region.wanted,ho,hy,h3,hv]
       cases b <;> cases want <;> rfl
      case grd q y=>
       cases y <;> try (simp at hg;done)
       rename_i b
       simp at hg;subst hg
       obtain ⟨g,hgv,ht,hf⟩:=h5
       refine ⟨g&&(b == want),.cons h2 hgv,?_⟩
       cases g with
       | true=>
         have hv:v=.bool b:=by have:=(ht rfl).2.2;simpa [den_v] using this
         simp only [Region.wanted,ho,hy,h3,hv]
         cases b <;> cases want <;> rfl
       | false=>
         have hv:=hf rfl
         simp only [Region.wanted,ho,hy,h3,hv,undef,Bool.false_and]
         cases want <;> rfl
theorem Z1f {ops:Array Oper} {t:List SV} {o:Oper} (hg:Zt ops t o=some []):o.guard=none:=by
 unfold Zt at hg
 cases ho:o.guard with
 | none=>rfl
 | some jw=>
   obtain ⟨j,want⟩:=jw
   simp only [ho] at hg
   split at hg <;> (try split at hg) <;> simp at hg
section
variable {P:Program} {T:Tb} {ops:Array Oper} {o:Oper}
theorem Rep.putG {E C m S a w} (h:Rep E C m S a w) {p:List (Nat×Bool)} {g:Bool} (hg:GV S.t p g) {x:SV} {v:Value} (hx:g=true→x=.dead∨Gd m (vers S.h) x∧v=den E x) (hv:g=false→v=undef) :
 Rep E C m ⟨putF S.t o.dst (Zz p o.dst x),S.h⟩ (a.put o.dst v) w:=by
 refine h.put o.dst fun d hd=>?_
 unfold Zz
 cases p with
 | nil=>
   cases hg
   rcases hx rfl with rfl | ⟨h1,rfl⟩
   ·exact trivial
   ·exact Z1p h1
 | cons y p=>
   simp only [hd]
   cases hb:(inG d (y::p)||!live x) with
   | true=>exact trivial
   | false=>
     simp only [cond_false]
     simp at hb
     refine ⟨g,Zc1 hg d _ hb.1,fun ht=>?_,hv⟩
     rcases hx ht with rfl | ⟨h1,h2⟩
     ·simp [live] at hb
     ·exact ⟨h1.1,h1.2,h2⟩
theorem OpC.value {K:St→Prop} {S:St} {p:List (Nat×Bool)} (hg:Zt ops S.t o=some p) {x:SV}
 (hv:∀ E C m a w,Rep E C m S a w→GV S.t p true→∃ v,(execOp a.eval o).run P w=.ok (.value v) w∧(x=.dead∨Gd m (vers S.h) x∧v=den E x))
 (hK:K ⟨putF S.t o.dst (Zz p o.dst x),S.h⟩):OpC P T ops o K S:=by
 refine ⟨fun C E m a w hr=>?_⟩
 obtain ⟨g,hgv,hw⟩:=Z3d hr hg
 unfold opW
 rw [hw]
 cases g with
 | true=>
   obtain ⟨v,hrun,hx⟩:=hv E C m a w hr hgv
   simp only [if_true,Oper.wp,hrun,Oper.upon]
   exact ⟨E,m,_,hK,.refl ..,hr.putG hgv (fun _=>hx) (fun h=>by cases h)⟩
 | false=>
   simp only [Bool.false_eq_true,if_false]
   exact ⟨E,m,_,hK,.refl ..,hr.putG (x:=x) hgv (fun h=>by cases h) (fun _=>rfl)⟩
theorem Zat {E C m S a w} (hr:Rep E C m S a w) {p:List (Nat×Bool)} (hp:GV S.t p true) {c:Operand} {cv want:Bool} (hc:a.eval c=.bool cv) (hcl:live (evG p S.t c)=true→evG p S.t c=.b cv) (hce:live (evG p S.t c)=true) (hw:cv=want) (o:Operand) :
 Z21 p S.t c want o=.dead∨Gd m (vers S.h) (Z21 p S.t c want o)∧a.eval o=den E (Z21 p S.t c want o):=by
 have hev:=(hr.evs hp).gd o
 unfold Z21
 unfold evG at hev
 cases he:evO S.t o <;> rw [he] at hev <;> try exact hev
 rename_i q x
 simp only at hev ⊢
 cases hs:sufx q p with
 | true=>rw [hs] at hev;exact hev
 | false=>
   simp only [cond_false]
   cases c <;> try (left;rfl)
   rename_i tc
   cases q with
   | nil=>left;rfl
   | cons db q'=>
     obtain ⟨d,b⟩:=db
     simp only
     cases hb:(Nat.beq d tc&&(bif b then want else !want)&&sufx q' p) with
     | false=>left;rfl
     | true=>
       simp only [cond_true]
       simp at hb
       obtain ⟨⟨rfl,hb2⟩,hb3⟩:=hb
       have hbw:b=want:=by cases b <;> cases want <;> simp at hb2 <;> rfl
       subst hbw;subst hw
       cases o <;> try (simp [evO] at he;done)
       ·rename_i n
        simp only [evO] at he
        rcases hr.slot n with hd | ⟨y,v,h1,h2,h3,h4,h5⟩
        ·rw [hd] at he;cases he
        ·rw [h2] at he;subst he
         obtain ⟨g,hg,ht,hf⟩:=h5
         have hgt:g=true:=by
          have hq:=Z8C hb3 hp
          have hcb:=hcl hce
          simp only [evG,evO] at hcb
          cases hg with
          | one hd=>rw [hd] at hcb;simp at hcb;subst hcb;simp
          | cons hd h2=>
            rw [hd] at hcb
            simp only [hb3,cond_true,SV.b.injEq] at hcb
            have:=h2.fun hq
            subst hcb;subst this
            simp
         obtain ⟨o1,o2,o3⟩:=ht hgt
         exact .inr ⟨⟨o1,o2⟩,by rw [h4];exact o3⟩
       ·rename_i v
        simp only [evO] at he
        exact absurd he (Z7b v _ _)
       ·simp only [evO] at he
        exact absurd he (ZbY _ _ _)
theorem Zau {E C m S a w} (hr:Rep E C m S a w) {p:List (Nat×Bool)} (hp:GV S.t p true) {c x y:Operand} {r:SV} (h:Z5u p S.t c x y=.v r) :
 ∃ b,a.eval c=.bool b∧(if b then a.eval x else a.eval y)=den E r∧Gd m (vers S.h) r:=by
 unfold Z5u at h
 rcases (hr.evs hp).gd c with hd | ⟨hg,hc⟩
 ·rw [hd] at h;simp [Z9T] at h
 ·cases he:evG p S.t c <;> rw [he] at h <;> try (simp [Z9T] at h;done)
  rename_i cv
  have hcv:a.eval c=.bool cv:=by rw [hc,he];simp [den_v]
  have hl:live (evG p S.t c)=true:=by rw [he];rfl
  refine ⟨cv,hcv,?_⟩
  have hx:cv=true→Z21 p S.t c true x=.dead∨Gd m (vers S.h) (Z21 p S.t c true x)∧a.eval x=den E (Z21 p S.t c true x):=fun e=>Zat hr hp hcv (fun _=>he) hl e x
  have hy:cv=false→Z21 p S.t c false y=.dead∨Gd m (vers S.h) (Z21 p S.t c false y)∧a.eval y=den E (Z21 p S.t c false y):=fun e=>Zat hr hp hcv (fun _=>he) hl e y
  simp only [Z9T] at h
  split at h
  ·cases hpx:Z21 p S.t c true x <;> rw [hpx] at h hx <;> simp at h
   subst h
   refine ⟨?_,Gd_b _⟩
   cases cv with
   | true=>
     have:=(hx rfl).resolve_left (by simp)
     simp [this.2,den_v]
   | false=>simp [Act.eval,den_v]
  ·cases hpy:Z21 p S.t c false y <;> rw [hpy] at h hy <;> simp at h
   subst h
   refine ⟨?_,Gd_b _⟩
   cases cv with
   | true=>simp [Act.eval,den_v]
   | false=>
     have:=(hy rfl).resolve_left (by simp)
     simp [this.2,den_v]
  ·simp at h
theorem Z3w {z:List SV} {E:Env}:∀ n,cellsL E (ZF n z)=(List.replicate n (cellsL E z)).flatten
 | 0=>by simp [ZF,cellsL]
 | n+1=>by simp only [ZF,Zl,Z3w n,List.replicate_succ,List.flatten_cons]
theorem Z4T {z:List Value} (hz:0 < z.length) (n:Nat):(Array.range (n * z.length)).map (fun i=>z.toArray[i % z.toArray.size]!)=((List.replicate n z).flatten).toArray:=by
 apply Array.ext'
 simp only [Array.toList_map,Array.toList_range,List.size_toArray]
 apply List.ext_getElem?
 intro i
 rw [List.getElem?_map]
 by_cases hi:i < n * z.length
 ·rw [List.getElem?_range hi]
  have hm:i % z.length < z.length:=Nat.mod_lt _ hz
  have:=Z3R (fun _:Nat=>z) z.length n 0 (i / z.length) (i % z.length) z[i % z.length] (fun _ _ _=>rfl) (Nat.div_lt_of_lt_mul (by rw [Nat.mul_comm];exact hi)) (List.getElem?_eq_getElem hm)
  have e1:(List.range' 0 n).flatMap (fun _=>z)=(List.replicate n z).flatten:=by
   rw [List.flatMap_def,List.map_const',List.length_range']
  rw [e1,Nat.div_add_mod' i z.length] at this
  rw [this]
  simp [hm]
 ·rw [List.getElem?_eq_none (by simp;omega),List.getElem?_eq_none (by simp;omega)]
  rfl
theorem Z4y (hT:TabOk P T) {K:St→Prop} {S:St} (h:sop P T ops o K S):OpC P T ops o K S:=by
 obtain ⟨t,hh⟩:=S
 unfold sop at h
 simp only at h
 cases hg:Zt ops t o with
 | none=>rw [hg] at h;exact h
 | some p=>
   rw [hg] at h
   simp only at h
   split at h
   ·
    rename_i p' c x y hop
    split at h
    ·rename_i r hr
     rw [ZV] at h
     refine OpC.value hg (fun E C m a w hrep hp=>?_) h
     obtain ⟨b,h1,h2,h3⟩:=Zau hrep hp hr
     refine ⟨den E r,?_,.inr ⟨h3,rfl⟩⟩
     simp only [execOp,hop,h1,asBool,Sem.run_bind,Sem.run_pure,Result.andThen_ok]
     rw [← h2]
    ·exact h
   ·
    rename_i ty x hop
    rw [Z1e] at h
    cases hc:Zs (evG [] t x) with
    | false=>simp [hc] at h
    | true=>
      simp only [hc,cond_true,Z47,ZV] at h
      refine ⟨fun C E m a w hr=>?_⟩
      have hgn:=Z1f hg
      obtain ⟨hgd,hev⟩:=(hr.evs .nil).live (Z1q hc)
      obtain ⟨h1,h2⟩:=Z1R (E:=E) hgd hc
      have h1':(a.eval x).cells=(cellsL E (Zj (evG [] t x))).toArray:=by rw [hev,← h1]
      obtain ⟨E',e1,e2,e3⟩:=hr.rel.alloc (.mem ty (Zj (evG [] t x)) 1 0) (.cells (cellsL E (Zj (evG [] t x))).toArray ty) rfl (fun E' V' hE hV hlen=>by
       refine ⟨rfl,_,_,hlen,?_,OkL.mono (fun _ _ h=>h) _ _ _ hV h2⟩
       rw [cellsL_stable hE _ h2]
       exact heap_alloc_new w _)
      unfold opW
      rw [show Region.wanted o (yielded ops a.tmps)=true by simp [Region.wanted,hgn],if_pos rfl]
      have hrun:(execOp a.eval o).run P w=.ok (.value (.pointer (some ⟨w.heap.size,0,none⟩))) (w.alloc (.cells (cellsL E (Zj (evG [] t x))).toArray ty)):=by
       simp only [execOp,hop,Instr.box,newVar,newRow,Sem.run_bind,run_newObj,Result.andThen_ok,Sem.run_pure,h1']
       rfl
      simp only [Oper.wp,hrun,Oper.upon]
      refine ⟨E',m,_,h,e2,(hr.up e2 e3).put o.dst fun d hd=>?_⟩
      refine ⟨by simp only [Ok];exact ⟨⟨2,by simp [vers,SB.lim],by omega⟩,by omega⟩,?_⟩
      simp [den,wrapV,cells,Env.blk,e1,ofs]
   ·
    rename_i ty hop
    cases ht:T ty with
    | none=>simp [ht] at h
    | some ti=>
      simp only [ht,Z47,ZV] at h
      refine ⟨fun C E m a w hr=>?_⟩
      have hgn:=Z1f hg
      have hti:=hT.ti ty ti ht
      obtain ⟨z,hz,hzc⟩:=hti.run_zero (P:=P) w
      obtain ⟨zo,zc⟩:=hT.zeroOk (m:=m) (V:=vers hh) (E:=E) ht
      have h1':z.cells=(cellsL E ti.zero).toArray:=by rw [zc,← hzc]
      obtain ⟨E',e1,e2,e3⟩:=hr.rel.alloc (.mem ty ti.zero 1 0) (.cells (cellsL E ti.zero).toArray ty) rfl (fun E' V' hE hV hlen=>by
       refine ⟨rfl,_,_,hlen,?_,OkL.mono (fun _ _ h=>h) _ _ _ hV zo⟩
       rw [cellsL_stable hE _ zo]
       exact heap_alloc_new w _)
      unfold opW
      rw [show Region.wanted o (yielded ops a.tmps)=true by simp [Region.wanted,hgn],if_pos rfl]
      have hrun:(execOp a.eval o).run P w=.ok (.value (.pointer (some ⟨w.heap.size,0,none⟩))) (w.alloc (.cells (cellsL E ti.zero).toArray ty)):=by
       simp only [execOp,hop,Instr.alloc,newVar,newRow,Sem.run_bind,hz,run_newObj,Result.andThen_ok,Sem.run_pure,h1']
       rfl
      simp only [Oper.wp,hrun,Oper.upon]
      refine ⟨E',m,_,h,e2,(hr.up e2 e3).put o.dst fun d hd=>?_⟩
      refine ⟨by simp only [Ok];exact ⟨⟨2,by simp [vers,SB.lim],by omega⟩,by omega⟩,?_⟩
      simp [den,wrapV,cells,Env.blk,e1,ofs]
   ·
    rename_i ty len parts hop
    cases ht:T ty with
    | none=>simp [ht] at h
    | some ti=>
      simp only [ht] at h
      cases hk:ti.k <;> rw [hk] at h <;> simp only at h <;> try exact h.elim
      rename_i e
      cases hte:T e with
      | none=>simp [hte] at h
      | some te=>
        simp only [hte] at h
        cases hbn:(!(Nat.ble (len * te.size) 16777216)||Nat.beq te.size 0) with
        | true=>rw [hbn] at h;exact h.elim
        | false=>
          rw [hbn] at h
          simp only [cond_false] at h
          cases hb:ZZ te.size (parts.toList.map fun q=>(q.1,evG [] t q.2)) (ZF len te.zero) with
          | none=>simp [hb] at h
          | some segs=>
            simp only [hb,Z47,ZV] at h
            simp only [Bool.or_eq_false_iff,Bool.not_eq_false'] at hbn
            have hle:=Nat.le_of_ble_eq_true hbn.1
            have hsz0:te.size≠0:=fun e=>by rw [e] at hbn;simp at hbn
            refine ⟨fun C E m a w hr=>?_⟩
            have hgn:=Z1f hg
            have hti:=hT.ti ty ti ht
            have hti':=hT.ti e te hte
            obtain ⟨z,hz,hzc⟩:=hti'.run_zero (P:=P) w
            obtain ⟨zo,zc⟩:=hT.zeroOk (m:=m) (V:=vers hh) (E:=E) hte
            have h1':z.cells=(cellsL E te.zero).toArray:=by rw [zc,← hzc]
            have hevs:=hr.evs .nil
            obtain ⟨q1,q2⟩:=Z3u (E:=E) (m:=m) (V:=vers hh) (parts.toList.map fun q=>(q.1,evG [] t q.2)) (ZF len te.zero) segs (fun p hp hok=>by
             obtain ⟨q,_,rfl⟩:=List.mem_map.1 hp
             exact (hevs.live (Z1q hok)).1) (Z2Z zo len) hb
            obtain ⟨p1,p2⟩:=Z5x (E:=E) (f:=ti.flat) (te:=te) (n:=len) q1
            have hcs:=Z2w _ _ segs hb
            have hvs:(parts.map fun x:Nat×Operand=>match x with | (i,x)=>(i,a.eval x)).toList=(parts.toList.map fun q=>(q.1,evG [] t q.2)).map fun p=>(p.1,den E p.2):=by
             simp only [Array.toList_map,List.map_map]
             apply List.map_congr_left
             intro q hq
             simp only [Function.comp]
             rw [(hevs.live (Z1q (hcs (q.1,evG [] t q.2) (List.mem_map.2 ⟨q,hq,rfl⟩)))).2]
            have hzl:(cellsL E te.zero).length=te.size:=by rw [length_cellsL E _ _ zo];exact hti'.zw
            have hrz:=Z4T (z:=cellsL E te.zero) (by omega) len
            rw [hzl] at hrz
            rw [← Z3w] at hrz
            have hne:¬ (len * te.size > 2 ^ 24):=by omega
            obtain ⟨E',e1,e2,e3⟩:=hr.rel.alloc (.mem e (Z2s ti.flat te len segs) 1 0) (.cells (cellsL E segs).toArray e) rfl (fun E' V' hE hV hlen=>by
             refine ⟨rfl,_,_,hlen,?_,OkL.mono (fun _ _ h=>h) _ _ _ hV p1⟩
             rw [cellsL_stable hE _ p1,p2]
             exact heap_alloc_new w _)
            unfold opW
            rw [show Region.wanted o (yielded ops a.tmps)=true by simp [Region.wanted,hgn],if_pos rfl]
            have hrun:(execOp a.eval o).run P w=.ok (.value (.slice (some ⟨w.heap.size,0,none⟩) len len)) (w.alloc (.cells (cellsL E segs).toArray e)):=by
             simp only [execOp,hop,Instr.buildSlice,Sem.run_bind,Z6 (hti.slice hk),Result.andThen_ok,hti'.run_sizeOf,if_neg hne]
             by_cases hl0:len * te.size=0
             ·have hl:len=0:=by rcases Nat.mul_eq_zero.1 hl0 with h | h;exact h;exact absurd h hsz0
              subst hl
              have hc0:cellsL E (ZF 0 te.zero)=[]:=by simp [ZF,cellsL]
              rw [hc0] at q2
              have hr0:Array.range 0 = #[]:=rfl
              simp only [Nat.zero_mul,if_true,Sem.run_pure,Sem.run_bind,Result.andThen_ok,hvs,hr0,Array.map_empty]
              simp only [q2]
              simp only [Sem.run_bind,newRow,run_newObj,Result.andThen_ok,Sem.run_pure]
              rfl
             ·simp only [if_neg hl0,Sem.run_bind,hz,Result.andThen_ok,Sem.run_pure,h1',hvs,hrz,q2,newRow,run_newObj]
              rfl
            simp only [Oper.wp,hrun,Oper.upon]
            refine ⟨E',m,_,h,e2,(hr.up e2 e3).put o.dst fun d hd=>?_⟩
            refine ⟨by simp only [Ok];exact ⟨⟨2,by simp [vers,SB.lim],by omega⟩,by omega⟩,?_⟩
            simp [den,wrapV,cells,e1]
   ·
    rename_i ty x v hop
    cases ht:T ty with
    | none=>rw [ht] at h;exact h
    | some ti=>
      rw [ht] at h
      cases hx:evG [] t x <;> rw [hx] at h <;> simp only at h <;> try exact h
      rename_i k ver off ix
      cases hb:hh.getD k .fresh <;> rw [hb] at h <;> simp only at h <;> try exact h.elim
      rename_i ty' segs ver' gr
      rw [Z1e,Z2K] at h
      cases hc:(Zs (evG [] t v)&&Nat.beq (wdL (Zj (evG [] t v))) ti.size) with
      | false=>rw [hc] at h;exact h.elim
      | true=>
        rw [hc] at h
        simp only [cond_true] at h
        simp only [Bool.and_eq_true] at hc
        have hk:=getD_some hb (by simp)
        have key:(gr≠0→ver=ver')∧updK segs off ix (Zj (evG [] t v)) (fun segs'=>K ⟨putF t o.dst .dead,hh.set k (.mem ty' segs' ver' gr)⟩):=by
         cases gr with
         | succ gr=>exact ⟨fun _=>h.ob,by simpa only [Z30,ZV] using h.k⟩
         | zero=>simp only [Z30,ZV] at h;exact ⟨(fun e=>absurd rfl e),h⟩
        obtain ⟨hgr,hup⟩:=key
        refine ⟨fun C E m a w hr=>?_⟩
        have hgn:=Z1f hg
        have hevs:=hr.evs .nil
        obtain ⟨gx,ex⟩:=hevs.live (o:=x) (by rw [hx];rfl)
        obtain ⟨gv,ev⟩:=hevs.live (Z1q hc.1)
        obtain ⟨h1,h2⟩:=Z1R (E:=E) gv hc.1
        rw [hx] at gx ex
        have hvk:Vle (vers hh) k ver∧ver≠0:=by have:=gx.1;simpa only [Ok] using this
        obtain ⟨hso,hat⟩:=hr.rel.at hk hvk.1 hvk.2 (fun e=>hgr e)
        obtain ⟨segs',k1,k2,k4,k5,k6⟩:=Z9b (E:=E) h2 ix segs off _ hup hso
        have hver:ver=ver':=by
         cases gr with
         | succ gr=>exact hgr (by omega)
         | zero=>
           obtain ⟨h0,_⟩:=hr.rel.bl k _ hk
           obtain ⟨n,hn,hlt⟩:=hvk.1
           simp [vers,hk,SB.lim] at hn
           omega
        subst hver
        have hti:=hT.ti ty ti ht
        have hsz:(a.eval v).cells.size=ti.size:=by
         rw [ev,← Array.length_toList,h1,length_cellsL E _ _ h2];exact Nat.eq_of_beq_eq_true hc.2
        have hblk:∃ b c A,E k ver=some (b,c)∧w.heap[b]?=some (.cells A.toArray ty' (0,0))∧off+ofs ix+(cellsL E (Zj (evG [] t v))).length≤A.length ∧
         (∀ w',w'.heap[b]?=some (.cells (splV A (off+ofs ix) (cellsL E (Zj (evG [] t v)))).toArray ty' (0,0))→Holds E m (vers hh) w' k (.mem ty' segs' ver gr)):=by
         have hb:=hr.rel.bl k _ hk
         cases gr with
         | zero=>
           obtain ⟨h0,b,c,he,hh',_⟩:=hb
           refine ⟨b,c,_,he,hh',k5,fun w' hw'=>⟨h0,b,c,he,?_,k2⟩⟩
           rw [k6];exact hw'
         | succ gr=>
           obtain ⟨_,_,h3⟩:=hb
           obtain ⟨b,c,sp,he,hh',hcap⟩:=h3 hvk.2
           refine ⟨b,c,cellsL E segs++sp,he,hh',by simp only [List.length_append];exact Nat.le_trans k5 (Nat.le_add_right _ _),fun w' hw'=>⟨k2,fun e=>absurd e hvk.2,fun _=>⟨b,c,sp,he,?_,?_⟩⟩⟩
           ·rw [k6,hw']
            have:=Z7c [] (cellsL E segs) sp (cellsL E (Zj (evG [] t v))) (off+ofs ix) k5
            simp only [List.nil_append,List.length_nil,Nat.zero_add] at this
            rw [this]
           ·rw [k6,Z6X k5];exact hcap
        obtain ⟨b,c,A,he,hA,hlen,hholds⟩:=hblk
        unfold opW
        rw [show Region.wanted o (yielded ops a.tmps)=true by simp [Region.wanted,hgn],if_pos rfl]
        have hax:a.eval x=.pointer (some ⟨b,off+ofs ix,none⟩):=by rw [ex];simp [den,wrapV,cells,Env.blk,he]
        have hst:=Z3l (P:=P) (cellsL E (Zj (evG [] t v))) w b (off+ofs ix) 0 A ty' hA (oneCell_cellsL E _ _ h2) (by simpa using hlen)
        have hrun:(execOp a.eval o).run P w=.ok .skip (Z13 w b (.cells (splV A (off+ofs ix) (cellsL E (Zj (evG [] t v)))).toArray ty' (0,0))):=by
         simp only [execOp,hop,Instr.storeAt,hax,Instr.sureAddr,Sem.run_bind,Sem.run_pure,Result.andThen_ok,storeVar,hti.run_sizeOf,hsz,ne_eq,not_true_eq_false,if_false]
         rw [ev,h1] at *
         simp only [hst,Nat.add_zero,Result.andThen_ok]
        simp only [Oper.wp,hrun,Oper.upon]
        have hlt:=Zw hA
        have hrel:=hr.rel.set (w':=Z13 w b (.cells (splV A (off+ofs ix) (cellsL E (Zj (evG [] t v)))).toArray ty' (0,0))) (B':=.mem ty' segs' ver gr) hk rfl ⟨hvk.2,c,he⟩ (fun c' hc'=>by obtain ⟨_,c2,he2⟩:=hc';rw [he] at he2;cases he2;rfl) ⟨rfl,rfl,rfl,by first | exact Nat.le_refl _ | exact Nat.le_succ _⟩ (fun i hi=>Z62 hi _) (hholds _ (Z3v hlt _))
        refine ⟨E,m,_,k1,?_,(hr.up (h':=hh.set k (.mem ty' segs' ver gr)) ?_ hrel).put o.dst fun d hd=>trivial⟩
        ·show Ext E m (vers hh) E m (vers (hh.set k (.mem ty' segs' ver gr)))
         rw [ZJ (B':=.mem ty' segs' ver gr) hk rfl];exact .refl ..
        ·show Ext E m (vers hh) E m (vers (hh.set k (.mem ty' segs' ver gr)))
         rw [ZJ (B':=.mem ty' segs' ver gr) hk rfl];exact .refl ..
   ·
    rename_i p op' p2 hn1 hn2 hn3 hn4 hn5
    cases hp:Zx T hh (evG p t) o.op with
    | no=>rw [hp] at h;exact h
    | v x=>
      rw [hp] at h
      simp only [ZV] at h
      exact OpC.value hg (fun E C m a w hr hgv=>Z4f hT hr.rel (hr.evs hgv) o (by rw [hp];simp)) h
    | ob pr x=>
      rw [hp] at h
      simp only [ZV] at h
      exact OpC.value hg (fun E C m a w hr hgv=>Z4f hT hr.rel (hr.evs hgv) o (by rw [hp];simp;exact h.ob (Z7N hgv))) h.k
end
end
section
section
variable {P:Program} {T:Tb}
theorem ZU {o:Oper} {a:Act} {w:World} {K K2 K':Act→World→Prop} {Q:Exit→Act→World→Prop} (h:o.wp P a w K (ZcE K2)) (hk:∀ a w,K a w→K' a w):o.wp P a w K' Q:=by
 unfold Oper.wp at *
 generalize (execOp a.eval o).run P w=r at *
 cases r with
 | ok n w'=>
   cases n <;> simp only [Oper.upon] at h ⊢ <;>
    first
     | exact hk _ _ h
     | exact Calls.mono h (fun e w'' he=>by
      cases e with
      | returned v=>exact hk _ _ he
      | panicked c=>exact he.elim
      | outgrown=>obtain ⟨_,_,hf⟩:=he;exact hf.elim)
     | exact Rows.mono h (fun _ _ he=>hk _ _ he)
 | halt x w'=>cases x <;> simp only [Oper.upon,ZcE] at h
theorem Z7O (hT:TabOk P T) {ops:Array Oper} {Q:Exit→Act→World→Prop} {C:Fr} {E0:Env} {m0:Mem} {V0:List Nat}:∀ (l:List Oper) (K:St→Prop) (S:St),sreg P T ops l K S→∀ E m a w,Rep E C m S a w→Ext E0 m0 V0 E m (vers S.h) →
 (∀ E' m' S' a' w',K S'→Ext E0 m0 V0 E' m' (vers S'.h)→Rep E' C m' S' a' w'→Q .normal a' w')→wpList P ops Q l a w
 | [],K,S,h,E,m,a,w,hr,hx,hQ=>hQ E m S a w h hx hr
 | o::rest,K,S,h,E,m,a,w,hr,hx,hQ=>by
   have h1:=(Z4y hT h).out C E m a w hr
   unfold opW at h1
   unfold wpList
   have next:∀ a' w',(∃ E' m' S',sreg P T ops rest K S'∧Ext E m (vers S.h) E' m' (vers S'.h)∧Rep E' C m' S' a' w')→wpList P ops Q rest a' w':=by
    rintro a' w' ⟨E',m',S',k1,k2,k3⟩
    exact Z7O hT rest K S' k1 E' m' a' w' k3 (hx.trans k2) hQ
   by_cases hw:Region.wanted o (yielded ops a.tmps)=true
   ·rw [if_pos hw] at h1 ⊢
    exact .inl (ZU h1 next)
   ·rw [if_neg hw] at h1 ⊢
    exact next _ _ h1
theorem Z7d (hT:TabOk P T):∀ (c:Code) (K:Exit→St→Prop) (S:St),sx P T c K S→WpC P c K S:=by
 intro c
 induction c with
 | skip=>intro K S h;exact ⟨fun C E m a w hr=>wp_skip ⟨E,m,S,h,.refl ..,hr⟩⟩
 | label l=>intro K S h;exact ⟨fun C E m a w hr=>wp_label ⟨E,m,S,h,.refl ..,hr⟩⟩
 | exit id=>intro K S h;exact ⟨fun C E m a w hr=>wp_exit ⟨E,m,S,h,.refl ..,hr⟩⟩
 | ret=>intro K S h;exact ⟨fun C E m a w hr=>wp_ret ⟨E,m,S,h,.refl ..,hr⟩⟩
 | seq x y ihx ihy=>
   intro K S h
   have h1:=ihx _ S h
   refine ⟨fun C E m a w hr=>wp_seq ?_⟩
   refine wp_mono (h1.out C E m a w hr) ?_
   rintro e a' w' ⟨E',m',S',k1,k2,k3⟩
   cases e with
   | normal=>
     refine wp_mono ((ihy _ S' k1).out C E' m' a' w' k3) ?_
     rintro e a'' w'' ⟨E'',m'',S'',q1,q2,q3⟩
     exact ⟨E'',m'',S'',q1,k2.trans q2,q3⟩
   | exit id=>exact ⟨E',m',S',k1,k2,k3⟩
   | goto l=>exact ⟨E',m',S',k1,k2,k3⟩
   | ret=>exact ⟨E',m',S',k1,k2,k3⟩
   | panic ch=>exact ⟨E',m',S',k1,k2,k3⟩
   | outgrown=>exact ⟨E',m',S',k1,k2,k3⟩
 | cond c x y ihx ihy=>
   intro K S h
   simp only [sx] at h
   refine ⟨fun C E m a w hr=>?_⟩
   have hev:=(hr.evs .nil).gd c
   cases he:evO S.t c <;> rw [he] at h <;> simp only at h <;> try exact h.elim
   rename_i b
   have hb:a.eval c=.bool b:=by
    have hg:evG [] S.t c=.b b:=by simp [evG,he]
    rw [hg] at hev
    have:=hev.resolve_left (by simp)
    simpa [den_v] using this.2
   refine wp_cond hb ?_
   cases b with
   | true=>simp only [if_true];exact (ihx K S (h.t rfl)).out C E m a w hr
   | false=>simp only [Bool.false_eq_true,if_false];exact (ihy K S (h.f rfl)).out C E m a w hr
 | block id c ih=>
   intro K S h
   have h1:=ih _ S h
   refine ⟨fun C E m a w hr=>wp_block ?_⟩
   refine wp_mono (h1.out C E m a w hr) ?_
   rintro e a' w' ⟨E',m',S',k1,k2,k3⟩
   cases e with
   | exit j=>
     simp only [Exit.inBlock]
     simp only at k1
     cases hb:Nat.beq j id with
     | true=>
       rw [hb] at k1
       rw [if_pos (Nat.eq_of_beq_eq_true hb)]
       exact ⟨E',m',S',k1,k2,k3⟩
     | false=>
       rw [hb] at k1
       rw [if_neg (Nat.ne_of_beq_eq_false hb)]
       exact ⟨E',m',S',k1,k2,k3⟩
   | normal=>exact ⟨E',m',S',k1,k2,k3⟩
   | goto l=>exact ⟨E',m',S',k1,k2,k3⟩
   | ret=>exact ⟨E',m',S',k1,k2,k3⟩
   | panic ch=>exact ⟨E',m',S',k1,k2,k3⟩
   | outgrown=>exact ⟨E',m',S',k1,k2,k3⟩
 | region id ops draw=>
   intro K S h
   cases draw with
   | true=>exact h
   | false=>
     refine ⟨fun C E m a w hr=>wp_region_list ?_⟩
     exact Z7O hT ops.toList (K .normal) S h E m a w hr (.refl ..) fun E' m' S' a' w' k1 k2 k3=>⟨E',m',S',k1,k2,k3⟩
 | loop c ih=>intro K S h;exact h
 | rangeFunc f ps c d ih ih2=>intro K S h;exact h
 | scope c ih=>intro K S h;exact h
 | goto l=>intro K S h;exact h
 | refuse why=>intro K S h;exact h
def Z5b (ts:Array Value):ResultVar→Sem Value
 | .tmp t=>pure (ts.getD t undef)
 | .cell p t=>do loadVar t (← asAddr (ts.getD p undef))
theorem ZgK (hT:TabOk P T) {E C m S a w} (hr:Rep E C m S a w) {r:ResultVar} {x:SV} (h:resR T S r=some x) :
 (Z5b a.tmps r).run P w=.ok (den E x) w∧Gd m (vers S.h) x:=by
 cases r with
 | tmp n=>
   simp only [resR] at h
   have hev:=(hr.evs .nil).gd (.tmp n)
   cases he:S.t.getD n .dead <;> rw [he] at h <;> simp at h <;> subst h <;> simp only [evG,evO,he] at hev
   all_goals
    have:=hev.resolve_left (by simp)
    exact ⟨by simp only [Z5b,Sem.run_pure];rw [← this.2];rfl,this.1⟩
 | cell p ty=>
   simp only [resR] at h
   have hev:=(hr.evs .nil).gd (.tmp p)
   cases hl:Z20 T S.h ty (evO S.t (.tmp p)) with
   | no=>rw [hl] at h;simp at h
   | ob q y=>rw [hl] at h;simp at h
   | v y=>
     rw [hl] at h
     simp at h;subst h
     have heq:evG [] S.t (.tmp p)=evO S.t (.tmp p):=by
      simp only [evG]
      cases he:evO S.t (.tmp p) <;> first | rfl | (rw [he] at hl;unfold Z20 at hl;cases hty:T ty <;> rw [hty] at hl <;> simp at hl)
     rw [heq] at hev
     rcases hev with hd | ⟨hg,hv⟩
     ·rw [hd,Z7M] at hl;simp at hl
     ·obtain ⟨h1,h2⟩:=Zak hT.ti hr.rel hg (t:=ty) (x:=y) (by rw [hl];simp)
      refine ⟨?_,h2⟩
      have hv':a.tmps.getD p undef=den E (evO S.t (.tmp p)):=hv
      cases he:evO S.t (.tmp p) <;> rw [he] at hl <;> try (unfold Z20 at hl;cases hty:T ty <;> rw [hty] at hl <;> simp at hl;done)
      all_goals
       simp only [Z5b]
       rw [hv',he]
       rw [he] at h1
       simp only [den,wrapV,cells,List.headD_cons,Instr.loadAt,Instr.sureAddr,asAddr,Sem.run_bind,Sem.run_pure,Result.andThen_ok] at h1 ⊢
       exact h1
theorem Zc2 (hT:TabOk P T) {E C m S a w} (hr:Rep E C m S a w):∀ {rs:List ResultVar} {xs:List SV},resL T S rs=some xs →
 (rs.mapM (Z5b a.tmps)).run P w=.ok (denL E xs) w∧OkA m (vers S.h) xs
 | [],xs,h=>by simp [resL] at h;subst h;simp [denL,OkA]
 | r::rs,xs,h=>by
   simp only [resL] at h
   cases hx:resR T S r with
   | none=>rw [hx] at h;simp at h
   | some x=>
     rw [hx] at h
     simp only at h
     cases hy:resL T S rs with
     | none=>rw [hy] at h;simp at h
     | some ys=>
       rw [hy] at h
       simp at h;subst h
       obtain ⟨h1,h2⟩:=ZgK hT hr hx
       obtain ⟨h3,h4⟩:=Zc2 hT hr hy
       refine ⟨?_,by simp only [OkA];exact ⟨⟨h2.2,h2.1⟩,h4⟩⟩
       simp only [List.mapM_cons,Sem.run_bind,h1,Result.andThen_ok,h3,Sem.run_pure]
       rfl
theorem Z2O {E:Env}:∀ l:List SV,(denL E l).length=l.length
 | []=>rfl
 | x::l=>by simp [denL,Z2O l]
theorem Z9c (hT:TabOk P T) {fn:Func} {K:SV→List SB→Prop} {e:Exit} {E C m S a w} (hr:Rep E C m S a w) (h:retK T fn.results.toList K e S) {R:Ending→World→Prop}
 (hR:∀ r,K r S.h→Gd m (vers S.h) r→R (.returned (den E r)) w):bodyPost P fn R e a w:=by
 have key:∀ (h:(match resL T S fn.results.toList with | some [x]=>K x S.h | some xs=>K (.tup xs) S.h | none=>False)),∃ v,(results fn a.tmps).run P w=.ok v w∧R (.returned v) w:=by
  intro h
  cases hx:resL T S fn.results.toList with
  | none=>rw [hx] at h;exact h.elim
  | some xs=>
    rw [hx] at h
    obtain ⟨h1,h2⟩:=Zc2 (P:=P) hT hr hx
    have hrun:(fn.results.mapM (Z5b a.tmps)).run P w=.ok (denL E xs).toArray w:=by
     rw [Array.mapM_eq_mapM_toList]
     simp only [Sem.run_map,h1,Result.andThen_ok]
    have hres:(results fn a.tmps).run P w=.ok (if h:(denL E xs).toArray.size=1 then (denL E xs).toArray[0] else .tuple (denL E xs).toArray) w:=by
     rw [show results fn a.tmps=(do let vs ← fn.results.mapM (Z5b a.tmps);pure (if h:vs.size=1 then vs[0] else .tuple vs)) from rfl]
     rw [Sem.run_bind,hrun]
     rfl
    refine ⟨_,hres,?_⟩
    match xs,h,h2 with
    | [x],h,h2=>
      simp only [OkA] at h2
      have:=hR x h ⟨h2.1.2,h2.1.1⟩
      simpa [denL,den] using this
    | [],h,h2=>
      have:=hR _ h ⟨by simp only [Ok];exact h2,rfl⟩
      simpa [denL,den,wrapV,cells] using this
    | x::y::r,h,h2=>
      have:=hR _ h ⟨by simp only [Ok];exact h2,rfl⟩
      simpa [denL,den,wrapV,cells] using this
 cases e <;> simp only [retK] at h <;> try exact h.elim
 ·exact ⟨hr.df,key h⟩
 ·exact ⟨hr.df,key h⟩
theorem Ctr.enter (hT:TabOk P T) {f:FuncId} {fn:Func} {c:Code} {n:Nat} (hf:P.funcs[f]?=some fn) (hb:fn.body=some c) (hn:fn.ntmps=n) (hnm:(fn.name == "runtime.NumGoroutine")=false) {args:List SV} {H:List SB} {K:SV→List SB→Prop}
 (hl0:Nat.ble args.length n=true) (h:sx P T c (retK T fn.results.toList K) ⟨args++List.replicate (n - args.length) .dead,H⟩):Ctr P f args H K:=by
 have hl:args.length≤n:=Nat.le_of_ble_eq_true hl0
 refine ⟨fun C E m w hr ha=>?_⟩
 have hrun:(callFunc f (denL E args).toArray).run P w=.ok (.enter f (denL E args).toArray) w:=by
  have h1:fn.name ≠ "runtime.NumGoroutine":=by simpa using hnm
  simp [callFunc,hf,h1,hb]
 unfold Z2T
 rw [hrun]
 refine calls_of_wp hf hb ?_
 have hok:∀ (i:Nat) (x:SV),args[i]?=some x→Gd m (vers H) x:=fun i x hi=>Z8A ha hi
 have hrep:Rep E C m ⟨args++List.replicate (n - args.length) .dead,H⟩ { tmps:=(denL E args).toArray++Array.replicate (fn.ntmps - (denL E args).toArray.size) undef,defers:=[] } w:=by
  refine ⟨?_,?_,rfl,hr⟩
  ·simp [Z2O,hn]
  ·intro i x v hx hv
   by_cases hi:i < args.length
   ·rw [List.getElem?_append_left hi] at hx
    rw [Array.getElem?_append_left (by simp [Z2O,hi])] at hv
    have hg:=hok i x hx
    simp only [List.getElem?_toArray,Z79,hx,Option.map_some,Option.some.injEq] at hv
    subst hv
    exact Z1p hg
   ·rw [List.getElem?_append_right (by omega)] at hx
    have:x=.dead:=by
     have:=List.mem_of_getElem? hx
     exact List.eq_of_mem_replicate this
    subst this
    exact trivial
 refine wp_mono ((Z7d hT c _ _ h).out C E m _ w hrep) ?_
 rintro e a' w' ⟨E',m',S',k1,k2,k3⟩
 exact Z9c hT k3 k1 fun r hK hg=>⟨_,rfl,r,S'.h,E',m',rfl,hK,hg,k2,k3.rel⟩
end
end
section
structure Eff:Type 1 where
 d:Option Nat
 v:SV
 rs:List Nat
 rb:List Nat
 wb:List (Nat×SB)
def setT (t:List SV) (d:Option Nat) (v:SV):List SV:=match d with | some d=>t.set d v | none=>t
def setB:List SB→List (Nat×SB)→List SB
 | h,[]=>h
 | h,(k,B)::r=>setB (h.set k B) r
def Eff.put (e:Eff) (S:St):St:=⟨setT S.t e.d e.v,setB S.h e.wb⟩
def wN:List (Nat×SB)→List Nat
 | []=>[]
 | p::r=>p.1::wN r
def hasN (k:Nat):List Nat→Bool
 | []=>false
 | x::r=>Nat.beq x k||hasN k r
def Z7P:List Nat→List Nat→Bool
 | [],_=>false
 | x::r,l=>hasN x l||Z7P r l
def hasO (d:Option Nat) (l:List Nat):Bool:=match d with | some d=>hasN d l | none=>false
def ZcL:Option Nat→Option Nat→Bool
 | some a,some b=>Nat.beq a b
 | _,_=>false
def Z1d (e f:Eff):Bool:=hasO e.d f.rs||hasO f.d e.rs||ZcL e.d f.d||Z7P (wN e.wb) f.rb||Z7P (wN f.wb) e.rb
def stL:List Eff→Nat→(Nat→Bool)→St→St
 | [],_,_,S=>S
 | e::r,i,L,S=>stL r (i+1) L (bif L i then e.put S else S)
theorem hasN_iff {k:Nat}:∀ {l:List Nat},hasN k l=true ↔ k ∈ l
 | []=>by simp [hasN]
 | x::r=>by
   simp only [hasN,Bool.or_eq_true,hasN_iff (l:=r),List.mem_cons]
   constructor
   ·rintro (h | h)
    ·exact .inl (Nat.eq_of_beq_eq_true h).symm
    ·exact .inr h
   ·rintro (rfl | h)
    ·exact .inl (Nat.beq_refl _)
    ·exact .inr h
theorem Z5y {l r:List Nat} {k:Nat} (h:k ∈ l) (h':k ∈ r):Z7P l r=true:=by
 induction l with
 | nil=>cases h
 | cons x l ih=>
   simp only [Z7P,Bool.or_eq_true]
   rcases List.mem_cons.1 h with rfl | h
   ·exact .inl (hasN_iff.2 h')
   ·exact .inr (ih h)
theorem Z4U (t:List SV) (d:Option Nat) (v:SV):(setT t d v).length=t.length:=by cases d <;> simp [setT]
theorem Z3x:∀ (h:List SB) (l:List (Nat×SB)),(setB h l).length=h.length
 | h,[]=>rfl
 | h,(k,B)::r=>by simp [setB,Z3x _ r]
theorem Z3e {k:Nat}:∀ {h:List SB} {l:List (Nat×SB)},k ∉ wN l→(setB h l)[k]?=h[k]?
 | h,[],_=>rfl
 | h,(j,B)::r,hk=>by
   simp only [wN,List.mem_cons,not_or] at hk
   simp only [setB]
   rw [Z3e hk.2,List.getElem?_set_ne (Ne.symm hk.1)]
theorem Z5z {k:Nat}:∀ {h h':List SB} {l:List (Nat×SB)},h.length=h'.length→(k ∉ wN l→h[k]?=h'[k]?)→(setB h l)[k]?=(setB h' l)[k]?
 | h,h',[],_,hk=>hk (by simp [wN])
 | h,h',(j,B)::r,hl,hk=>by
   simp only [setB]
   refine Z5z (by simpa using hl) fun hr=>?_
   by_cases hjk:j=k
   ·subst hjk;simp [List.getElem?_set,hl]
   ·rw [List.getElem?_set_ne hjk,List.getElem?_set_ne hjk]
    exact hk (by simp only [wN,List.mem_cons,not_or];exact ⟨fun e=>hjk e.symm,hr⟩)
theorem Z2x {t:List SV} {d:Option Nat} {v:SV} {n:Nat} (h:d≠some n):(setT t d v)[n]?=t[n]?:=by
 cases d with
 | none=>rfl
 | some d=>simp only [setT];exact List.getElem?_set_ne (fun e=>h (by rw [e]))
theorem Z7Q {t t':List SV} {d:Option Nat} {v:SV} {n:Nat} (hl:t.length=t'.length) (h:d≠some n→t[n]?=t'[n]?):(setT t d v)[n]?=(setT t' d v)[n]?:=by
 by_cases hd:d=some n
 ·subst hd;simp [setT,List.getElem?_set,hl]
 ·rw [Z2x hd,Z2x hd];exact h hd
theorem Z1A:∀ (es:List Eff) (i:Nat) (L:Nat→Bool) (S:St),(stL es i L S).t.length=S.t.length∧(stL es i L S).h.length=S.h.length
 | [],_,_,_=>⟨rfl,rfl⟩
 | e::r,i,L,S=>by
   simp only [stL]
   obtain ⟨h1,h2⟩:=Z1A r (i+1) L (bif L i then e.put S else S)
   rw [h1,h2]
   cases L i <;> simp [Eff.put,Z4U,Z3x]
theorem Z2y {n:Nat} {L L':Nat→Bool}:∀ (es:List Eff) (i:Nat) (S S':St),S.t.length=S'.t.length→S.t[n]?=S'.t[n]?→(∀ j e,es[j]?=some e→e.d=some n→L (i+j)=L' (i+j))→(stL es i L S).t[n]?=(stL es i L' S').t[n]?
 | [],_,_,_,_,h,_=>h
 | e::r,i,S,S',hl,h,hj=>by
   simp only [stL]
   refine Z2y r (i+1) _ _ ?_ ?_ fun j e' he hd=>by have:=hj (j+1) e' (by simpa using he) hd;rwa [show i+(j+1)=i+1+j by omega] at this
   ·cases L i <;> cases L' i <;> simp [Eff.put,Z4U,hl]
   ·by_cases hd:e.d=some n
    ·have:=hj 0 e rfl hd
     simp only [Nat.add_zero] at this
     rw [this]
     cases L' i
     ·exact h
     ·exact Z7Q hl fun _=>h
    ·have h1:∀ (b:Bool) (S:St),(bif b then e.put S else S).t[n]?=S.t[n]?:=fun b S=>by cases b;rfl;exact Z2x hd
     rw [h1,h1];exact h
theorem Z31 {n:Nat} {L L':Nat→Bool}:∀ (es:List Eff) (i:Nat) (S S':St),S.h.length=S'.h.length→S.h[n]?=S'.h[n]?→(∀ j e,es[j]?=some e→n ∈ wN e.wb→L (i+j)=L' (i+j))→(stL es i L S).h[n]?=(stL es i L' S').h[n]?
 | [],_,_,_,_,h,_=>h
 | e::r,i,S,S',hl,h,hj=>by
   simp only [stL]
   refine Z31 r (i+1) _ _ ?_ ?_ fun j e' he hd=>by have:=hj (j+1) e' (by simpa using he) hd;rwa [show i+(j+1)=i+1+j by omega] at this
   ·cases L i <;> cases L' i <;> simp [Eff.put,Z3x,hl]
   ·by_cases hd:n ∈ wN e.wb
    ·have:=hj 0 e rfl hd
     simp only [Nat.add_zero] at this
     rw [this]
     cases L' i
     ·exact h
     ·exact Z5z hl fun _=>h
    ·have h1:∀ (b:Bool) (S:St),(bif b then e.put S else S).h[n]?=S.h[n]?:=fun b S=>by cases b;rfl;exact Z3e hd
     rw [h1,h1];exact h
theorem Z2j:∀ (es:List Eff) (i:Nat) (S:St),stL es i (fun _=>false) S=S
 | [],_,_=>rfl
 | e::r,i,S=>by simp only [stL,cond_false];exact Z2j r (i+1) S
theorem Z7e {n:Nat} {L:Nat→Bool} {e:Eff} (hd:e.d=some n):∀ (es:List Eff) (i j:Nat) (S S0:St),es[j]?=some e→L (i+j)=true→(∀ j' f,j < j'→es[j']?=some f→f.d=some n→L (i+j')=false)→S0.t.length=S.t.length→(stL es i L S).t[n]?=(e.put S0).t[n]?
 | [],_,_,_,_,h,_,_,_=>by simp at h
 | f::r,i,0,S,S0,h,hL,hj,hl=>by
   simp at h;subst h
   simp only [stL]
   rw [show L i=true from hL,cond_true]
   rw [Z2y (L':=fun _=>false) r (i+1) _ (f.put S) Z Z fun j' f' he hd'=>by have:=hj (j'+1) f' (by omega) (by simpa using he) hd';rwa [show i+(j'+1)=i+1+j' by omega] at this]
   rw [Z2j]
   exact Z7Q (by rw [hl]) fun hne=>absurd hd hne
 | f::r,i,j+1,S,S0,h,hL,hj,hl=>by
   simp only [stL]
   refine Z7e hd r (i+1) j _ S0 (by simpa using h) (by rwa [show i+(j+1)=i+1+j by omega] at hL) (fun j' f' hlt he hd'=>by have:=hj (j'+1) f' (by omega) (by simpa using he) hd';rwa [show i+(j'+1)=i+1+j' by omega] at this) ?_
   rw [hl];cases L i <;> simp [Eff.put,Z4U]
theorem Z8D {n:Nat} {L:Nat→Bool} {e:Eff} (hd:n ∈ wN e.wb):∀ (es:List Eff) (i j:Nat) (S S0:St),es[j]?=some e→L (i+j)=true→(∀ j' f,j < j'→es[j']?=some f→n ∈ wN f.wb→L (i+j')=false)→S0.h.length=S.h.length→(stL es i L S).h[n]?=(e.put S0).h[n]?
 | [],_,_,_,_,h,_,_,_=>by simp at h
 | f::r,i,0,S,S0,h,hL,hj,hl=>by
   simp at h;subst h
   simp only [stL]
   rw [show L i=true from hL,cond_true]
   rw [Z31 (L':=fun _=>false) r (i+1) _ (f.put S) Z Z fun j' f' he hd'=>by have:=hj (j'+1) f' (by omega) (by simpa using he) hd';rwa [show i+(j'+1)=i+1+j' by omega] at this]
   rw [Z2j]
   exact Z5z (by rw [hl]) fun hne=>absurd hd hne
 | f::r,i,j+1,S,S0,h,hL,hj,hl=>by
   simp only [stL]
   refine Z8D hd r (i+1) j _ S0 (by simpa using h) (by rwa [show i+(j+1)=i+1+j by omega] at hL) (fun j' f' hlt he hd'=>by have:=hj (j'+1) f' (by omega) (by simpa using he) hd';rwa [show i+(j'+1)=i+1+j' by omega] at this) ?_
   rw [hl];cases L i <;> simp [Eff.put,Z3x]
theorem Z5A {n:Nat} {L:Nat→Bool} {x:SV}:∀ (es:List Eff) (i:Nat) (S:St),(stL es i L S).t[n]?=some x→S.t[n]?=some x∨∃ j f,es[j]?=some f∧L (i+j)=true∧f.d=some n∧x=f.v
 | [],_,_,h=>.inl h
 | e::r,i,S,h=>by
   simp only [stL] at h
   rcases Z5A r (i+1) _ h with h | ⟨j,f,h1,h2,h3,h4⟩
   ·cases hL:L i with
    | false=>rw [hL] at h;exact .inl h
    | true=>
      rw [hL] at h
      simp only [cond_true,Eff.put] at h
      by_cases hd:e.d=some n
      ·right
       refine ⟨0,e,rfl,hL,hd,?_⟩
       rw [hd] at h
       simp only [setT,List.getElem?_set_self'] at h
       cases hs:S.t[n]? with
       | none=>rw [hs] at h;simp at h
       | some y=>rw [hs] at h;simp at h;exact h.symm
      ·rw [Z2x hd] at h;exact .inl h
   ·right;exact ⟨j+1,f,by simpa using h1,by rw [show i+(j+1)=i+1+j by omega];exact h2,h3,h4⟩
theorem Z2z:∀ (es:List Eff) (i:Nat) (L L':Nat→Bool) (S:St),(∀ j,j < es.length→L (i+j)=L' (i+j))→stL es i L S=stL es i L' S
 | [],_,_,_,_,_=>rfl
 | e::r,i,L,L',S,h=>by
   simp only [stL]
   have h0:=h 0 (by simp)
   simp only [Nat.add_zero] at h0
   rw [h0]
   exact Z2z r (i+1) L L' _ fun j hj=>by have:=h (j+1) (by simpa using hj);rwa [show i+(j+1)=i+1+j by omega] at this
def par (o:Oper):List Nat:=(o.after.toList.filter fun e=>Region.binds .any e).map (·.on)
def Z63 (ops:Array Oper) (L:Nat→Bool):Prop:=∀ j o,L j=true→ops[j]?=some o→∀ p ∈ par o,L p=true
def AncR (ops:Array Oper) (i j:Nat):Prop:=∀ L,Z63 ops L→(∀ o,ops[j]?=some o→∀ p ∈ par o,L p=true)→L i=true
def Sem0 (P:Program) (ops:Array Oper) (o:Oper) (e:Eff) (S:St):Prop:=
 ∀ C E m a w,Rep E C m S a w→opW P ops o a w (fun a' w'=>∃ E' m',Ext E m (vers S.h) E' m' (vers (e.put S).h)∧Rep E' C m' (e.put S) a' w')
structure Yld (P:Program) (ops:Array Oper) (o:Oper) (e:Eff) (S:St):Prop where
 out:∀ S':St,S'.t.length=S.t.length→S'.h.length=S.h.length→(∀ n ∈ e.rs,S'.t[n]?=S.t[n]?)→(∀ k ∈ e.rb,S'.h[k]?=S.h[k]?)→(∀ d,e.d=some d→Z1n d S'.t=S'.t)→Sem0 P ops o e S'
def hang:SV→List Nat
 | .grd q _=>q.map (·.1)
 | _=>[]
structure Plan (P:Program) (ops:Array Oper) (es:List Eff) (S0:St):Prop where
 len:es.length=ops.size
 yld:∀ i o e,ops[i]?=some o→es[i]?=some e→Yld P ops o e (stL es 0 (fun j=>decide (j < i)) S0)
 lex:∀ i o,ops[i]?=some o→∀ p ∈ par o,p < i
 cf:∀ (i j:Nat) (e f:Eff),i < j→es[i]?=some e→es[j]?=some f→Z1d e f=true→AncR ops i j
 hg:∀ (i j:Nat) (e f:Eff),i < j→es[i]?=some e→es[j]?=some f→hasO f.d (hang e.v)=false
 hr:∀ (i:Nat) (e:Eff),es[i]?=some e→∀ n ∈ hang e.v,n ∈ e.rs
 cln:∀ (i:Nat) (e:Eff) (d:Nat),es[i]?=some e→e.d=some d→Z1n d S0.t=S0.t
 wr:∀ (i:Nat) (e:Eff),es[i]?=some e→∀ k ∈ wN e.wb,k ∈ e.rb
theorem Z7f {d:Nat}:∀ {q:List (Nat×Bool)},inG d q=true→d ∈ q.map (·.1)
 | [],h=>by simp [inG] at h
 | (j,b)::r,h=>by
   simp only [inG,Bool.or_eq_true] at h
   rcases h with h | h
   ·have:=Nat.eq_of_beq_eq_true h;subst this;simp
   ·exact List.mem_cons_of_mem _ (Z7f h)
theorem Z3S {ops:Array Oper} {listed:Array Bool} {i:Nat} (h:i ∈ Region.ready .any ops listed):listed.getD i true=false∧∃ o,ops[i]?=some o∧∀ p ∈ par o,listed.getD p false=true:=by
 obtain ⟨h1,o,h2,h3⟩:=mem_ready.1 h
 refine ⟨h1,o,h2,fun p hp=>?_⟩
 obtain ⟨e,he,rfl⟩:=List.mem_map.1 hp
 obtain ⟨he1,he2⟩:=List.mem_filter.1 he
 exact h3 e (by simpa using he1) he2
theorem Z3T {l:Array Bool} {i:Nat} (h:l.getD i true=false):i < l.size∧l.getD i false=false∧l.toList[i]?=some false:=by
 by_cases hi:i < l.size
 ·simp [Array.getD,hi] at h ⊢
  exact h
 ·simp [Array.getD,hi] at h
section
variable {P:Program} {ops:Array Oper} {es:List Eff} {S0:St}
theorem ZfE (hp:Plan P ops es S0) {Q:Exit→Act→World→Prop} {C:Fr} {E0:Env} {m0:Mem} {V0:List Nat}
 (hQ:∀ E m a w,Ext E0 m0 V0 E m (vers (stL es 0 (fun _=>true) S0).h)→Rep E C m (stL es 0 (fun _=>true) S0) a w→Q .normal a w) :
 ∀ (fuel:Nat) (listed:Array Bool) (E:Env) (m:Mem) (a:Act) (w:World),listed.size=ops.size→listed.toList.count false=fuel→Z63 ops (fun j=>listed.getD j false) →
   Ext E0 m0 V0 E m (vers (stL es 0 (fun j=>listed.getD j false) S0).h)→Rep E C m (stL es 0 (fun j=>listed.getD j false) S0) a w→wpAny P .any ops Q fuel listed a w:=by
 have all:∀ (listed:Array Bool) (E:Env) (m:Mem) (a:Act) (w:World),listed.size=ops.size→Region.ready .any ops listed=[] →
  Ext E0 m0 V0 E m (vers (stL es 0 (fun j=>listed.getD j false) S0).h)→Rep E C m (stL es 0 (fun j=>listed.getD j false) S0) a w→Q .normal a w:=by
  intro listed E m a w hs hr hx hrep
  have hall:∀ i,i < ops.size→listed.getD i false=true:=by
   intro i
   induction i using Nat.strongRecOn with
   | _ i ih=>
     intro hi
     cases hl:listed.getD i false with
     | true=>rfl
     | false=>
       exfalso
       have ho:ops[i]?=some ops[i]:=Array.getElem?_eq_getElem hi
       have:i ∈ Region.ready .any ops listed:=by
        refine mem_ready.2 ⟨?_,ops[i],ho,fun e he hb=>?_⟩
        ·simp [Array.getD,hs,hi] at hl ⊢;exact hl
        ·have hpm:e.on ∈ par ops[i]:=List.mem_map.2 ⟨e,List.mem_filter.2 ⟨by simpa using he,hb⟩,rfl⟩
         have:=hp.lex i _ ho _ hpm
         exact ih _ this (by omega)
       rw [hr] at this;cases this
  have heq:=Z2z es 0 (fun j=>listed.getD j false) (fun _=>true) S0 fun j hj=>by simpa using hall j (by rw [← hp.len];exact hj)
  rw [heq] at hx hrep
  exact hQ E m a w hx hrep
 intro fuel
 induction fuel with
 | zero=>
   intro listed E m a w hs hc hcl hx hrep
   have hr:Region.ready .any ops listed=[]:=by
    cases h:Region.ready .any ops listed with
    | nil=>rfl
    | cons i r=>
      exfalso
      obtain ⟨h1,_⟩:=Z3S (i:=i) (ops:=ops) (listed:=listed) (by rw [h];simp)
      have h3:=(Z3T h1).2.2
      have:=List.count_eq_zero.1 hc
      exact this (List.mem_of_getElem? h3)
   exact ⟨hr,all listed E m a w hs hr hx hrep⟩
 | succ fuel ih=>
   intro listed E m a w hs hc hcl hx hrep
   refine ⟨fun hr=>all listed E m a w hs hr hx hrep,fun i hi=>?_⟩
   obtain ⟨hun,o,ho,hpar⟩:=Z3S hi
   obtain ⟨hlt,huf,hgf⟩:=Z3T hun
   have hlen:=hp.len
   have hie:i < es.length:=by rw [hlen,← hs];exact hlt
   have he:es[i]?=some es[i]:=List.getElem?_eq_getElem hie
   generalize es[i]=e at he
   have later:∀ j f,i < j→es[j]?=some f→Z1d e f=true→listed.getD j false=false:=by
    intro j f hij hf hcf
    cases hl:listed.getD j false with
    | false=>rfl
    | true=>
      have:=hp.cf i j e f hij he hf hcf (fun j=>listed.getD j false) hcl (fun o' ho' p hp'=>hcl j o' hl ho' p hp')
      simp only [huf] at this;cases this
   have earlier:∀ j f,j < i→es[j]?=some f→Z1d f e=true→listed.getD j false=true:=by
    intro j f hij hf hcf
    refine hp.cf j i f e hij hf he hcf (fun j=>listed.getD j false) hcl (fun o' ho' p hp'=>?_)
    rw [ho] at ho';cases ho'
    exact hpar p hp'
   have same:∀ j f,es[j]?=some f→(Z1d e f=true∧Z1d f e=true)→decide (j < i)=listed.getD j false:=by
    intro j f hf hcf
    rcases Nat.lt_trichotomy j i with h | h | h
    ·rw [earlier j f h hf hcf.2];simp [h]
    ·subst h;rw [huf];simp
    ·rw [later j f h hf hcf.1];simp;omega
   have y:=(hp.yld i o e ho he).out (stL es 0 (fun j=>listed.getD j false) S0) (by rw [(Z1A ..).1,(Z1A ..).1]) (by rw [(Z1A ..).2,(Z1A ..).2])
    (fun n hn=>(Z2y es 0 S0 S0 Z Z fun j f hf hd=>by
     simp only [Nat.zero_add]
     refine same j f hf ⟨?_,?_⟩ <;> simp [Z1d,hasO,hd,hasN_iff.2 hn]).symm)
    (fun k hk=>(Z31 es 0 S0 S0 Z Z fun j f hf hd=>by
     simp only [Nat.zero_add]
     refine same j f hf ⟨?_,?_⟩ <;> simp [Z1d,Z5y hd hk]).symm)
    (fun d hd=>by
     unfold Z1n
     conv=>rhs;rw [← List.map_id (stL es 0 (fun j=>listed.getD j false) S0).t]
     refine List.map_congr_left fun x hxm=>?_
     obtain ⟨n,hn⟩:=List.getElem?_of_mem hxm
     rcases Z5A es 0 S0 hn with h | ⟨j,f,hf,hl,hfd,rfl⟩
     ·have h1:=hp.cln i e d he hd
      have h2:(Z1n d S0.t)[n]?=S0.t[n]?:=by rw [h1]
      simp only [Z1n,List.getElem?_map,h,Option.map_some,Option.some.injEq] at h2
      exact h2
     ·simp only [Nat.zero_add] at hl
      cases hv:f.v <;> try rfl
      rename_i q z
      simp only [Z2t,id]
      cases hq:inG d q with
      | false=>rfl
      | true=>
        exfalso
        have hm:d ∈ hang f.v:=by rw [hv];exact Z7f hq
        have hrs:=hp.hr j f hf d hm
        rcases Nat.lt_trichotomy j i with h | h | h
        ·have:=hp.hg j i f e h hf he
         rw [hd] at this
         simp only [hasO] at this
         rw [hasN_iff.2 hm] at this;cases this
        ·subst h;rw [huf] at hl;cases hl
        ·have:=later j f h hf (by simp [Z1d,hasO,hd,hasN_iff.2 hrs])
         rw [this] at hl;cases hl)
   have h1:=y C E m a w hrep
   have hput:e.put (stL es 0 (fun j=>listed.getD j false) S0)=stL es 0 (fun j=>(listed.setIfInBounds i true).getD j false) S0:=by
    have hL:∀ j,(listed.setIfInBounds i true).getD j false=(decide (j=i)||listed.getD j false):=by
     intro j
     by_cases hji:j=i
     ·subst hji;simp [Array.getD,hlt]
     ·simp only [Array.getD_eq_getD_getElem?,hji,decide_false,Bool.false_or];rw [Array.getElem?_setIfInBounds_ne (Ne.symm hji)]
    have hLi:(listed.setIfInBounds i true).getD i false=true:=by rw [hL];simp
    have l1:=Z1A es 0 (fun j=>listed.getD j false) S0
    have l2:=Z1A es 0 (fun j=>(listed.setIfInBounds i true).getD j false) S0
    have ht:(e.put (stL es 0 (fun j=>listed.getD j false) S0)).t=(stL es 0 (fun j=>(listed.setIfInBounds i true).getD j false) S0).t:=by
     apply List.ext_getElem?
     intro n
     by_cases hd:e.d=some n
     ·refine (Z7e hd es 0 i S0 _ he (by simpa using hLi) (fun j f hij hf hfd=>?_) l1.1).symm
      simp only [Nat.zero_add,hL]
      rw [later j f hij hf (by simp [Z1d,ZcL,hd,hfd])]
      simp;omega
     ·simp only [Eff.put]
      rw [Z2x hd]
      refine Z2y es 0 S0 S0 Z Z fun j f hf hfd=>?_
      simp only [Nat.zero_add,hL]
      have:j≠i:=fun e'=>by subst e';rw [he] at hf;cases hf;exact hd hfd
      simp [this]
    have hh:(e.put (stL es 0 (fun j=>listed.getD j false) S0)).h=(stL es 0 (fun j=>(listed.setIfInBounds i true).getD j false) S0).h:=by
     apply List.ext_getElem?
     intro n
     by_cases hd:n ∈ wN e.wb
     ·refine (Z8D hd es 0 i S0 _ he (by simpa using hLi) (fun j f hij hf hfd=>?_) l1.2).symm
      simp only [Nat.zero_add,hL]
      rw [later j f hij hf (by simp [Z1d,Z5y hd (hp.wr j f hf n hfd)])]
      simp;omega
     ·simp only [Eff.put]
      rw [Z3e hd]
      refine Z31 es 0 S0 S0 Z Z fun j f hf hfd=>?_
      simp only [Nat.zero_add,hL]
      have:j≠i:=fun e'=>by subst e';rw [he] at hf;cases hf;exact hd hfd
      simp [this]
    cases hA:e.put (stL es 0 (fun j=>listed.getD j false) S0)
    cases hB:stL es 0 (fun j=>(listed.setIfInBounds i true).getD j false) S0
    rw [hA,hB] at ht hh
    simp only at ht hh
    rw [ht,hh]
   have next:∀ a' w',(∃ E' m',Ext E m (vers (stL es 0 (fun j=>listed.getD j false) S0).h) E' m' (vers (e.put (stL es 0 (fun j=>listed.getD j false) S0)).h)∧Rep E' C m' (e.put (stL es 0 (fun j=>listed.getD j false) S0)) a' w') →
    wpAny P .any ops Q fuel (listed.setIfInBounds i true) a' w':=by
    rintro a' w' ⟨E',m',k1,k2⟩
    rw [hput] at k1 k2
    refine ih _ E' m' a' w' (by simpa using hs) ?_ ?_ (hx.trans k1) k2
    ·have hlt':i < listed.toList.length:=by simpa using hlt
     have hv:listed.toList[i]=false:=by
      have:=hgf;rw [List.getElem?_eq_getElem hlt'] at this;simpa using this
     rw [Array.toList_setIfInBounds,List.count_set hlt',hv,hc]
     simp
    ·intro j o' hj ho' p hp'
     by_cases hji:j=i
     ·subst hji
      rw [ho] at ho';cases ho'
      have:=hpar p hp'
      by_cases hpj:p=j
      ·subst hpj;rw [huf] at this;cases this
      ·simp only [Array.getD_eq_getD_getElem?];rw [Array.getElem?_setIfInBounds_ne (Ne.symm hpj)];simpa [Array.getD_eq_getD_getElem?] using this
     ·simp only [Array.getD_eq_getD_getElem?] at hj
      rw [Array.getElem?_setIfInBounds_ne (Ne.symm hji)] at hj
      have:=hcl j o' (by simpa [Array.getD_eq_getD_getElem?] using hj) ho' p hp'
      by_cases hpj:p=i
      ·subst hpj;simp only [huf] at this;cases this
      ·simp only [Array.getD_eq_getD_getElem?];rw [Array.getElem?_setIfInBounds_ne (Ne.symm hpj)];simpa [Array.getD_eq_getD_getElem?] using this
   unfold opW at h1
   unfold wpOp
   simp only [ho]
   by_cases hw:Region.wanted o (yielded ops a.tmps)=true
   ·rw [if_pos hw] at h1 ⊢
    exact .inl (ZU h1 next)
   ·rw [if_neg hw] at h1 ⊢
    exact next _ _ h1
theorem Zc3 (hm:P.follows .mixedOrders=true) (hp:Plan P ops es S0) {id:Nat} {Q:Exit→Act→World→Prop} {C E m a w} (hr:Rep E C m S0 a w)
 (hQ:∀ E' m' a' w',Ext E m (vers S0.h) E' m' (vers (stL es 0 (fun _=>true) S0).h)→Rep E' C m' (stL es 0 (fun _=>true) S0) a' w'→Q .normal a' w'):(Code.region id ops true).wp P Q a w:=by
 refine wp_region_any hm ?_
 have h0:(fun j=>(Array.replicate ops.size false).getD j false)=fun _=>false:=by
  funext j
  simp only [Array.getD_eq_getD_getElem?,Array.getElem?_replicate]
  split <;> rfl
 have hrep:Rep E C m S0 a { w with drawn:=w.drawn+1 }:=⟨hr.sz,hr.sl,hr.df,⟨hr.rel.os,hr.rel.tape,⟨hr.rel.output.1,hr.rel.output.2.trans (Nat.le_succ _)⟩,hr.rel.im,hr.rel.fr,hr.rel.mf,hr.rel.bl,hr.rel.nn,hr.rel.sp,hr.rel.inj⟩⟩
 refine ZfE hp hQ ops.size _ E m a _ (by simp) (by simp) ?_ ?_ ?_
 ·intro j o hj;rw [h0] at hj;cases hj
 ·rw [h0,Z2j];exact .refl ..
 ·rw [h0,Z2j];exact hrep
end
end
end SX
end Go.Proofs.YtdddpbmcoimgdaaGreatDoor
