/- A part of SX: symbolic and concrete runs of the program, with contracts of functions; lemmas without further conditions. -/
import Derived.WalkKit
set_option linter.unusedVariables false
set_option linter.unusedSimpArgs false
set_option linter.unusedSectionVars false
/- SX: the tables that the rows list. -/
namespace Go.Proofs.YthkedcneehdinaaGreatDoor
namespace SX
open Go
/-- What a package-level variable holds: integers; an interface value. -/
inductive TbV where
  | ints (k : IntKind) (zs : List Int)
  | ifc
  | anyI (k : IntKind)
def tbl6 : TbV := .ints .u8 [0, 1, 28, 2, 29, 14, 24, 3, 30, 22, 20, 15, 25, 17, 4, 8, 31, 27, 13, 23, 21, 19, 16, 7, 26, 12, 18, 6, 11, 5, 10, 9]
def tbl7 : TbV := .ints .u8 [0, 1, 56, 2, 57, 49, 28, 3, 61, 58, 42, 50, 38, 29, 17, 4, 62, 47, 59, 36, 45, 43, 51, 22, 53, 39, 33, 30, 24, 18, 12, 5, 63, 55, 48, 27, 60, 41, 37, 16, 46, 35, 44, 21, 52, 32, 23, 11, 54, 26, 40, 15, 34, 20, 31, 10, 25, 14, 19, 9, 13, 8, 7, 6]
def tbl5 : TbV := .ints .u64 [1, 10, 100, 1000, 10000, 100000, 1000000, 10000000, 100000000, 1000000000, 10000000000, 100000000000, 1000000000000, 10000000000000, 100000000000000, 1000000000000000, 10000000000000000, 100000000000000000, 1000000000000000000, 10000000000000000000]
def tbl4 : TbV := .ifc
def tbl3 : TbV := .ifc
def tbl0 : TbV := .ints .u8 [0, 0, 0, 0, 0, 0, 0, 0, 0, 1, 1, 1, 1, 1, 0, 0, 0, 0, 0, 0, 0, 0, 0, 0, 0, 0, 0, 0, 0, 0, 0, 0, 1, 0, 0, 0, 0, 0, 0, 0, 0, 0, 0, 0, 0, 0, 0, 0, 0, 0, 0, 0, 0, 0, 0, 0, 0, 0, 0, 0, 0, 0, 0, 0, 0, 0, 0, 0, 0, 0, 0, 0, 0, 0, 0, 0, 0, 0, 0, 0, 0, 0, 0, 0, 0, 0, 0, 0, 0, 0, 0, 0, 0, 0, 0, 0, 0, 0, 0, 0, 0, 0, 0, 0, 0, 0, 0, 0, 0, 0, 0, 0, 0, 0, 0, 0, 0, 0, 0, 0, 0, 0, 0, 0, 0, 0, 0, 0, 0, 0, 0, 0, 0, 0, 0, 0, 0, 0, 0, 0, 0, 0, 0, 0, 0, 0, 0, 0, 0, 0, 0, 0, 0, 0, 0, 0, 0, 0, 0, 0, 0, 0, 0, 0, 0, 0, 0, 0, 0, 0, 0, 0, 0, 0, 0, 0, 0, 0, 0, 0, 0, 0, 0, 0, 0, 0, 0, 0, 0, 0, 0, 0, 0, 0, 0, 0, 0, 0, 0, 0, 0, 0, 0, 0, 0, 0, 0, 0, 0, 0, 0, 0, 0, 0, 0, 0, 0, 0, 0, 0, 0, 0, 0, 0, 0, 0, 0, 0, 0, 0, 0, 0, 0, 0, 0, 0, 0, 0, 0, 0, 0, 0, 0, 0, 0, 0, 0, 0, 0, 0, 0, 0, 0, 0, 0, 0]
def tbl1 : TbV := .anyI .i64
def tabs (g : Nat) : Option TbV := bif Nat.beq g 6 then some tbl6 else (bif Nat.beq g 7 then some tbl7 else (bif Nat.beq g 5 then some tbl5 else (bif Nat.beq g 4 then some tbl4 else (bif Nat.beq g 3 then some tbl3 else (bif Nat.beq g 0 then some tbl0 else (bif Nat.beq g 1 then some tbl1 else .none))))))
/-- Does the seat need that drawn numbers stay drawn? (slices.SortFunc) -/
def drKeep : Bool := false
end SX
end Go.Proofs.YthkedcneehdinaaGreatDoor

/- SX, the abstract executor: its values, its state, and the function 'sx' that turns a Go body into a proposition. -/
set_option linter.unusedVariables false
namespace Go.Proofs.YthkedcneehdinaaGreatDoor
namespace SX
open Go

/-- One step into an array or a slice: is the index a constant, which element, an element's size, an offset inside it. -/
structure Ix where
  c : Bool
  i : Nat
  sz : Nat
  sub : Nat
def ofs : List Ix → Nat
  | [] => 0
  | x :: r => x.i * x.sz + x.sub + ofs r
def addSub : List Ix → Nat → List Ix
  | [], _ => []
  | [x], n => [{ x with sub := x.sub + n }]
  | x :: y :: r, n => x :: addSub (y :: r) n

/-- Abstract values. 'ptr', 'sl', 'map' name tracked blocks; 'imm' is a slice whose cells never change; 'ints', 'arr' are units of several cells. -/
inductive SV : Type 1 where
  | i (k : IntKind) (n : Int)
  | b (x : Bool)
  | s (l : List UInt8)
  | raw (v : Value)
  | nils
  | ptr (k ver off : Nat) (ix : List Ix)
  | ipt (α : Type) (d : α) (n : Nat) (enc : α → List SV) (xs : List α) (a : Addr) (j sub : Nat) (ix : List Ix)
  | sl (k ver off len : Nat) (cap : Option Nat) (dc : Nat)
  | imm (α : Type) (d : α) (n : Nat) (enc : α → List SV) (xs : List α) (a : Option Addr) (cap : Nat)
  | ints (k : IntKind) (n : Nat) (xs : List Int)
  | arr (N : Nat) (α : Type) (d : α) (n : Nat) (enc : α → List SV) (xs : List α)
  | fn (f : FuncId) (caps : List SV)
  | iface (t : TypeId) (x : SV)
  | bm (f : FuncId) (x : SV)
  | map (k : Nat)
  | agg (cs : List SV)
  | tup (vs : List SV)
  | grd (p : List (Nat × Bool)) (x : SV)
  | dead

/-- Tracked blocks; 'gw': how many cells an element of a row that grows has, 0: the block does not grow. -/
inductive SB : Type 1 where
  | mem (t : TypeId) (segs : List SV) (ver : Nat) (gw : Nat)
  | mp (kv : List (SV × SV)) (ver : Nat)
  | gone (ver : Nat)
  | fresh
/-- How many versions of a block's name there have been. -/
def SB.lim : SB → Nat
  | .mem _ _ v _ => v + 1
  | .mp _ v => v + 1
  | .gone v => v + 1
  | .fresh => 0

structure St : Type 1 where
  t : List SV
  h : List SB

/-- How many cells a unit has. -/
def wd : SV → Nat
  | .ints _ n _ => n
  | .arr N _ _ n _ _ => N * n
  | _ => 1
def wdL : List SV → Nat
  | [] => 0
  | x :: r => wd x + wdL r
def cellV : Value → Bool
  | .agg _ => false
  | .tuple _ => false
  | _ => true
def isCell : SV → Bool
  | .raw v => cellV v
  | .ints _ _ _ | .arr _ _ _ _ _ _ | .agg _ | .tup _ | .grd _ _ | .dead => false
  | _ => true
def isUnit : SV → Bool
  | .raw v => cellV v
  | .agg _ | .tup _ | .grd _ _ | .dead => false
  | _ => true
def live : SV → Bool
  | .grd _ _ | .dead => false
  | _ => true

/-- How many cells units have, with so many at hand: a number at each step. -/
def wdQ : List SV → Nat → Nat
  | [], n => n
  | x :: r, 0 => wdQ r (wd x)
  | x :: r, n + 1 => wdQ r (n + 1 + wd x)
theorem wdQ_eq : ∀ (l : List SV) (n : Nat), wdQ l n = n + wdL l
  | [], n => by simp [wdQ, wdL]
  | x :: r, 0 => by simp [wdQ, wdL, wdQ_eq r]
  | x :: r, n + 1 => by simp only [wdQ, wdL, wdQ_eq r]; omega
/-- Have these units so many cells? -/
def wdB : List SV → Nat → Bool
  | [], 0 => true
  | [], _ + 1 => false
  | x :: r, 0 => bif Nat.beq (wd x) 0 then wdB r 0 else false
  | x :: r, n + 1 => bif Nat.ble (wd x) (n + 1) then wdB r (n + 1 - wd x) else false
theorem wdB_eq : ∀ (l : List SV) (n : Nat), wdB l n = Nat.beq (wdL l) n
  | [], 0 => rfl
  | [], _ + 1 => rfl
  | x :: r, 0 => by
    simp only [wdB, wdL, wdB_eq r]
    rw [Bool.eq_iff_iff]
    cases h : Nat.beq (wd x) 0 with
    | true => have := Nat.eq_of_beq_eq_true h; simp [this]
    | false => have := Nat.ne_of_beq_eq_false h; simp; omega
  | x :: r, n + 1 => by
    simp only [wdB, wdL, wdB_eq r]
    rw [Bool.eq_iff_iff]
    cases h : Nat.ble (wd x) (n + 1) with
    | true => have := Nat.le_of_ble_eq_true h; simp; omega
    | false => have : ¬ wd x ≤ n + 1 := fun e => by rw [Nat.ble_eq_true_of_le e] at h; cases h
               simp; omega
def dropC : List SV → Nat → Option (List SV)
  | l, 0 => some l
  | [], _ + 1 => none
  | x :: xs, n + 1 => bif Nat.ble (wd x) (n + 1) then dropC xs (n + 1 - wd x) else none
def takeC : List SV → Nat → Option (List SV)
  | _, 0 => some []
  | [], _ + 1 => none
  | x :: xs, n + 1 => bif Nat.ble (wd x) (n + 1) then (match takeC xs (n + 1 - wd x) with | some r => some (x :: r) | none => none) else none

/-- What the executor knows of a type. -/
inductive TK where
  | bool | int (k : IntKind) | str | ptr (e : TypeId) | slice (e : TypeId) | map (k v : TypeId) | struct (fs : List (Nat × TypeId)) | array (n : Nat) (e : TypeId) | func | iface (nm : Bool) | other
/-- The kinds of the cells of a type whose values are compared cell by cell. -/
inductive LK where
  | i (k : IntKind) | b | s
  deriving DecidableEq
structure TI : Type 1 where
  k : TK
  size : Nat
  bytes : Nat
  zero : List SV
  leafs : Option (List LK) := none
  flat : Bool := false
def TK.agg : TK → Bool
  | .struct _ => true
  | .array _ _ => true
  | _ => false
abbrev Tb := TypeId → Option TI

def ofV : Value → SV
  | .int k n => .i k n
  | .bool b => .b b
  | .string s => .s s.data.toList
  | .slice none 0 0 => .nils
  | v => .raw v
/-- A package-level variable's place: of a table, known. -/
def gV (g : Nat) : SV := match tabs g with
  | some (.ints k zs) => .ipt Unit () zs.length (fun _ => [.ints k zs.length zs]) [()] ⟨g, 0, none⟩ 0 0 []
  | _ => .raw (.pointer (some ⟨g, 0, none⟩))
/-- What is called: which function, with what ahead of the arguments, with what behind them. -/
def calB : SV → Option (FuncId × List SV × List SV)
  | .fn f caps => some (f, [], caps)
  | .bm f x => some (f, [x], [])
  | _ => none
def evO (t : List SV) : Operand → SV
  | .tmp n => t.getD n .dead
  | .const v => ofV v
  | .global g => gV g
  | .func f => .fn f []

/-- What a pure operation comes to: a value; a value, something to be shown first; nothing. -/
inductive R : Type 1 where
  | v (x : SV)
  | ob (p : Prop) [d : Decidable p] (x : SV)
  | no
inductive NR : Type 1 where
  | ok (l : List SV)
  | ob (p : Prop) [d : Decidable p] (l : List SV)
  | no

def segsOf : SV → List SV
  | .agg cs => cs
  | v => [v]

def stepU (u : SV) (x : Ix) : NR :=
  match u with
  | .ints k n xs => bif Nat.beq x.sz 1 && Nat.beq x.sub 0 then
      (bif x.c then (bif Nat.blt x.i n then .ok [.i k (xs.getD x.i 0)] else .no) else .ob (x.i < n) [.i k (xs.getD x.i 0)]) else .no
  | .arr N _ d n enc xs => bif Nat.beq x.sz n then
      (match dropC (enc (xs.getD x.i d)) x.sub with
      | some l => bif x.c then (bif Nat.blt x.i N then .ok l else .no) else .ob (x.i < N) l
      | none => .no) else .no
  | _ => .no
def navI : List SV → List Ix → NR
  | l, [] => .ok l
  | [], _ :: _ => .no
  | u :: _, x :: r => match stepU u x with
    | .ok l => navI l r
    | @NR.ob p dp l => match navI l r with
      | .ok z => @NR.ob p dp z
      | @NR.ob q dq z => @NR.ob (p ∧ q) (@instDecidableAnd p q dp dq) z
      | .no => .no
    | .no => .no
def nav (segs : List SV) (off : Nat) (ix : List Ix) : NR :=
  match dropC segs off with
  | some l => navI l ix
  | none => .no

def rdT (agg : Bool) (size : Nat) (segs : List SV) : Option SV :=
  bif agg then (match takeC segs size with | some cs => some (.agg cs) | none => none)
  else match segs with
    | x :: _ => bif isCell x then some x else none
    | [] => none
def rdR (agg : Bool) (size : Nat) : NR → R
  | .ok l => match rdT agg size l with | some x => .v x | none => .no
  | @NR.ob p dp l => match rdT agg size l with | some x => @R.ob p dp x | none => .no
  | .no => .no

def binI (op : BinOp) (k : IntKind) (x y : Int) : R :=
  match op with
  | .add => .v (.i k (k.wrap (x + y)))
  | .sub => .v (.i k (k.wrap (x - y)))
  | .mul => .v (.i k (k.wrap (x * y)))
  | .quo => .ob (y ≠ 0) (.i k (k.wrap (x.tdiv y)))
  | .rem => .ob (y ≠ 0) (.i k (x.tmod y))
  | .and => .v (.i k (bits .and k x y))
  | .or => .v (.i k (bits .or k x y))
  | .xor => .v (.i k (bits .xor k x y))
  | .andNot => .v (.i k (bits .andNot k x y))
  | .eql => .v (.b (decide (x = y)))
  | .neq => .v (.b (!decide (x = y)))
  | .lss => .v (.b (decide (x < y)))
  | .leq => .v (.b (decide (x ≤ y)))
  | .gtr => .v (.b (decide (y < x)))
  | .geq => .v (.b (decide (y ≤ x)))
  | _ => .no
def binS (op : BinOp) (x y : List UInt8) : R :=
  match op with
  | .add => .ob (x.length + y.length ≤ 9223372036854775807) (.s (x ++ y))
  | .eql => .v (.b (decide (x = y)))
  | .neq => .v (.b (!decide (x = y)))
  | .lss => .v (.b (Op.bytesLess x y))
  | _ => .no
/-- Cell by cell: are two values equal? -/
def eqU : SV → SV → Option Bool
  | .i k a, .i k' c => bif k == k' then some (decide (a = c)) else none
  | .b a, .b c => some (a == c)
  | .s a, .s c => some (decide (a = c))
  | .ints k n a, .ints k' n' c => bif k == k' && Nat.beq n n' then some (decide (a = c)) else none
  | _, _ => none
def eqL : List SV → List SV → Option Bool
  | [], [] => some true
  | [x], [y] => eqU x y
  | x :: xs, y :: ys => match eqU x y with
    | some b => match eqL xs ys with
      | some c => some (b && c)
      | none => none
    | none => none
  | _, _ => none
/-- Strike n cells of a kind. -/
def dropK (k : IntKind) : Nat → List LK → Option (List LK)
  | 0, l => some l
  | n + 1, .i k' :: l => bif k == k' then dropK k n l else none
  | _, _ => none
def kmatch : List SV → List LK → Bool
  | [], [] => true
  | .i k _ :: r, .i k' :: l => k == k' && kmatch r l
  | .b _ :: r, .b :: l => kmatch r l
  | .s _ :: r, .s :: l => kmatch r l
  | .ints k n _ :: r, l => (match dropK k n l with | some l' => kmatch r l' | none => false)
  | _, _ => false
def isNilLit : TK → SV → Bool
  | .ptr _, .raw (.pointer none) => true
  | .slice _, .nils => true
  | .map _ _, .raw (.map none) => true
  | .func, .raw .nilFunc => true
  | .iface _, .raw .nilIface => true
  | _, _ => false
def nilB : TK → SV → Option Bool
  | .ptr _, .raw (.pointer none) => some true
  | .ptr _, .ptr _ _ _ _ => some false
  | .ptr _, .ipt _ _ _ _ _ _ _ _ _ => some false
  | .slice _, .nils => some true
  | .slice _, .imm _ _ _ _ _ a _ => some a.isNone
  | .slice _, .sl _ (_ + 1) _ _ _ _ => some false
  | .map _ _, .raw (.map none) => some true
  | .map _ _, .map _ => some false
  | .func, .raw .nilFunc => some true
  | .func, .fn _ _ => some false
  | .func, .bm _ _ => some false
  | .iface _, .raw .nilIface => some true
  | .iface _, .iface _ _ => some false
  | _, _ => none
def isConst : Operand → Bool
  | .const _ => true
  | _ => false
def ckI (k : TK) (c : Bool) : Bool :=
  match k with
  | .iface _ => c
  | _ => true
def nilE (k : TK) (c : Bool) (x y : SV) : Option Bool :=
  bif ckI k c then
    (bif isNilLit k x then nilB k y else bif isNilLit k y then nilB k x else none) else none
/-- '==', '!=' of other things: bools; structs by their cells; against nil. -/
def binE (neg c : Bool) (ti : TI) (x y : SV) : R :=
  match ti.k, x, y with
  | .bool, .b a, .b c => .v (.b (bif neg then a != c else a == c))
  | _, .agg xs, .agg ys => match ti.leafs with
    | some ls => bif kmatch xs ls && kmatch ys ls then (match eqL xs ys with
      | some b => .v (.b (bif neg then !b else b))
      | none => .no) else .no
    | none => .no
  | k, x, y => match nilE k c x y with
    | some b => .v (.b (bif neg then !b else b))
    | none => .no
def shf (op : BinOp) (k : IntKind) (x y : Int) : R :=
  match op with
  | .shl => .ob (0 ≤ y) (.i k (k.wrap (x * 2 ^ min y.toNat k.bits)))
  | .shr => .ob (0 ≤ y) (.i k (x.fdiv (2 ^ min y.toNat k.bits)))
  | _ => .no
def isShift : BinOp → Bool
  | .shl | .shr => true
  | _ => false
def binR (T : Tb) (op : BinOp) (t : TypeId) (c : Bool) (x y : SV) : R :=
  match x, y with
  | .i k a, .i k' b => bif isShift op then shf op k a b else bif k == k' then binI op k a b else .no
  | .s a, .s b => binS op a b
  | x, y => match T t with
    | some ti => match op with
      | .eql => binE false c ti x y
      | .neq => binE true c ti x y
      | _ => .no
    | none => .no
def pickR (c a b : SV) (aop bop : Operand) : R :=
  match c with
  | .b c => match aop, bop with
    | _, .const (.bool false) => (match a with | .b x => .v (.b (c && x)) | _ => .no)
    | .const (.bool true), _ => (match b with | .b x => .v (.b (c || x)) | _ => .no)
    | _, _ => .no
  | _ => .no
def convR (T : Tb) (src dst : TypeId) (x : SV) : R :=
  match T src, T dst with
  | some _, some ti => match ti.k, x with
    | .int k, .i _ n => .v (.i k (k.wrap n))
    | .str, .s l => .v (.s l)
    | _, _ => .no
  | _, _ => .no
def unitN : SV → Nat
  | .ints _ n _ => n
  | .arr N _ _ _ _ _ => N
  | _ => 0
def indexR (T : Tb) (t : TypeId) (x ix : SV) (c : Bool) : R :=
  match x, ix with
  | .s l, .i _ n => match T t with
    | some ti => (match ti.k with | .str => .ob (0 ≤ n ∧ n < l.length) (.i .u8 ((l.getD n.toNat 0).toNat : Int)) | _ => .no)
    | none => .no
  | .agg cs, .i _ n => match T t with
    | some ti => match ti.k with
      | .array N e => match T e with
        | some te => bif ti.flat then (match dropC cs (n.toNat * te.size) with
          | some l => (match rdT te.k.agg te.size l with | some x => .ob (0 ≤ n ∧ n < N) x | none => .no)
          | none => .no) else match cs with
          | [u] => bif Nat.beq (unitN u) N then (match rdR te.k.agg te.size (stepU u ⟨c, n.toNat, te.size, 0⟩) with
          | .v x => bif c then .v x else .no
          | @R.ob p dp x => @R.ob (0 ≤ n ∧ p) (@instDecidableAnd _ p _ dp) x
          | .no => .no) else .no
          | _ => .no
        | none => .no
      | _ => .no
    | none => .no
  | _, _ => .no
/-- Is an operand a constant index below so much? -/
def constIx (o : Operand) (N : Nat) : Bool :=
  match o with
  | .const (.int _ (.ofNat n)) => Nat.blt n N
  | _ => false
/-- Do an array's numbers stand here as one unit? -/
def intsAt (l : List SV) (sub : Nat) : Bool :=
  match dropC l sub with
  | some (.ints _ _ _ :: _) => true
  | _ => false
def addrIx (T : Tb) (t : TypeId) (x : SV) (ixo : Operand) (ix : SV) : R :=
  match ix with
  | .i _ n => match T t with
    | some ti => match ti.k with
      | .array N e => match T e with
        | some te => match x with
          | .ptr k ver off p => bif ti.flat then .ob (0 ≤ n ∧ n < N) (.ptr k ver (off + n.toNat * te.size) p) else bif constIx ixo N then .v (.ptr k ver off (p ++ [⟨true, n.toNat, te.size, 0⟩])) else .ob (0 ≤ n ∧ n < N) (.ptr k ver off (p ++ [⟨false, n.toNat, te.size, 0⟩]))
          | .ipt α d m enc xs a j sub p => bif ti.flat && !intsAt (enc (xs.getD j d)) sub then .ob (0 ≤ n ∧ n < N) (.ipt α d m enc xs a j (sub + n.toNat * te.size) p) else bif constIx ixo N then .v (.ipt α d m enc xs a j sub (p ++ [⟨true, n.toNat, te.size, 0⟩])) else .ob (0 ≤ n ∧ n < N) (.ipt α d m enc xs a j sub (p ++ [⟨false, n.toNat, te.size, 0⟩]))
          | _ => .no
        | none => .no
      | .slice e => match T e with
        | some te => match x with
          | .imm α d m enc xs a _ => bif Nat.beq m te.size then .ob (0 ≤ n ∧ n < xs.length) (.ipt α d m enc xs (a.getD ⟨0, 0, none⟩) n.toNat 0 []) else .no
          | .sl k ver off len (some _) _ => bif ti.flat then .ob (0 ≤ n ∧ n < len) (.ptr k ver (off + n.toNat * te.size) []) else bif constIx ixo len then .v (.ptr k ver (off + n.toNat * te.size) []) else .ob (0 ≤ n ∧ n < len) (.ptr k ver off [⟨false, n.toNat, te.size, 0⟩])
          | .sl k ver off len none dc => bif ti.flat then .ob (0 ≤ n ∧ n < len) (.ptr k ver (off + n.toNat * te.size) []) else .ob (off = dc * te.size ∧ 0 ≤ n ∧ n < len) (.ptr k ver 0 [⟨false, dc + n.toNat, te.size, 0⟩])
          | _ => .no
        | none => .no
      | _ => .no
    | none => .no
  | _ => .no
def isSl : TK → Bool
  | .slice _ => true
  | _ => false
def lenR (T : Tb) (t : TypeId) (x : SV) : R :=
  match T t with
  | some ti => match x with
    | .s l => (match ti.k with | .str => .v (.i .i64 l.length) | _ => .no)
    | .nils => bif isSl ti.k then .v (.i .i64 0) else .no
    | .imm _ _ _ _ xs _ _ => bif isSl ti.k then .v (.i .i64 xs.length) else .no
    | .sl _ _ _ len _ _ => bif isSl ti.k then .v (.i .i64 len) else .no
    | .dead => .no
    | _ => (match ti.k with | .array n _ => .v (.i .i64 n) | _ => .no)
  | none => .no
def minR (mx : Bool) : List SV → R
  | [.i k x, .i k' y] => bif k == k' then .v (.i k (bif mx then (if x < y then y else x) else (if y < x then y else x))) else .no
  | _ => .no
def fieldR (T : Tb) (t : TypeId) (x : SV) (f : Nat) : R :=
  match x with
  | .agg cs => match T t with
    | some ti => match ti.k with
      | .struct fs => match fs[f]? with
        | some (o, e) => match T e with
          | some te => rdR te.k.agg te.size (match dropC cs o with | some l => .ok l | none => .no)
          | none => .no
        | none => .no
      | _ => .no
    | none => .no
  | _ => .no
def andR (p : Prop) [Decidable p] : R → R
  | .v x => .ob p x
  | @R.ob q dq x => @R.ob (p ∧ q) (@instDecidableAnd p q _ dq) x
  | .no => .no
/-- Bounds of s[lo:hi], as the operands have them. -/
def boundsR (lo hi : Option SV) (len : Nat) : Option (Option (PSigma fun p : Prop => Decidable p) × Nat × Nat) :=
  match lo, hi with
  | none, none => some (none, 0, len)
  | some (.i _ a), none => some (some ⟨0 ≤ a ∧ a ≤ len, inferInstance⟩, a.toNat, len)
  | none, some (.i _ b) => some (some ⟨0 ≤ b ∧ b ≤ len, inferInstance⟩, 0, b.toNat)
  | some (.i _ a), some (.i _ b) => some (some ⟨0 ≤ a ∧ a ≤ b ∧ b ≤ len, inferInstance⟩, a.toNat, b.toNat)
  | _, _ => none
def mkR (p : Option (PSigma fun p : Prop => Decidable p)) (x : SV) : R :=
  match p with
  | none => .v x
  | some ⟨p, d⟩ => @R.ob p d x
/-- An array of numbers that lies in immutable memory, as a slice. -/
def immInts (nr : NR) (N : Nat) (a : Addr) : R :=
  match nr with
  | .ok (.ints k n xs :: _) => bif Nat.beq n N then .v (.imm Int 0 1 (fun x => [.i k x]) xs (some a) n) else .no
  | @NR.ob p dp (.ints k n xs :: _) => bif Nat.beq n N then @R.ob p dp (.imm Int 0 1 (fun x => [.i k x]) xs (some a) n) else .no
  | _ => .no
def sliceR (T : Tb) (t : TypeId) (x : SV) (lo hi : Option SV) : R :=
  match T t with
  | none => .no
  | some ti => match ti.k with
    | .str => match x with
      | .s l => match boundsR lo hi l.length with
        | some (p, a, b) => mkR p (.s ((l.take b).drop a))
        | none => .no
      | _ => .no
    | .slice e => match x with
      | .imm α d n enc xs a cap => match T e, boundsR lo hi xs.length with
        | some te, some (p, u, v) => bif Nat.beq n te.size then mkR p (.imm α d n enc ((xs.take v).drop u) (if cap = u then a else a.map (·.add (u * n))) (cap - u)) else .no
        | _, _ => .no
      | .nils => match T e, boundsR lo hi 0 with
        | some _, some (p, _, _) => mkR p .nils
        | _, _ => .no
      | .sl k ver off len cap dc => match T e, boundsR lo hi len with
        | some te, some (p, u, v) => match cap with
          | some c => andR (len ≤ c) (mkR p (.sl k ver (if c = u then off else off + u * te.size) (v - u) (some (c - u)) 0))
          | none => .no
        | _, _ => .no
      | _ => .no
    | .array N e => match T e with
      | some te => match x with
        | .ptr k ver off [] => match boundsR lo hi N with
          | some (p, u, v) => mkR p (.sl k ver (if N = u then off else off + u * te.size) (v - u) (some (N - u)) 0)
          | none => .no
        | _ => .no
      | none => .no
    | .ptr arr => match T arr with
      | some ta => match ta.k, lo, hi with
        | .array N e, none, none => match T e with
          | some te => match x with
            | .ptr k ver off [] => .v (.sl k ver off N (some N) 0)
            | .ipt α d n enc xs a j sub ix => bif Nat.beq te.size 1 then immInts (nav (enc (xs.getD j d)) sub ix) N ⟨a.block, a.off + j * n + sub + ofs ix, none⟩ else .no
            | _ => .no
          | none => .no
        | .array N e, lo, hi => match T e with
          | some te => match x with
            | .ptr k ver off [] => match boundsR lo hi N with
              | some (p, u, v) => mkR p (.sl k ver (if N = u then off else off + u * te.size) (v - u) (some (N - u)) 0)
              | none => .no
            | _ => .no
          | none => .no
        | _, _, _ => .no
      | none => .no
    | _ => .no
/-- A row's slice, whose capacity is not known. -/
def sliceH (T : Tb) (h : List SB) (t : TypeId) (k ver off len dc : Nat) (lo hi : Option SV) : R :=
  match T t with
  | some ti => match ti.k with
    | .slice e => match T e with
      | some te => match h.getD k .fresh with
        | .mem _ segs ver' gw => match boundsR lo hi len with
          | some (p, u, v) => andR ((ver = ver' ∧ te.size = gw ∧ 0 < gw) ∧ off = dc * te.size ∧ (dc + len) * te.size ≤ wdL segs) (match lo with
            | none => mkR p (.sl k ver off v none dc)
            | some _ => andR (u < len ∨ dc = 0) (mkR p (.sl k ver (off + u * te.size) (v - u) none (dc + u))))
          | none => .no
        | _ => .no
      | none => .no
    | _ => .no
  | none => .no
def sliceV (T : Tb) (h : List SB) (t : TypeId) (x : SV) (lo hi : Option SV) : R :=
  match x with
  | .sl k ver off len none dc => sliceH T h t k ver off len dc lo hi
  | x => sliceR T t x lo hi
/-- s[:0:0] -/
def slice3R (T : Tb) (t : TypeId) (x : SV) (lo hi mx : Option SV) : R :=
  match lo, hi, mx with
  | none, some (.i _ (.ofNat 0)), some (.i _ (.ofNat 0)) => match T t with
    | some ti => match ti.k with
      | .slice e => match T e with
        | some _ => match x with
          | .sl k ver off len none _ => .ob (off = 0 ∨ 0 < len) (.sl k ver off 0 (some 0) 0)
          | .sl k ver off _ (some _) _ => .v (.sl k ver off 0 (some 0) 0)
          | .nils => .v .nils
          | .imm α d n enc _ a _ => .v (.imm α d n enc [] a 0)
          | _ => .no
        | none => .no
      | _ => .no
    | none => .no
  | _, _, _ => .no
def okCells (x : SV) : Bool := match x with | .agg _ => true | v => isCell v
def spliceC (segs : List SV) (off : Nat) (new : List SV) : Option (List SV) :=
  match takeC segs off with
  | some pre => match dropC segs (wdQ new off) with
    | some post => some (pre ++ new ++ post)
    | none => none
  | none => none
def buildParts (T : Tb) (fs : List (Nat × TypeId)) : List (Nat × SV) → List SV → Option (List SV)
  | [], acc => some acc
  | (i, x) :: r, acc => match fs[i]? with
    | some (o, e) => match T e with
      | some te => bif okCells x && wdB (segsOf x) te.size then (match spliceC acc o (segsOf x) with
        | some acc => buildParts T fs r acc
        | none => none) else none
      | none => none
    | none => none
def buildArr (sz : Nat) : List (Nat × SV) → List SV → Option (List SV)
  | [], acc => some acc
  | (i, x) :: r, acc => bif okCells x && wdB (segsOf x) sz then (match spliceC acc (i * sz) (segsOf x) with
      | some acc => buildArr sz r acc
      | none => none) else none
def packI (k : IntKind) : List SV → Option (List Int)
  | [] => some []
  | .i k' n :: r => bif k == k' then (match packI k r with | some l => some (n :: l) | none => none) else none
  | _ => none
def packA (te : TI) (n : Nat) (cs : List SV) : List SV :=
  match te.k with
  | .int k => bif wdB cs n then (match packI k cs with
    | some xs => [.ints k n xs]
    | none => cs) else cs
  | _ => cs
def packF (f : Bool) (te : TI) (n : Nat) (cs : List SV) : List SV := bif f then cs else packA te n cs
/-- An array's zero value, its elements apart. -/
def zeros (n : Nat) (z : List SV) : List SV :=
  match n with
  | 0 => []
  | n + 1 => z ++ zeros n z
def buildR (T : Tb) (t : TypeId) (parts : List (Nat × SV)) : R :=
  match T t with
  | some ti => match ti.k with
    | .struct fs => match buildParts T fs parts ti.zero with | some cs => .v (.agg cs) | none => .no
    | .array n e => match T e with
      | some te => match buildArr te.size parts (zeros n te.zero) with | some cs => .v (.agg (packF ti.flat te n cs)) | none => .no
      | none => .no
    | _ => .no
  | none => .no
def loadR (T : Tb) (h : List SB) (t : TypeId) (p : SV) : R :=
  match T t with
  | some ti => match p with
    | .ptr k ver off ix => match h.getD k .fresh with
      | .mem _ segs ver' gw => (match gw with | 0 => rdR ti.k.agg ti.size (nav segs off ix) | _ + 1 => andR (ver = ver') (rdR ti.k.agg ti.size (nav segs off ix)))
      | _ => .no
    | .ipt _ d _ enc xs _ j sub ix => rdR ti.k.agg ti.size (nav (enc (xs.getD j d)) sub ix)
    | _ => .no
  | none => .no
def fieldA (T : Tb) (t : TypeId) (p : SV) (f : Nat) : R :=
  match T t with
  | some ti => match ti.k with
    | .struct fs => match fs[f]? with
      | some (o, _) => match p with
        | .ptr k ver off [] => .v (.ptr k ver (off + o) [])
        | .ptr k ver off (x :: ix) => .v (.ptr k ver off (addSub (x :: ix) o))
        | .ipt α d n enc xs a j sub [] => .v (.ipt α d n enc xs a j (sub + o) [])
        | .ipt α d n enc xs a j sub (x :: ix) => .v (.ipt α d n enc xs a j sub (addSub (x :: ix) o))
        | _ => .no
      | none => .no
    | _ => .no
  | none => .no
def nilCk (x : SV) : R :=
  match x with
  | .ptr _ _ _ _ | .ipt _ _ _ _ _ _ _ _ _ | .fn _ _ | .iface _ _ | .bm _ _ => .v x
  | _ => .no
def extR (x : SV) (n : Nat) : R :=
  match x with
  | .tup vs => match vs[n]? with
    | some v => .v v
    | none => .no
  | _ => .no
def assertR (T : Tb) (x : SV) (asserted : TypeId) (commaOk : Bool) : R :=
  match T asserted, x with
  | some ti, .iface t v => match ti.k with
    | .iface _ => .no
    | _ => bif Nat.beq t asserted then (bif commaOk then .v (.tup [v, .b true]) else .v v) else .no
  | _, _ => .no
def liveO (e : Operand → SV) : Option Operand → Bool
  | some o => live (e o)
  | none => true
def pureR (T : Tb) (h : List SB) (e : Operand → SV) : Op → R
  | .move x | .assign x => .v (e x)
  | .load t p => loadR T h t (e p)
  | .nilCheck x => nilCk (e x)
  | .fieldAddr t p f => fieldA T t (e p) f
  | .indexAddr t x ix => addrIx T t (e x) ix (e ix)
  | .index t x ix => indexR T t (e x) (e ix) (constIx ix 18446744073709551616)
  | .field t x f => fieldR T t (e x) f
  | .binOp op t x y _ => binR T op t (isConst x || isConst y) (e x) (e y)
  | .unOp .not _ x => match e x with | .b x => .v (.b (!x)) | _ => .no
  | .unOp .neg _ x => match e x with | .i k n => .v (.i k (k.wrap (0 - n))) | _ => .no
  | .unOp .xor _ x => match e x with | .i k n => .v (.i k (bits .xor k (if k.signed then -1 else k.max) n)) | _ => .no
  | .convert src dst x => convR T src dst (e x)
  | .extract x n => extR (e x) n
  | .build t parts => buildR T t (parts.toList.map fun p => (p.1, e p.2))
  | .makeFunc (.func f) first caps => match first.toList with
    | [] => bif (caps.toList.map e).all live then .v (.fn f (caps.toList.map e)) else .no
    | [o] => match caps.toList with
      | [] => bif live (e o) then .v (.bm f (e o)) else .no
      | _ => .no
    | _ => .no
  | .makeInterface t x => match T t with
    | some ti => match ti.k with
      | .iface _ => .no
      | .other => .no
      | _ => bif live (e x) then .v (.iface t (e x)) else .no
    | none => .no
  | .typeAssert x _ asserted ok => assertR T (e x) asserted ok
  | .slice t x lo hi none => bif liveO e lo && liveO e hi then sliceV T h t (e x) (lo.map e) (hi.map e) else .no
  | .slice t x lo hi (some mx) => bif liveO e lo && liveO e hi && live (e mx) then slice3R T t (e x) (lo.map e) (hi.map e) (some (e mx)) else .no
  | .call c => match c.callee with
    | .builtin .len => match c.args.toList, c.argTypes.toList with
      | [x], [t] => lenR T t (e x)
      | _, _ => .no
    | .builtin .min => bif (c.args.toList.map e).all live then minR false (c.args.toList.map e) else .no
    | .builtin .max => bif (c.args.toList.map e).all live then minR true (c.args.toList.map e) else .no
    | _ => .no
  | _ => .no
end SX
end Go.Proofs.YthkedcneehdinaaGreatDoor

/- SX: what abstract values and states stand for; what is emitted. -/
set_option linter.unusedVariables false
namespace Go.Proofs.YthkedcneehdinaaGreatDoor
namespace SX
open Go

/-- By name and version: the block, and the capacity of a slice over it (none: a nil slice). -/
abbrev Env := Nat → Nat → Option (Nat × Nat)
def Env.blk (E : Env) (k ver : Nat) : Nat := ((E k ver).map (·.1)).getD 0
def E0 : Env := fun _ _ => none
abbrev Mem := Nat → Option Obj

def wrapV (x : SV) (cs : List Value) : Value :=
  match x with
  | .agg _ => .agg cs.toArray
  | _ => cs.headD undef
mutual
def cells (E : Env) : SV → List Value
  | .i k n => [.int k n]
  | .b x => [.bool x]
  | .s l => [.string ⟨⟨l⟩⟩]
  | .raw v => [v]
  | .nils => [.slice none 0 0]
  | .ptr k ver off ix => [.pointer (some ⟨E.blk k ver, off + ofs ix, none⟩)]
  | .ipt _ _ n _ _ a j sub ix => [.pointer (some ⟨a.block, a.off + j * n + sub + ofs ix, none⟩)]
  | .sl k ver off len cap dc => [match E k ver with | some (b, c) => .slice (some ⟨b, if cap = none ∧ len = 0 ∧ c = dc then 0 else off, none⟩) len (cap.getD (c - dc)) | none => .slice none len (cap.getD 0)]
  | .imm _ _ _ _ xs a cap => [.slice a xs.length cap]
  | .ints k _ xs => xs.map (.int k)
  | .arr N _ d _ enc xs => (List.range N).flatMap fun j => cellsL E (enc (xs.getD j d))
  | .fn f caps => [.func (.func f) #[] (denL E caps).toArray]
  | .iface t x => [.iface t (wrapV x (cells E x))]
  | .bm f x => [.func (.func f) #[wrapV x (cells E x)] #[]]
  | .map k => [.map (some (E.blk k 1))]
  | .agg cs => cellsL E cs
  | .tup vs => [.tuple (denL E vs).toArray]
  | .grd _ _ => [undef]
  | .dead => [undef]
def cellsL (E : Env) : List SV → List Value
  | [] => []
  | x :: r => cells E x ++ cellsL E r
def denL (E : Env) : List SV → List Value
  | [] => []
  | x :: r => wrapV x (cells E x) :: denL E r
end
def den (E : Env) (x : SV) : Value := wrapV x (cells E x)

def Vle (V : List Nat) (k ver : Nat) : Prop := ∃ n, V[k]? = some n ∧ ver < n
/-- The cells of an immutable slice lie in immutable memory. -/
def ImmAt (m : Mem) {α : Type} (d : α) (n : Nat) (enc : α → List SV) (xs : List α) (a : Option Addr) : Prop :=
  xs ≠ [] → ∃ ad arr t fr, a = some ad ∧ ad.spot = none ∧ m ad.block = some (.cells arr t fr) ∧
    ∀ j, j < xs.length → ∀ u c, (cellsL E0 (enc (xs.getD j d)))[u]? = some c → arr[ad.off + j * n + u]? = some c
mutual
def Ok (m : Mem) (V : List Nat) : SV → Prop
  | .ptr k ver _ _ => Vle V k ver ∧ ver ≠ 0
  | .ipt _ d n enc xs a j _ _ => j < xs.length ∧ ImmAt m d n enc xs (some a) ∧ (∀ x, wdL (enc x) = n) ∧ ∀ j, j < xs.length → OkL m [] (enc (xs.getD j d))
  | .sl k ver _ len _ _ => Vle V k ver ∧ (ver = 0 → len = 0)
  | .imm _ d n enc xs a cap => xs.length ≤ cap ∧ ImmAt m d n enc xs a ∧ (∀ x, wdL (enc x) = n) ∧ ∀ j, j < xs.length → OkL m [] (enc (xs.getD j d))
  | .ints _ n xs => xs.length = n
  | .arr N _ d n enc xs => xs.length = N ∧ (∀ x, wdL (enc x) = n) ∧ ∀ j, j < N → OkL m V (enc (xs.getD j d))
  | .fn _ caps => OkA m V caps
  | .iface _ x => Ok m V x ∧ live x = true
  | .bm _ x => Ok m V x ∧ live x = true
  | .map k => Vle V k 1
  | .agg cs => OkL m V cs
  | .tup vs => OkA m V vs
  | _ => True
def OkL (m : Mem) (V : List Nat) : List SV → Prop
  | [] => True
  | x :: r => (isUnit x = true ∧ Ok m V x) ∧ OkL m V r
def OkA (m : Mem) (V : List Nat) : List SV → Prop
  | [] => True
  | x :: r => (live x = true ∧ Ok m V x) ∧ OkA m V r
end

/-- What stays as it is beside what is tracked. -/
structure Fr where
  os : Os
  tape : Nat → Question → Nat
  output : Array (Nat × ByteArray)
  F : Mem
  dr : Nat

def vers (H : List SB) : List Nat := H.map SB.lim
/-- A map's entries read as these. -/
def MapHas (E : Env) (kv : List (SV × SV)) (es : List MapEntry) : Prop :=
  es.map (fun e => (e.key, e.val)) = kv.map fun p => (den E p.1, den E p.2)
def Holds (E : Env) (m : Mem) (V : List Nat) (w : World) (k : Nat) : SB → Prop
  | .mem t segs ver 0 => ver = 1 ∧ ∃ b c, E k ver = some (b, c) ∧ w.heap[b]? = some (.cells (cellsL E segs).toArray t (0, 0)) ∧ OkL m V segs
  | .mem t segs ver (gw + 1) => OkL m V segs ∧ (ver = 0 → cellsL E segs = [] ∧ E k 0 = none) ∧ (ver ≠ 0 →
      ∃ b c spare, E k ver = some (b, c) ∧ w.heap[b]? = some (.cells (cellsL E segs ++ spare).toArray t (0, 0)) ∧ (cellsL E segs).length + spare.length = c * (gw + 1) ∧ c ≤ maxLen)
  | .mp kv ver => ver = 1 ∧ ∃ b c es clock, E k 1 = some (b, c) ∧ w.heap[b]? = some (.map es clock) ∧ MapHas E kv es.toList ∧ ∀ p ∈ kv, (Ok m V p.1 ∧ live p.1 = true) ∧ Ok m V p.2 ∧ live p.2 = true
  | .gone _ => True
  | .fresh => True
/-- A live tracked name's block. -/
def blkOf (E : Env) (k b : Nat) : SB → Prop
  | .mem _ _ ver _ => ver ≠ 0 ∧ ∃ c, E k ver = some (b, c)
  | .mp _ ver => ∃ c, E k ver = some (b, c)
  | _ => False
def BlkAt (E : Env) (H : List SB) (k b : Nat) : Prop := ∃ B, H[k]? = some B ∧ blkOf E k b B
/-- A table lies in memory that stays. -/
def TbAt (m : Mem) (g : Nat) : TbV → Prop
  | .ints k zs => ∃ t fr, m g = some (.cells (zs.map (.int k)).toArray t fr)
  | .ifc => ∃ tt v t fr, m g = some (.cells #[.iface tt v] t fr)
  | .anyI k => ∃ n arr t fr, m g = some (.cells arr t fr) ∧ arr[0]? = some (.int k n)
def TbOk (m : Mem) : Prop := ∀ g v, tabs g = some v → TbAt m g v
theorem TbOk.mono {m m' : Mem} (h : TbOk m) (hm : ∀ b o, m b = some o → m' b = some o) : TbOk m' := fun g v hg => by
  have := h g v hg
  cases v with
  | ints k zs => obtain ⟨t, fr, h1⟩ := this; exact ⟨t, fr, hm _ _ h1⟩
  | ifc => obtain ⟨tt, v, t, fr, h1⟩ := this; exact ⟨tt, v, t, fr, hm _ _ h1⟩
  | anyI k => obtain ⟨n, arr, t, fr, h1, h2⟩ := this; exact ⟨n, arr, t, fr, hm _ _ h1, h2⟩
/-- Numbers that were drawn stay drawn (where a seat needs that: 'drKeep'). -/
def DrOk (d n : Nat) : Prop := drKeep = true → d ≤ n
theorem DrOk.refl (n : Nat) : DrOk n n := fun _ => Nat.le_refl n
theorem DrOk.trans {d n m : Nat} (h : DrOk d n) (h' : n ≤ m) : DrOk d m := fun e => Nat.le_trans (h e) h'
structure Rel (E : Env) (C : Fr) (m : Mem) (H : List SB) (w : World) : Prop where
  os : w.os = C.os
  tape : w.tape = C.tape
  output : w.output = C.output ∧ DrOk C.dr w.drawn
  im : ∀ b o, m b = some o → w.heap[b]? = some o
  fr : ∀ b o, C.F b = some o → w.heap[b]? = some o
  mf : (∀ b o, C.F b = some o → m b = none) ∧ TbOk m
  bl : ∀ k B, H[k]? = some B → Holds E m (vers H) w k B
  nn : ∀ k v, Vle (vers H) k v → v ≠ 0 → ∃ b c, E k v = some (b, c)
  sp : ∀ k b, BlkAt E H k b → m b = none ∧ C.F b = none
  inj : ∀ j k b, BlkAt E H j b → BlkAt E H k b → j = k
/-- What a row of guards comes to, as the slots have them (the innermost guard first). -/
inductive GV (t : List SV) : List (Nat × Bool) → Bool → Prop where
  | nil : GV t [] true
  | one {d : Nat} {w v : Bool} : t.getD d .dead = .b v → GV t [(d, w)] (v == w)
  | cons {d : Nat} {w v : Bool} {q : List (Nat × Bool)} {g : Bool} : t.getD d .dead = .grd q (.b v) → GV t q g → GV t ((d, w) :: q) (g && (v == w))
def SlotOk (E : Env) (m : Mem) (V : List Nat) (t : List SV) (v : Value) : SV → Prop
  | .dead => True
  | .grd q y => ∃ g, GV t q g ∧ (g = true → Ok m V y ∧ live y = true ∧ v = den E y) ∧ (g = false → v = undef)
  | x => Ok m V x ∧ v = den E x
structure Rep (E : Env) (C : Fr) (m : Mem) (S : St) (a : Act) (w : World) : Prop where
  sz : a.tmps.size = S.t.length
  sl : ∀ (n : Nat) (x : SV) (v : Value), S.t[n]? = some x → a.tmps[n]? = some v → SlotOk E m (vers S.h) S.t v x
  df : a.defers = []
  rel : Rel E C m S.h w
structure Ext (E : Env) (m : Mem) (V : List Nat) (E' : Env) (m' : Mem) (V' : List Nat) : Prop where
  mm : ∀ b o, m b = some o → m' b = some o
  vv : ∀ k v, Vle V k v → Vle V' k v
  ee : ∀ k v, Vle V k v → E' k v = E k v

/-- From every real state that the abstract one stands for. -/
structure WpC (P : Program) (c : Code) (K : Exit → St → Prop) (S : St) : Prop where
  out : ∀ C E m a w, Rep E C m S a w → c.wp P (fun e a' w' => ∃ E' m' S', K e S' ∧ Ext E m (vers S.h) E' m' (vers S'.h) ∧ Rep E' C m' S' a' w') a w
/-- The exits of an operation: nothing but going on. -/
def onlyN (K : Act → World → Prop) : Exit → Act → World → Prop
  | .normal, a, w => K a w
  | _, _, _ => False
def opW (P : Program) (ops : Array Oper) (o : Oper) (a : Act) (w : World) (K : Act → World → Prop) : Prop :=
  if Region.wanted o (yielded ops a.tmps) then o.wp P a w K (onlyN K) else K (a.put o.dst undef) w
structure OpC (P : Program) (T : Tb) (ops : Array Oper) (o : Oper) (K : St → Prop) (S : St) : Prop where
  out : ∀ C E m a w, Rep E C m S a w → opW P ops o a w (fun a' w' => ∃ E' m' S', K S' ∧ Ext E m (vers S.h) E' m' (vers S'.h) ∧ Rep E' C m' S' a' w')
/-- Something that is run with some values, gives one, and may turn memory. -/
structure Cp (X : List Value → World → (Value → World → Prop) → Prop) (args : List SV) (H : List SB) (K : SV → List SB → Prop) : Prop where
  out : ∀ C E m w, Rel E C m H w → OkA m (vers H) args → X (denL E args) w (fun v w' => ∃ r H' E' m', v = den E' r ∧ K r H' ∧ (Ok m' (vers H') r ∧ live r = true) ∧ Ext E m (vers H) E' m' (vers H') ∧ Rel E' C m' H' w')
def callN (P : Program) (Q : Value → World → Prop) : Result Next → Prop
  | .ok (.value v) w => Q v w
  | .ok (.enter f vs) w => Calls P f vs w (fun e w' => ∃ v, e = .returned v ∧ Q v w')
  | .ok (.row row vs) w => Rows P row vs w Q
  | _ => False
def callX (P : Program) (f : FuncId) (vs : List Value) (w : World) (Q : Value → World → Prop) : Prop :=
  callN P Q ((callFunc f vs.toArray).run P w)
abbrev Ctr (P : Program) (f : FuncId) (args : List SV) (H : List SB) (K : SV → List SB → Prop) : Prop := Cp (callX P f) args H K
/-- A call that hands back a value, and touches nothing that is tracked. -/
abbrev CtrV (P : Program) (f : FuncId) (args : List SV) (r : SV) : Prop := Ctr P f args [] (fun r' h => r' = r ∧ h = [])
structure Br (b : Bool) (A B : Prop) : Prop where
  t : b = true → A
  f : b = false → B
structure Ob (p A : Prop) : Prop where
  ob : p
  k : A
end SX
end Go.Proofs.YthkedcneehdinaaGreatDoor

/- SX: the executor. -/
set_option linter.unusedVariables false
namespace Go.Proofs.YthkedcneehdinaaGreatDoor
namespace SX
open Go

/-- Does a row of guards name a slot? -/
def inG (d : Nat) : List (Nat × Bool) → Bool
  | [] => false
  | (j, _) :: r => Nat.beq j d || inG d r
/-- What hangs on a slot that is set anew is forgotten. -/
def killG (d : Nat) (x : SV) : SV :=
  match x with
  | .grd q y => bif inG d q then .dead else .grd q y
  | x => x
def killL (d : Nat) (l : List SV) : List SV := l.map (killG d)
def forceG (d : Nat) (x : SV) (K : SV → Prop) : Prop :=
  match x with
  | .grd q y => bif inG d q then K .dead else K (.grd q y)
  | x => K x
/-- Slot n is v; what hung on slot d is forgotten. -/
def setK (d : Nat) : List SV → Nat → SV → (List SV → Prop) → Prop
  | x :: xs, n + 1, v, K => forceG d x fun x => setK d xs n v (fun ys => K (x :: ys))
  | _ :: xs, 0, v, K => setR d xs (fun ys => K (v :: ys))
  | [], _, _, K => K []
where
  setR (d : Nat) : List SV → (List SV → Prop) → Prop
  | [], K => K []
  | x :: xs, K => forceG d x fun x => setR d xs fun ys => K (x :: ys)
def setH : List SB → Nat → SB → (List SB → Prop) → Prop
  | x :: xs, n + 1, v, K => setH xs n v (fun ys => K (x :: ys))
  | _ :: xs, 0, v, K => K (v :: xs)
  | [], _, _, K => K []
def appH : List SB → List SB → (List SB → Prop) → Prop
  | [], l, K => K l
  | y :: ys, l, K => appH ys l (fun zs => K (y :: zs))
/-- The value, its head laid open. -/
def force (v : SV) (K : SV → Prop) : Prop :=
  match v with
  | .i k n => K (.i k n)
  | .b x => K (.b x)
  | .s l => K (.s l)
  | .raw v => K (.raw v)
  | .nils => K .nils
  | .ptr k ver off ix => K (.ptr k ver off ix)
  | .ipt α d n enc xs a j sub ix => K (.ipt α d n enc xs a j sub ix)
  | .sl k ver off len cap dc => K (.sl k ver off len cap dc)
  | .imm α d n enc xs a cap => K (.imm α d n enc xs a cap)
  | .ints k n xs => K (.ints k n xs)
  | .arr N α d n enc xs => K (.arr N α d n enc xs)
  | .fn f caps => K (.fn f caps)
  | .iface t x => K (.iface t x)
  | .bm f x => K (.bm f x)
  | .map k => K (.map k)
  | .agg cs => K (.agg cs)
  | .tup vs => K (.tup vs)
  | .grd p x => K (.grd p x)
  | .dead => K .dead
def putK (t : List SV) (h : List SB) (d : Option Nat) (v : SV) (K : St → Prop) : Prop :=
  match d with
  | some d => force v (fun v => setK d t d v (fun t => K ⟨t, h⟩))
  | none => K ⟨t, h⟩

/-- The value of a row of guards. -/
def gB (t : List SV) : List (Nat × Bool) → Bool
  | [] => true
  | (d, w) :: r => match t.getD d .dead with
    | .b v => v == w
    | .grd _ (.b v) => gB t r && (v == w)
    | _ => false
/-- An operation's guard: the guards that it hangs on, the innermost first. -/
def guardOf (ops : Array Oper) (t : List SV) (o : Oper) : Option (List (Nat × Bool)) :=
  match o.guard with
  | none => some []
  | some (j, want) =>
    match (ops[j]?).bind (·.dst) with
    | some d => match t.getD d .dead with
      | .b _ => some [(d, want)]
      | .grd q (.b _) => some ((d, want) :: q)
      | _ => none
    | none => none
def eqP : List (Nat × Bool) → List (Nat × Bool) → Bool
  | [], [] => true
  | (j, b) :: r, (k, c) :: s => Nat.beq j k && (bif b then c else !c) && eqP r s
  | _, _ => false
/-- Is q behind p? -/
def sufx (q : List (Nat × Bool)) : List (Nat × Bool) → Bool
  | [] => eqP q []
  | x :: p => eqP q (x :: p) || sufx q p
/-- An operand's value to an operation that hangs on the guards p. -/
def evG (p : List (Nat × Bool)) (t : List SV) (o : Operand) : SV :=
  match evO t o with
  | .grd q x => bif sufx q p then x else .dead
  | v => v
/-- 'pick c a b': its first value may hang on c saying yes, its second one on c saying no. -/
def pickG (p : List (Nat × Bool)) (t : List SV) (c : Operand) (want : Bool) (o : Operand) : SV :=
  match evO t o with
  | .grd q x => bif sufx q p then x else
    match c, q with
    | .tmp tc, (d, b) :: q' => bif Nat.beq d tc && (bif b then want else !want) && sufx q' p then x else .dead
    | _, _ => .dead
  | v => v
def pickS (p : List (Nat × Bool)) (t : List SV) (c a b : Operand) : R :=
  pickR (evG p t c) (pickG p t c true a) (pickG p t c false b) a b
def wrapG (p : List (Nat × Bool)) (d : Option Nat) (x : SV) : SV :=
  match p with
  | [] => x
  | _ :: _ => bif (match d with | some d => inG d p | none => false) || !live x then .dead else .grd p x
def updU (u : SV) (x : Ix) (r : List Ix) (new : List SV) (rec : List SV → (List SV → Prop) → Prop) (K : SV → Prop) : Prop :=
  match u with
  | .ints k n xs => match r, new with
    | [], [.i k' v] => bif k == k' && Nat.beq x.sz 1 && Nat.beq x.sub 0 then
        (bif x.c then (bif Nat.blt x.i n then K (.ints k n (xs.set x.i v)) else False) else Ob (x.i < n) (K (.ints k n (xs.set x.i v)))) else False
    | _, _ => False
  | .arr N α d n enc xs => bif Nat.beq x.sz n then
      (bif x.c then (bif Nat.blt x.i N then rec (enc (xs.getD x.i d)) (fun e => ∃ y : α, enc y = e ∧ K (.arr N α d n enc (xs.set x.i y))) else False)
      else Ob (x.i < N) (rec (enc (xs.getD x.i d)) (fun e => ∃ y : α, enc y = e ∧ K (.arr N α d n enc (xs.set x.i y))))) else False
  | _ => False
/-- Units with something new laid at a place. -/
def updK (segs : List SV) (off : Nat) (ix : List Ix) (new : List SV) (K : List SV → Prop) : Prop :=
  match ix with
  | [] => match spliceC segs off new with
    | some s => K s
    | none => False
  | x :: r => match takeC segs off, dropC segs off with
    | some pre, some (u :: post) => updU u x r new (fun e K' => updK e x.sub r new K') (fun u' => K (pre ++ u' :: post))
    | _, _ => False

def sop (P : Program) (T : Tb) (ops : Array Oper) (o : Oper) (K : St → Prop) (S : St) : Prop :=
  match S with
  | ⟨t, h⟩ =>
  match guardOf ops t o with
  | none => OpC P T ops o K ⟨t, h⟩
  | some p =>
    match o.op, p with
    | .pick c a b, p => match pickS p t c a b with
      | .v x => putK t h o.dst (wrapG p o.dst x) K
      | _ => OpC P T ops o K ⟨t, h⟩
    | .box ty x, [] => force (evG [] t x) fun v => bif okCells v then appH h [.mem ty (segsOf v) 1 0] (fun h' => putK t h' o.dst (.ptr h.length 1 0 []) K) else False
    | .alloc ty, [] => match T ty with
      | some ti => appH h [.mem ty ti.zero 1 0] (fun h' => putK t h' o.dst (.ptr h.length 1 0 []) K)
      | none => False
    | .buildSlice ty len parts, [] => match T ty with
      | some ti => match ti.k with
        | .slice e => match T e with
          | some te => bif !(Nat.ble (len * te.size) 16777216) || Nat.beq te.size 0 then False else match buildArr te.size (parts.toList.map fun q => (q.1, evG [] t q.2)) (zeros len te.zero) with
            | some segs => appH h [.mem e (packF ti.flat te len segs) 1 0] (fun h' => putK t h' o.dst (.sl h.length 1 0 len (some len) 0) K)
            | none => False
          | none => False
        | _ => False
      | none => False
    | .store ty x v, [] => match T ty, evG [] t x with
      | some ti, .ptr k ver off ix => match h.getD k .fresh with
        | .mem ty' segs ver' gr => force (evG [] t v) fun v => bif okCells v && wdB (segsOf v) ti.size then
            (match gr with
            | 0 => updK segs off ix (segsOf v) fun segs' => setH h k (.mem ty' segs' ver' gr) fun h' => putK t h' o.dst .dead K
            | _ + 1 => Ob (ver = ver') (updK segs off ix (segsOf v) fun segs' => setH h k (.mem ty' segs' ver' gr) fun h' => putK t h' o.dst .dead K)) else False
        | _ => False
      | _, _ => OpC P T ops o K ⟨t, h⟩
    | op, p => match pureR T h (evG p t) op with
      | .v x => putK t h o.dst (wrapG p o.dst x) K
      | @R.ob pr _ x => Ob (gB t p = true → pr) (putK t h o.dst (wrapG p o.dst x) K)
      | .no => OpC P T ops o K ⟨t, h⟩

def sreg (P : Program) (T : Tb) (ops : Array Oper) : List Oper → (St → Prop) → St → Prop
  | [], K, S => K S
  | o :: rest, K, S => sop P T ops o (sreg P T ops rest K) S

/-- A region that draws its order: to be shown by 'WpC.dr'. -/
def sx (P : Program) (T : Tb) : Code → (Exit → St → Prop) → St → Prop
  | .seq a b, K, S => sx P T a (fun e S' => match e with | .normal => sx P T b K S' | e => K e S') S
  | .cond c x y, K, S => match evO S.t c with
    | .b b => Br b (sx P T x K S) (sx P T y K S)
    | _ => False
  | .block id c, K, S => sx P T c (fun e S' => match e with | .exit j => bif Nat.beq j id then K .normal S' else K (.exit j) S' | e => K e S') S
  | .exit id, K, S => K (.exit id) S
  | .ret, K, S => K .ret S
  | .skip, K, S => K .normal S
  | .label _, K, S => K .normal S
  | .region _ ops false, K, S => sreg P T ops ops.toList (K .normal) S
  | c, K, S => WpC P c K S

/-- What a call's results are at a function's end. -/
def resR (T : Tb) (S : St) : ResultVar → Option SV
  | .tmp n => match S.t.getD n .dead with
    | .dead => none
    | .grd _ _ => none
    | x => some x
  | .cell p ty => match loadR T S.h ty (evO S.t (.tmp p)) with
    | .v x => some x
    | _ => none
def resL (T : Tb) (S : St) : List ResultVar → Option (List SV)
  | [] => some []
  | r :: rs => match resR T S r with
    | some x => match resL T S rs with
      | some xs => some (x :: xs)
      | none => none
    | none => none
def retK (T : Tb) (rs : List ResultVar) (K : SV → List SB → Prop) (e : Exit) (S : St) : Prop :=
  match e with
  | .normal => (match resL T S rs with
    | some [x] => K x S.h
    | some xs => K (.tup xs) S.h
    | none => False)
  | .ret => (match resL T S rs with
    | some [x] => K x S.h
    | some xs => K (.tup xs) S.h
    | none => False)
  | _ => False
end SX
end Go.Proofs.YthkedcneehdinaaGreatDoor

/- SX: laws of cells, widths, places. -/
set_option linter.unusedVariables false
namespace Go.Proofs.YthkedcneehdinaaGreatDoor
namespace SX
open Go

theorem flatMap_same {α β : Type} {f g : α → List β} : ∀ {l : List α}, (∀ x ∈ l, f x = g x) → l.flatMap f = l.flatMap g
  | [], _ => rfl
  | x :: l, h => by simp only [List.flatMap_cons, h x (List.mem_cons_self ..), flatMap_same (fun y hy => h y (List.mem_cons_of_mem _ hy))]
mutual
theorem cells_stable {m : Mem} {V : List Nat} {E E' : Env} (hE : ∀ k v, Vle V k v → E' k v = E k v) : ∀ x : SV, Ok m V x → cells E' x = cells E x
  | .i _ _, _ | .b _, _ | .s _, _ | .raw _, _ | .nils, _ | .imm _ _ _ _ _ _ _, _ | .ipt _ _ _ _ _ _ _ _ _, _ | .dead, _ | .grd _ _, _ => by simp [cells]
  | .ptr k ver _ _, h => by simp only [Ok] at h; simp [cells, Env.blk, hE _ _ h.1]
  | .sl k ver _ _ _ _, h => by simp only [Ok] at h; simp [cells, hE _ _ h.1]
  | .ints _ _ _, _ => by simp [cells]
  | .arr N _ d _ enc xs, h => by
    simp only [Ok] at h
    simp only [cells]
    refine flatMap_same fun j hj => ?_
    exact cellsL_stable hE (enc (xs.getD j d)) (h.2.2 j (List.mem_range.1 hj))
  | .fn f caps, h => by simp only [Ok] at h; simp only [cells, denL_stable hE caps h]
  | .iface t x, h => by simp only [Ok] at h; simp only [cells, cells_stable hE x h.1]
  | .bm t x, h => by simp only [Ok] at h; simp only [cells, cells_stable hE x h.1]
  | .map k, h => by simp only [Ok] at h; simp [cells, Env.blk, hE _ _ h]
  | .agg cs, h => by simp only [Ok] at h; simp only [cells, cellsL_stable hE cs h]
  | .tup vs, h => by simp only [Ok] at h; simp only [cells, denL_stable hE vs h]
theorem cellsL_stable {m : Mem} {V : List Nat} {E E' : Env} (hE : ∀ k v, Vle V k v → E' k v = E k v) : ∀ l : List SV, OkL m V l → cellsL E' l = cellsL E l
  | [], _ => rfl
  | x :: r, h => by simp only [OkL] at h; simp only [cellsL, cells_stable hE x h.1.2, cellsL_stable hE r h.2]
theorem denL_stable {m : Mem} {V : List Nat} {E E' : Env} (hE : ∀ k v, Vle V k v → E' k v = E k v) : ∀ l : List SV, OkA m V l → denL E' l = denL E l
  | [], _ => rfl
  | x :: r, h => by simp only [OkA] at h; simp only [denL, cells_stable hE x h.1.2, denL_stable hE r h.2]
end
theorem den_stable {m : Mem} {V : List Nat} {E E' : Env} (hE : ∀ k v, Vle V k v → E' k v = E k v) (x : SV) (h : Ok m V x) : den E' x = den E x := by
  simp only [den, cells_stable hE x h]

theorem ImmAt.mono {m m' : Mem} (hm : ∀ b o, m b = some o → m' b = some o) {α : Type} {d : α} {n : Nat} {enc : α → List SV} {xs : List α} {a : Option Addr} (h : ImmAt m d n enc xs a) : ImmAt m' d n enc xs a :=
  fun hx => let ⟨ad, arr, t, fr, h1, h2, h3, h4⟩ := h hx; ⟨ad, arr, t, fr, h1, h2, hm _ _ h3, h4⟩
mutual
theorem Ok.mono {m m' : Mem} (hm : ∀ b o, m b = some o → m' b = some o) : ∀ (x : SV) (V V' : List Nat), (∀ k v, Vle V k v → Vle V' k v) → Ok m V x → Ok m' V' x
  | .i _ _, _, _, _, _ | .b _, _, _, _, _ | .s _, _, _, _, _ | .raw _, _, _, _, _ | .nils, _, _, _, _ | .dead, _, _, _, _ | .grd _ _, _, _, _, _ => by simp [Ok]
  | .ptr _ _ _ _, _, _, hV, h => by simp only [Ok] at h ⊢; exact ⟨hV _ _ h.1, h.2⟩
  | .sl _ _ _ _ _ _, _, _, hV, h => by simp only [Ok] at h ⊢; exact ⟨hV _ _ h.1, h.2⟩
  | .map _, _, _, hV, h => by simp only [Ok] at h ⊢; exact hV _ _ h
  | .ints _ _ _, _, _, _, h => by simp only [Ok] at h ⊢; exact h
  | .imm _ d n enc xs a cap, _, _, _, h => by
    simp only [Ok] at h ⊢
    exact ⟨h.1, h.2.1.mono hm, h.2.2.1, fun j hj => OkL.mono hm _ [] [] (fun _ _ h => h) (h.2.2.2 j hj)⟩
  | .ipt _ d n enc xs a j sub ix, _, _, _, h => by
    simp only [Ok] at h ⊢
    exact ⟨h.1, h.2.1.mono hm, h.2.2.1, fun j hj => OkL.mono hm _ [] [] (fun _ _ h => h) (h.2.2.2 j hj)⟩
  | .arr N _ d n enc xs, V, V', hV, h => by
    simp only [Ok] at h ⊢
    exact ⟨h.1, h.2.1, fun j hj => OkL.mono hm _ V V' hV (h.2.2 j hj)⟩
  | .fn _ caps, V, V', hV, h => by simp only [Ok] at h ⊢; exact OkA.mono hm caps V V' hV h
  | .iface _ x, V, V', hV, h => by simp only [Ok] at h ⊢; exact ⟨Ok.mono hm x V V' hV h.1, h.2⟩
  | .bm _ x, V, V', hV, h => by simp only [Ok] at h ⊢; exact ⟨Ok.mono hm x V V' hV h.1, h.2⟩
  | .agg cs, V, V', hV, h => by simp only [Ok] at h ⊢; exact OkL.mono hm cs V V' hV h
  | .tup vs, V, V', hV, h => by simp only [Ok] at h ⊢; exact OkA.mono hm vs V V' hV h
theorem OkL.mono {m m' : Mem} (hm : ∀ b o, m b = some o → m' b = some o) : ∀ (l : List SV) (V V' : List Nat), (∀ k v, Vle V k v → Vle V' k v) → OkL m V l → OkL m' V' l
  | [], _, _, _, _ => by simp [OkL]
  | x :: r, V, V', hV, h => by simp only [OkL] at h ⊢; exact ⟨⟨h.1.1, Ok.mono hm x V V' hV h.1.2⟩, OkL.mono hm r V V' hV h.2⟩
theorem OkA.mono {m m' : Mem} (hm : ∀ b o, m b = some o → m' b = some o) : ∀ (l : List SV) (V V' : List Nat), (∀ k v, Vle V k v → Vle V' k v) → OkA m V l → OkA m' V' l
  | [], _, _, _, _ => by simp [OkA]
  | x :: r, V, V', hV, h => by simp only [OkA] at h ⊢; exact ⟨⟨h.1.1, Ok.mono hm x V V' hV h.1.2⟩, OkA.mono hm r V V' hV h.2⟩
end

mutual
theorem length_cells {m : Mem} (E : Env) : ∀ (x : SV) (V : List Nat), isUnit x = true → Ok m V x → (cells E x).length = wd x
  | .i _ _, _, _, _ | .b _, _, _, _ | .s _, _, _, _ | .raw _, _, _, _ | .nils, _, _, _ | .imm _ _ _ _ _ _ _, _, _, _ | .ipt _ _ _ _ _ _ _ _ _, _, _, _ | .ptr _ _ _ _, _, _, _ | .sl _ _ _ _ _ _, _, _, _ | .fn _ _, _, _, _ | .iface _ _, _, _, _ | .bm _ _, _, _, _ | .map _, _, _, _ => by simp [cells, wd]
  | .dead, _, hu, _ => by simp [isUnit] at hu
  | .agg _, _, hu, _ => by simp [isUnit] at hu
  | .tup _, _, hu, _ => by simp [isUnit] at hu
  | .grd _ _, _, hu, _ => by simp [isUnit] at hu
  | .ints _ n xs, _, _, h => by simp only [Ok] at h; simp [cells, wd, h]
  | .arr N _ d n enc xs, V, _, h => by
    simp only [Ok] at h
    simp only [cells, wd, List.length_flatMap]
    have : (List.range N).map (fun j => (cellsL E (enc (xs.getD j d))).length) = List.replicate N n := by
      apply List.ext_getElem
      · simp
      · intro j h1 h2
        simp only [List.getElem_map, List.getElem_range, List.getElem_replicate]
        rw [length_cellsL E _ V (h.2.2 j (by simpa using h1)), h.2.1]
    rw [this]
    simp
theorem length_cellsL {m : Mem} (E : Env) : ∀ (l : List SV) (V : List Nat), OkL m V l → (cellsL E l).length = wdL l
  | [], _, _ => by simp [cellsL, wdL]
  | x :: r, V, h => by simp only [OkL] at h; simp only [cellsL, wdL, List.length_append, length_cells E x V h.1.1 h.1.2, length_cellsL E r V h.2]
end
theorem cellsL_append (E : Env) : ∀ a b : List SV, cellsL E (a ++ b) = cellsL E a ++ cellsL E b
  | [], b => by simp [cellsL]
  | x :: a, b => by simp only [List.cons_append, cellsL, cellsL_append E a b, List.append_assoc]
theorem OkL_append {m : Mem} {V : List Nat} : ∀ {a b : List SV}, OkL m V (a ++ b) ↔ OkL m V a ∧ OkL m V b
  | [], b => by simp [OkL]
  | x :: a, b => by simp only [List.cons_append, OkL, OkL_append (a := a) (b := b), and_assoc]
/-- Units, part in two. -/
theorem dropC_spec : ∀ {l : List SV} {n : Nat} {r : List SV}, dropC l n = some r → ∃ p, l = p ++ r ∧ wdL p = n
  | l, 0, r, h => by simp [dropC] at h; exact ⟨[], by simp [h], rfl⟩
  | [], n + 1, r, h => by simp [dropC] at h
  | x :: xs, n + 1, r, h => by
    simp only [dropC] at h
    cases hb : Nat.ble (wd x) (n + 1) with
    | false => simp [hb] at h
    | true =>
      simp only [hb, cond_true] at h
      obtain ⟨p, hp, hw⟩ := dropC_spec h
      have := Nat.le_of_ble_eq_true hb
      exact ⟨x :: p, by simp [hp], by simp only [wdL, hw]; omega⟩
theorem takeC_spec : ∀ {l : List SV} {n : Nat} {p : List SV}, takeC l n = some p → ∃ r, l = p ++ r ∧ wdL p = n
  | l, 0, r, h => by
    have h' : r = [] := by cases l <;> simpa [takeC, eq_comm] using h
    exact ⟨l, by simp [h'], by simp [h', wdL]⟩
  | [], n + 1, r, h => by simp [takeC] at h
  | x :: xs, n + 1, p, h => by
    simp only [takeC] at h
    cases hb : Nat.ble (wd x) (n + 1) with
    | false => simp [hb] at h
    | true =>
      simp only [hb, cond_true] at h
      have := Nat.le_of_ble_eq_true hb
      cases ht : takeC xs (n + 1 - wd x) with
      | none => simp [ht] at h
      | some q =>
        simp only [ht, Option.some.injEq] at h
        obtain ⟨r, hr, hw⟩ := takeC_spec ht
        exact ⟨r, by simp [hr, ← h], by rw [← h]; simp only [wdL, hw]; omega⟩
end SX
end Go.Proofs.YthkedcneehdinaaGreatDoor

/- SX: what is known of types; reading memory. -/
set_option linter.unusedVariables false
set_option linter.unusedSimpArgs false
namespace Go.Proofs.YthkedcneehdinaaGreatDoor
namespace SX
open Go

/-! ### Types -/
def kokB (P : Program) : TK → TypeDesc → Bool
  | .bool, .bool => true
  | .int k, .int k' => k == k'
  | .str, .string => true
  | .ptr e, .pointer e' => Nat.beq e e'
  | .slice e, .slice e' => Nat.beq e e'
  | .map k v, .map k' v' => Nat.beq k k' && Nat.beq v v'
  | .struct fs, .struct fields => decide (fields.toList.map (fun f => (f.offset, f.type)) = fs) && fields.toList.all fun f => match P.info? f.type with | some i => !(Nat.beq i.size 0) | none => false
  | .array n e, .array n' e' => Nat.beq n n' && Nat.beq e e'
  | .func, .func _ _ _ => true
  | .iface nm, .interface ms => nm == !ms.isEmpty
  | .other, .struct _ => false
  | .other, .array _ _ => false
  | .other, .interface _ => false
  | .other, _ => true
  | _, _ => false
structure TiOk (P : Program) (t : TypeId) (ti : TI) : Prop where
  info : (P.info? t).map (fun i => (i.size, i.bytes, i.zero.map fun z => z.cells.toList)) = some (ti.size, ti.bytes, some (cellsL E0 ti.zero))
  zok : OkL (fun _ => none) [] ti.zero
  zw : wdL ti.zero = ti.size
  kok : (match P.underlying t with | some d => kokB P ti.k d | none => false) = true
def TOk (P : Program) (T : Tb) : Prop := ∀ t ti, T t = some ti → TiOk P t ti

section
variable {P : Program} {t : TypeId} {ti : TI}
theorem TiOk.inf (h : TiOk P t ti) : ∃ i z, P.info? t = some i ∧ i.size = ti.size ∧ i.bytes = ti.bytes ∧ i.zero = some z ∧ z.cells.toList = cellsL E0 ti.zero := by
  have h1 := h.info
  cases hi : P.info? t with
  | none => simp [hi] at h1
  | some i =>
    simp only [hi, Option.map_some, Option.some.injEq, Prod.mk.injEq] at h1
    obtain ⟨h2, h3, h4⟩ := h1
    cases hz : i.zero with
    | none => simp [hz] at h4
    | some z =>
      simp only [hz, Option.map_some, Option.some.injEq] at h4
      exact ⟨i, z, rfl, h2, h3, hz, h4⟩
theorem TiOk.desc (h : TiOk P t ti) : ∃ d, P.underlying t = some d ∧ kokB P ti.k d = true := by
  have h1 := h.kok
  cases hi : P.underlying t with
  | none => simp [hi] at h1
  | some d => exact ⟨d, rfl, by simpa [hi] using h1⟩
theorem TiOk.run_sizeOf (h : TiOk P t ti) (w : World) : (sizeOf t).run P w = .ok ti.size w := by
  obtain ⟨i, z, hi, hs, _⟩ := h.inf
  simp [sizeOf, typeInfo, hi, hs]
theorem TiOk.run_typeInfo (h : TiOk P t ti) (w : World) : ∃ i, (typeInfo t).run P w = .ok i w ∧ i.bytes = ti.bytes := by
  obtain ⟨i, z, hi, hs, hb, _⟩ := h.inf
  exact ⟨i, by simp [typeInfo, hi], hb⟩
theorem TiOk.run_zero (h : TiOk P t ti) (w : World) : ∃ z, (zeroValue t).run P w = .ok z w ∧ z.cells.toList = cellsL E0 ti.zero := by
  obtain ⟨i, z, hi, hs, hb, hz, hc⟩ := h.inf
  exact ⟨z, by simp [zeroValue, typeInfo, hi, hz], hc⟩
theorem run_underlying' {d : TypeDesc} (h : P.underlying t = some d) (w : World) : (underlying t).run P w = .ok d w := by simp [underlying, h]
theorem TiOk.run_isAgg (h : TiOk P t ti) (w : World) : (isAgg t).run P w = .ok ti.k.agg w := by
  obtain ⟨d, hd, hk⟩ := h.desc
  simp only [isAgg, Sem.run_bind, run_underlying' hd, Result.andThen_ok]
  cases hkk : ti.k <;> cases d <;> simp [hkk, kokB, TK.agg] at hk ⊢
theorem TiOk.slice (h : TiOk P t ti) {e : TypeId} (hk : ti.k = .slice e) : P.underlying t = some (.slice e) := by
  obtain ⟨d, hd, hh⟩ := h.desc
  cases d <;> simp [hk, kokB] at hh
  subst hh; exact hd
theorem TiOk.array (h : TiOk P t ti) {n : Nat} {e : TypeId} (hk : ti.k = .array n e) : P.underlying t = some (.array n e) := by
  obtain ⟨d, hd, hh⟩ := h.desc
  cases d <;> simp [hk, kokB] at hh
  obtain ⟨h1, h2⟩ := hh; subst h1; subst h2; exact hd
theorem TiOk.ptr (h : TiOk P t ti) {e : TypeId} (hk : ti.k = .ptr e) : P.underlying t = some (.pointer e) := by
  obtain ⟨d, hd, hh⟩ := h.desc
  cases d <;> simp [hk, kokB] at hh
  subst hh; exact hd
theorem TiOk.int (h : TiOk P t ti) {k : IntKind} (hk : ti.k = .int k) : P.underlying t = some (.int k) := by
  obtain ⟨d, hd, hh⟩ := h.desc
  cases d <;> simp [hk, kokB] at hh
  subst hh; exact hd
theorem TiOk.str (h : TiOk P t ti) (hk : ti.k = .str) : P.underlying t = some .string := by
  obtain ⟨d, hd, hh⟩ := h.desc
  cases d <;> simp [hk, kokB] at hh
  exact hd
theorem TiOk.struct (h : TiOk P t ti) {fs : List (Nat × TypeId)} (hk : ti.k = .struct fs) : ∃ fields, P.underlying t = some (.struct fields) ∧ fields.toList.map (fun f => (f.offset, f.type)) = fs ∧ ∀ f ∈ fields.toList, ∃ i, P.info? f.type = some i ∧ i.size ≠ 0 := by
  obtain ⟨d, hd, hh⟩ := h.desc
  cases d <;> simp [hk, kokB] at hh
  rename_i fields
  refine ⟨fields, hd, hh.1, fun f hf => ?_⟩
  have h2 := hh.2
  obtain ⟨j, hj, he⟩ := List.mem_iff_getElem.1 hf
  have := h2 j (by simpa using hj)
  simp only [Array.getElem_toList] at he
  rw [he] at this
  cases hi : P.info? f.type with
  | none => simp [hi] at this
  | some i =>
    refine ⟨i, rfl, fun e => ?_⟩
    simp [hi, e] at this
end

/-! ### Places -/
theorem add_plain' (b o j : Nat) : (⟨b, o, none⟩ : Addr).add j = ⟨b, o + j, none⟩ := by unfold Addr.add; split <;> simp_all
theorem add_none {a : Addr} (h : a.spot = none) (j : Nat) : a.add j = ⟨a.block, a.off + j, none⟩ := by
  obtain ⟨b, o, s⟩ := a; simp at h; subst h; exact add_plain' b o j

def NR.To (r : NR) (l : List SV) : Prop := r = .ok l ∨ ∃ p d, r = @NR.ob p d l ∧ p
@[simp] theorem NR.To_ok {a l : List SV} : (NR.ok a).To l ↔ a = l := by simp [NR.To]
@[simp] theorem NR.To_ob {p : Prop} {d : Decidable p} {a l : List SV} : (@NR.ob p d a).To l ↔ p ∧ a = l := by
  constructor
  · rintro (h | ⟨q, _, h, hq⟩)
    · cases h
    · cases h; exact ⟨hq, rfl⟩
  · rintro ⟨hp, rfl⟩; exact .inr ⟨p, d, rfl, hp⟩
@[simp] theorem NR.To_no {l : List SV} : (NR.no).To l ↔ False := by simp [NR.To]
theorem flatMap_at {α : Type} (f : Nat → List α) (n : Nat) : ∀ (N s i u : Nat) (c : α), (∀ j, s ≤ j → j < s + N → (f j).length = n) → i < N → (f (s + i))[u]? = some c → ((List.range' s N).flatMap f)[i * n + u]? = some c
  | 0, _, _, _, _, _, hi, _ => by omega
  | N + 1, s, 0, u, c, hl, _, hc => by
    have hu : u < (f s).length := by have := (List.getElem?_eq_some_iff.1 hc).1; simpa using this
    simp only [List.range'_succ, List.flatMap_cons, Nat.zero_mul, Nat.zero_add]
    rw [List.getElem?_append_left hu]
    simpa using hc
  | N + 1, s, i + 1, u, c, hl, hi, hc => by
    have h0 := hl s (Nat.le_refl _) (by omega)
    simp only [List.range'_succ, List.flatMap_cons]
    rw [List.getElem?_append_right (by rw [h0]; rw [Nat.add_mul]; omega)]
    have := flatMap_at f n N (s + 1) i u c (fun j h1 h2 => hl j (by omega) (by omega)) (by omega) (by rw [show s + 1 + i = s + (i + 1) by omega]; exact hc)
    rw [h0, show (i + 1) * n + u - n = i * n + u by rw [Nat.add_mul]; omega]
    exact this
theorem cells_arr_at {m : Mem} {V : List Nat} {E : Env} {N : Nat} {α : Type} {d : α} {n : Nat} {enc : α → List SV} {xs : List α} (h : Ok m V (.arr N α d n enc xs)) {i u : Nat} {c : Value} (hi : i < N)
    (hc : (cellsL E (enc (xs.getD i d)))[u]? = some c) : (cells E (.arr N α d n enc xs))[i * n + u]? = some c := by
  simp only [Ok] at h
  simp only [cells, List.range_eq_range']
  refine flatMap_at (fun j => cellsL E (enc (xs.getD j d))) n N 0 i u c (fun j _ hj => ?_) hi (by simpa using hc)
  show (cellsL E (enc (xs.getD j d))).length = n
  rw [length_cellsL E _ V (h.2.2 j (by omega)), h.2.1]
theorem dropC_cells {m : Mem} {V : List Nat} (E : Env) {l r : List SV} {n : Nat} (h : dropC l n = some r) (hl : OkL m V l) : OkL m V r ∧ ∀ u c, (cellsL E r)[u]? = some c → (cellsL E l)[n + u]? = some c := by
  obtain ⟨p, hp, hw⟩ := dropC_spec h
  subst hp
  have := OkL_append.1 hl
  refine ⟨this.2, fun u c hc => ?_⟩
  have hlen := length_cellsL E p V this.1
  rw [cellsL_append, List.getElem?_append_right (by omega), hlen, hw, show n + u - n = u by omega]
  exact hc
theorem stepU_spec {m : Mem} {V : List Nat} {E : Env} {u : SV} {x : Ix} {l : List SV} (h : (stepU u x).To l) (hu : Ok m V u) :
    OkL m V l ∧ ∀ j c, (cellsL E l)[j]? = some c → (cells E u)[x.i * x.sz + x.sub + j]? = some c := by
  obtain ⟨xc, xi, xsz, xsub⟩ := x
  cases u <;> try (simp [stepU] at h; done)
  case ints k n xs =>
    simp only [stepU] at h
    by_cases h1 : Nat.beq xsz 1 = true
    · by_cases h2 : Nat.beq xsub 0 = true
      · have e1 := Nat.eq_of_beq_eq_true h1
        have e2 := Nat.eq_of_beq_eq_true h2
        subst e1; subst e2
        have hlt : xi < n ∧ l = [.i k (xs.getD xi 0)] := by
          cases xc with
          | true =>
            cases h3 : Nat.blt xi n with
            | true =>
              have := Nat.le_of_ble_eq_true h3
              simp [h3] at h
              exact ⟨by omega, by simp [← h]⟩
            | false => simp [h3] at h
          | false => simp at h; exact ⟨h.1, by simp [← h.2]⟩
        obtain ⟨hlt, rfl⟩ := hlt
        simp only [Ok] at hu
        refine ⟨by simp [OkL, Ok, isUnit], fun j c hc => ?_⟩
        simp only [cellsL, cells, List.append_nil] at hc
        have hj : j = 0 := by
          have := (List.getElem?_eq_some_iff.1 hc).1
          simp at this; exact this
        subst hj
        simp at hc
        have hx : xi < xs.length := by omega
        simp [cells, hx, ← hc]
      · simp [h1, h2] at h
    · simp [h1] at h
  case arr N α d n enc xs =>
    simp only [stepU] at h
    by_cases h1 : Nat.beq xsz n = true
    · have e1 := Nat.eq_of_beq_eq_true h1
      subst e1
      simp only [h1, cond_true] at h
      cases hd : dropC (enc (xs.getD xi d)) xsub with
      | none => rw [hd] at h; simp at h
      | some l' =>
        simp only [hd] at h
        have hlt : xi < N ∧ l = l' := by
          cases xc with
          | true =>
            cases h3 : Nat.blt xi N with
            | true =>
              have := Nat.le_of_ble_eq_true h3
              simp [h3] at h
              exact ⟨by omega, by simp [← h]⟩
            | false => simp [h3] at h
          | false => simp at h; exact ⟨h.1, by simp [← h.2]⟩
        obtain ⟨hlt, rfl⟩ := hlt
        have hu' := hu
        simp only [Ok] at hu'
        obtain ⟨o1, o2⟩ := dropC_cells E hd (hu'.2.2 xi hlt)
        refine ⟨o1, fun j c hc => ?_⟩
        show (cells E (.arr N α d xsz enc xs))[xi * xsz + xsub + j]? = some c
        rw [Nat.add_assoc]
        exact cells_arr_at hu hlt (o2 j c hc)
    · simp [h1] at h
theorem stepU_lt {u : SV} {x : Ix} {l : List SV} (h : (stepU u x).To l) : x.i < unitN u := by
  obtain ⟨xc, xi, xsz, xsub⟩ := x
  cases u <;> try (simp [stepU] at h; done)
  case ints k n xs =>
    simp only [stepU] at h
    cases hb : (Nat.beq xsz 1 && Nat.beq xsub 0) with
    | false => simp [hb] at h
    | true =>
      simp only [hb, cond_true] at h
      cases xc with
      | true =>
        cases h3 : Nat.blt xi n with
        | true => exact Nat.le_of_ble_eq_true h3
        | false => simp [h3] at h
      | false => simp at h; exact h.1
  case arr N α d n enc xs =>
    simp only [stepU] at h
    cases hb : Nat.beq xsz n with
    | false => simp [hb] at h
    | true =>
      simp only [hb, cond_true] at h
      split at h
      · cases xc with
        | true =>
          cases h3 : Nat.blt xi N with
          | true => exact Nat.le_of_ble_eq_true h3
          | false => simp [h3] at h
        | false => simp at h; exact h.1
      · simp at h
theorem navI_spec {m : Mem} {V : List Nat} {E : Env} : ∀ {ix : List Ix} {l0 l : List SV}, (navI l0 ix).To l → OkL m V l0 → OkL m V l ∧ ∀ j c, (cellsL E l)[j]? = some c → (cellsL E l0)[ofs ix + j]? = some c
  | [], l0, l, h, h0 => by
    have : l0 = l := by cases l0 <;> simpa [navI] using h
    subst this
    exact ⟨h0, fun j c hc => by simpa [ofs] using hc⟩
  | x :: r, [], l, h, _ => by simp [navI] at h
  | x :: r, u :: l0, l, h, h0 => by
    simp only [OkL] at h0
    have key : ∃ l1, (stepU u x).To l1 ∧ (navI l1 r).To l := by
      simp only [navI] at h
      cases hs : stepU u x with
      | no => simp [hs] at h
      | ok l1 => exact ⟨l1, by simp, by simpa [hs] using h⟩
      | ob p l1 =>
        simp only [hs] at h
        cases hn : navI l1 r with
        | no => simp [hn] at h
        | ok z => simp [hn] at h; exact ⟨l1, by simp [h.1], by simp [hn, h.2]⟩
        | ob q z => simp [hn] at h; exact ⟨l1, by simp [h.1.1], by simp [hn, h.1.2, h.2]⟩
    obtain ⟨l1, h1, h2⟩ := key
    obtain ⟨o1, c1⟩ := stepU_spec (E := E) h1 h0.1.2
    obtain ⟨o2, c2⟩ := navI_spec (E := E) h2 o1
    refine ⟨o2, fun j c hc => ?_⟩
    have h3 := c1 _ _ (c2 j c hc)
    have hlt : x.i * x.sz + x.sub + (ofs r + j) < (cells E u).length := (List.getElem?_eq_some_iff.1 h3).1
    simp only [ofs, cellsL, Nat.add_assoc]
    rw [List.getElem?_append_left (by omega)]
    rw [← h3]; congr 1; omega
theorem nav_spec {m : Mem} {V : List Nat} {E : Env} {segs l : List SV} {off : Nat} {ix : List Ix} (h : (nav segs off ix).To l) (h0 : OkL m V segs) :
    OkL m V l ∧ ∀ j c, (cellsL E l)[j]? = some c → (cellsL E segs)[off + ofs ix + j]? = some c := by
  unfold nav at h
  cases hd : dropC segs off with
  | none => simp [hd] at h
  | some l1 =>
    simp only [hd] at h
    obtain ⟨o1, c1⟩ := dropC_cells E hd h0
    obtain ⟨o2, c2⟩ := navI_spec (E := E) h o1
    exact ⟨o2, fun j c hc => by rw [Nat.add_assoc]; exact c1 _ _ (c2 j c hc)⟩
end SX
end Go.Proofs.YthkedcneehdinaaGreatDoor

/- SX: what the pure operations come to. -/
set_option linter.unusedVariables false
set_option linter.unusedSimpArgs false
namespace Go.Proofs.YthkedcneehdinaaGreatDoor
namespace SX
open Go

def R.To (r : R) (x : SV) : Prop := r = .v x ∨ ∃ p d, r = @R.ob p d x ∧ p
@[simp] theorem R.To_v {a x : SV} : (R.v a).To x ↔ a = x := by simp [R.To]
@[simp] theorem R.To_ob {p : Prop} {d : Decidable p} {a x : SV} : (@R.ob p d a).To x ↔ p ∧ a = x := by
  constructor
  · rintro (h | ⟨q, _, h, hq⟩)
    · cases h
    · cases h; exact ⟨hq, rfl⟩
  · rintro ⟨hp, rfl⟩; exact .inr ⟨p, d, rfl, hp⟩
@[simp] theorem R.To_no {x : SV} : (R.no).To x ↔ False := by simp [R.To]
theorem andR_To {p : Prop} [Decidable p] {r : R} {x : SV} (h : (andR p r).To x) : p ∧ r.To x := by
  cases r <;> simp [andR] at h ⊢
  · exact h
  · exact ⟨h.1.1, h.1.2, h.2⟩
/-- Good, and no guard, not forgotten. -/
def Gd (m : Mem) (V : List Nat) (x : SV) : Prop := Ok m V x ∧ live x = true
theorem rdR_To {agg : Bool} {size : Nat} {nr : NR} {x : SV} (h : (rdR agg size nr).To x) : ∃ l, nr.To l ∧ rdT agg size l = some x := by
  cases nr with
  | no => simp [rdR] at h
  | ok l =>
    simp only [rdR] at h
    cases hr : rdT agg size l with
    | none => simp [hr] at h
    | some y => simp [hr] at h; exact ⟨l, by simp, by rw [hr, h]⟩
  | ob p l =>
    simp only [rdR] at h
    cases hr : rdT agg size l with
    | none => simp [hr] at h
    | some y => simp [hr] at h; exact ⟨l, by simp [h.1], by rw [hr, h.2]⟩

theorem den_cell {E : Env} {x : SV} (h : isCell x = true) : cells E x = [den E x] := by
  cases x <;> simp [isCell] at h <;> simp [den, wrapV, cells]
theorem isCell_live {x : SV} (h : isCell x = true) : live x = true := by cases x <;> simp [isCell] at h <;> rfl
theorem den_agg (E : Env) (cs : List SV) : den E (.agg cs) = .agg (cellsL E cs).toArray := by simp [den, wrapV, cells]
theorem Gd.agg {m : Mem} {V : List Nat} {cs : List SV} (h : OkL m V cs) : Gd m V (.agg cs) := ⟨by simp only [Ok]; exact h, rfl⟩

/-- What is read out of units, as cells. -/
theorem rdT_agg {m : Mem} {V : List Nat} {E : Env} {size : Nat} {l : List SV} {x : SV} (h : rdT true size l = some x) (hl : OkL m V l) :
    ∃ cs : List SV, x = .agg cs ∧ OkL m V cs ∧ (cellsL E cs).length = size ∧ ∀ (u : Nat) (c : Value), (cellsL E cs)[u]? = some c → (cellsL E l)[u]? = some c := by
  simp only [rdT, cond_true] at h
  cases ht : takeC l size with
  | none => simp [ht] at h
  | some cs =>
    simp only [ht, Option.some.injEq] at h
    obtain ⟨r, hr, hw⟩ := takeC_spec ht
    subst hr
    have ho := OkL_append.1 hl
    refine ⟨cs, h.symm, ho.1, by rw [length_cellsL E cs V ho.1, hw], fun u c hc => ?_⟩
    rw [cellsL_append, List.getElem?_append_left (List.getElem?_eq_some_iff.1 hc).1]
    exact hc
theorem rdT_cell {m : Mem} {V : List Nat} {E : Env} {size : Nat} {l : List SV} {x : SV} (h : rdT false size l = some x) (hl : OkL m V l) :
    Gd m V x ∧ isCell x = true ∧ (cellsL E l)[0]? = some (den E x) := by
  simp only [rdT, cond_false] at h
  cases l with
  | nil => simp at h
  | cons y r =>
    simp only at h
    cases hc : isCell y with
    | false => simp [hc] at h
    | true =>
      simp only [hc, cond_true, Option.some.injEq] at h
      subst h
      simp only [OkL] at hl
      exact ⟨⟨hl.1.2, isCell_live hc⟩, hc, by simp [cellsL, den_cell hc]⟩
theorem rdT_Gd {m : Mem} {V : List Nat} {agg : Bool} {size : Nat} {l : List SV} {x : SV} (h : rdT agg size l = some x) (hl : OkL m V l) : Gd m V x := by
  cases agg with
  | true => obtain ⟨cs, rfl, ho, _⟩ := rdT_agg (E := E0) h hl; exact .agg ho
  | false => exact (rdT_cell (E := E0) h hl).1
/-- A variable whose cells lie in memory is read. -/
theorem run_loadVar_at {P : Program} {t : TypeId} {ti : TI} (hti : TiOk P t ti) {m : Mem} {V : List Nat} {E : Env} {l : List SV} {x : SV} {w : World} {b o : Nat}
    (hl : OkL m V l) (hat : ∀ u c, (cellsL E l)[u]? = some c → w.cell? ⟨b, o + u, none⟩ = some c) (h : rdT ti.k.agg ti.size l = some x) :
    (loadVar t ⟨b, o, none⟩).run P w = .ok (den E x) w := by
  cases ha : ti.k.agg with
  | true =>
    rw [ha] at h
    obtain ⟨cs, rfl, ho, hlen, hc⟩ := rdT_agg (E := E) h hl
    have := run_loadCells_list (P := P) w ⟨b, o, none⟩ (cellsL E cs) (fun j v hv => by rw [add_plain']; exact hat _ _ (hc _ _ hv))
    rw [hlen] at this
    simp only [loadVar, Sem.run_bind, hti.run_isAgg, ha, Result.andThen_ok, if_true, hti.run_sizeOf, this, Sem.run_pure, den_agg]
  | false =>
    rw [ha] at h
    obtain ⟨_, _, hc⟩ := rdT_cell (E := E) h hl
    have := hat _ _ hc
    simp only [Nat.add_zero] at this
    simp only [loadVar, Sem.run_bind, hti.run_isAgg, ha, Result.andThen_ok, Bool.false_eq_true, if_false, run_load, this]

/-! ### Loads -/
theorem cell_of_heap {w : World} {b : Nat} {cs : List Value} {t : TypeId} {fr : Nat × Nat} (h : w.heap[b]? = some (.cells cs.toArray t fr)) (o : Nat) : w.cell? ⟨b, o, none⟩ = cs[o]? := by
  simp [World.cell?, h]
theorem getD_some {α : Type _} {l : List α} {n : Nat} {d x : α} (h : l.getD n d = x) (hx : x ≠ d) : l[n]? = some x := by
  cases hh : l[n]? with
  | none => simp [List.getD, hh] at h; exact absurd h.symm hx
  | some y => simp [List.getD, hh] at h; rw [h]
/-- Where a tracked block's cells lie. -/
theorem Rel.at {E : Env} {C : Fr} {m : Mem} {H : List SB} {w : World} (h : Rel E C m H w) {k ver ver' : Nat} {t : TypeId} {segs : List SV} {gr : Nat}
    (hk : H[k]? = some (.mem t segs ver gr)) (hv : Vle (vers H) k ver') (h0 : ver' ≠ 0) (hg : gr ≠ 0 → ver' = ver) :
    OkL m (vers H) segs ∧ ∀ u c, (cellsL E segs)[u]? = some c → w.cell? ⟨E.blk k ver', u, none⟩ = some c := by
  have hb := h.bl k _ hk
  cases gr with
  | zero =>
    obtain ⟨h1, b, c, he, hh, ho⟩ := hb
    refine ⟨ho, fun u v hv' => ?_⟩
    have : ver' = ver := by
      obtain ⟨n, hn, hlt⟩ := hv
      simp [vers, hk, SB.lim] at hn
      omega
    subst this
    rw [Env.blk, he]
    simp only [Option.map_some, Option.getD_some]
    rw [cell_of_heap hh]; exact hv'
  | succ gr =>
    have := hg (by omega)
    subst this
    obtain ⟨ho, _, hb⟩ := hb
    refine ⟨ho, fun u v hv' => ?_⟩
    obtain ⟨b, c, spare, he, hh, _⟩ := hb h0
    rw [Env.blk, he]
    simp only [Option.map_some, Option.getD_some]
    rw [cell_of_heap hh, List.getElem?_append_left (List.getElem?_eq_some_iff.1 hv').1]
    exact hv'
theorem ImmAt.cell {m : Mem} {α : Type} {d : α} {n : Nat} {enc : α → List SV} {xs : List α} {a : Addr} (h : ImmAt m d n enc xs (some a)) {w : World} (hm : ∀ b o, m b = some o → w.heap[b]? = some o)
    {j : Nat} (hj : j < xs.length) {u : Nat} {c : Value} (hc : (cellsL E0 (enc (xs.getD j d)))[u]? = some c) : w.cell? ⟨a.block, a.off + j * n + u, none⟩ = some c := by
  obtain ⟨ad, arr, t, fr, ha, hs, hb, hat⟩ := h (by intro e; simp [e] at hj)
  cases ha
  have := hm _ _ hb
  simp only [World.cell?, this]
  exact hat j hj u c hc
theorem OkL.E0 {m : Mem} {E : Env} {l : List SV} (h : OkL m [] l) : cellsL E l = cellsL E0 l :=
  cellsL_stable (m := m) (V := []) (fun k v hv => by obtain ⟨n, hn, _⟩ := hv; simp at hn) l h
theorem OkL.up {m : Mem} {V : List Nat} {l : List SV} (h : OkL m [] l) : OkL m V l :=
  OkL.mono (fun _ _ h => h) l [] V (fun k v hv => by obtain ⟨n, hn, _⟩ := hv; simp at hn) h
section
variable {P : Program} {T : Tb} (hT : TOk P T) {E : Env} {C : Fr} {m : Mem} {h : List SB} {w : World} (hr : Rel E C m h w)
include hT hr
theorem loadR_ok {t : TypeId} {p x : SV} (hp : Gd m (vers h) p) (hl : (loadR T h t p).To x) :
    (Instr.loadAt t (den E p)).run P w = .ok (den E x) w ∧ Gd m (vers h) x := by
  unfold loadR at hl
  cases ht : T t with
  | none => simp [ht] at hl
  | some ti =>
    have hti := hT t ti ht
    simp only [ht] at hl
    cases p <;> try (simp at hl; done)
    case ptr k ver off ix =>
      simp only at hl
      cases hb : h.getD k .fresh <;> simp only [hb] at hl <;> try (simp at hl; done)
      case mem ty segs ver' gr =>
        have hk := getD_some hb (by simp)
        have hv : Vle (vers h) k ver ∧ ver ≠ 0 := by have := hp.1; simpa only [Ok] using this
        have key : (gr ≠ 0 → ver = ver') ∧ (rdR ti.k.agg ti.size (nav segs off ix)).To x := by
          cases gr with
          | succ gr => have := andR_To hl; exact ⟨fun _ => this.1, this.2⟩
          | zero => exact ⟨fun h => absurd rfl h, hl⟩
        obtain ⟨hg, hl⟩ := key
        obtain ⟨l, hn, hrd⟩ := rdR_To hl
        obtain ⟨ho, hat⟩ := hr.at hk hv.1 hv.2 hg
        obtain ⟨o2, hat2⟩ := nav_spec (E := E) hn ho
        refine ⟨?_, rdT_Gd hrd o2⟩
        simp only [Instr.loadAt, den, wrapV, cells, List.headD_cons, Instr.sureAddr, Sem.run_bind, Sem.run_pure, Result.andThen_ok]
        exact run_loadVar_at hti o2 (fun u c hc => hat _ _ (hat2 u c hc)) hrd
    case ipt α d n enc xs a j sub ix =>
      simp only at hl
      obtain ⟨l, hn, hrd⟩ := rdR_To hl
      have h1 := hp.1
      simp only [Ok] at h1
      obtain ⟨hj, him, hw, ho⟩ := h1
      obtain ⟨o2, hat2⟩ := nav_spec (E := E) hn (ho j hj)
      refine ⟨?_, rdT_Gd hrd o2.up⟩
      simp only [Instr.loadAt, den, wrapV, cells, List.headD_cons, Instr.sureAddr, Sem.run_bind, Sem.run_pure, Result.andThen_ok]
      refine run_loadVar_at hti o2 (fun u c hc => ?_) hrd
      have := hat2 u c hc
      rw [(ho j hj).E0] at this
      have := him.cell hr.im hj this
      rw [← this]; congr 2; omega
end

theorem fieldA_ok {P : Program} {T : Tb} (hT : TOk P T) {E : Env} {m : Mem} {V : List Nat} {w : World} {t : TypeId} {p x : SV} {f : Nat} (hp : Gd m V p) (hl : (fieldA T t p f).To x) :
    (Instr.fieldAt t (den E p) f).run P w = .ok (den E x) w ∧ Gd m V x := by
  unfold fieldA at hl
  cases ht : T t with
  | none => simp [ht] at hl
  | some ti =>
    have hti := hT t ti ht
    simp only [ht] at hl
    cases hk : ti.k <;> simp only [hk] at hl <;> try (simp at hl; done)
    case struct fs =>
      obtain ⟨fields, hu, hfs, hsz⟩ := hti.struct hk
      cases hf : fs[f]? with
      | none => simp [hf] at hl
      | some oe =>
        obtain ⟨o, e⟩ := oe
        simp only [hf] at hl
        have hfld : ∃ fl, fields[f]? = some fl ∧ fl.offset = o ∧ fl.type = e := by
          rw [← hfs] at hf
          simp only [List.getElem?_map, Array.getElem?_toList] at hf
          cases hx : fields[f]? with
          | none => simp [hx] at hf
          | some fl => simp [hx] at hf; exact ⟨fl, rfl, hf.1, hf.2⟩
        obtain ⟨fl, hfl, ho, he⟩ := hfld
        obtain ⟨i, hi, hi0⟩ := hsz fl (by rw [← Array.getElem?_toList] at hfl; exact List.mem_of_getElem? hfl)
        have hplace : ∀ a : Addr, (fieldPlace a fl).run P w = .ok (a.add o) w := fun a => by
          simp [fieldPlace, sizeOf, typeInfo, hi, hi0, ho]
        have hrun : ∀ b u, (Instr.fieldAt t (.pointer (some ⟨b, u, none⟩)) f).run P w = .ok (.pointer (some ⟨b, u + o, none⟩)) w := fun b u => by
          simp [Instr.fieldAt, Instr.sureAddr, run_underlying' hu, hfl, hplace, add_plain']
        have hofs : ∀ (ix : List Ix) (y : Ix), ofs (addSub (y :: ix) o) = ofs (y :: ix) + o := by
          intro ix
          induction ix with
          | nil => intro y; simp [addSub, ofs]; omega
          | cons z ix ih => intro y; simp only [addSub, ofs]; rw [ih z]; simp only [ofs]; omega
        cases p <;> try (simp at hl; done)
        case ptr k ver off ix =>
          cases ix with
          | nil =>
            simp at hl; subst hl
            refine ⟨?_, by simpa [Gd, Ok, live] using hp⟩
            simp only [den, wrapV, cells, List.headD_cons, ofs, Nat.add_zero, hrun]
          | cons y ix =>
            simp at hl; subst hl
            refine ⟨?_, by simpa [Gd, Ok, live] using hp⟩
            simp only [den, wrapV, cells, List.headD_cons, hrun, hofs, Nat.add_assoc]
        case ipt α d n enc xs a j sub ix =>
          cases ix with
          | nil =>
            simp at hl; subst hl
            refine ⟨?_, by simpa [Gd, Ok, live] using hp⟩
            simp only [den, wrapV, cells, List.headD_cons, ofs, Nat.add_zero, hrun, Nat.add_assoc]
          | cons y ix =>
            simp at hl; subst hl
            refine ⟨?_, by simpa [Gd, Ok, live] using hp⟩
            simp only [den, wrapV, cells, List.headD_cons, hrun, hofs, Nat.add_assoc]
end SX
end Go.Proofs.YthkedcneehdinaaGreatDoor

/- SX: comparing. -/
set_option linter.unusedVariables false
set_option linter.unusedSimpArgs false
namespace Go.Proofs.YthkedcneehdinaaGreatDoor
namespace SX
open Go

/-! ### Structs and arrays, cell by cell -/
def confV : LK → Value → Bool
  | .i k, .int k' _ => k == k'
  | .b, .bool _ => true
  | .s, .string _ => true
  | _, _ => false
def eqV : Value → Value → Bool
  | .int _ a, .int _ b => decide (a = b)
  | .bool a, .bool b => a == b
  | .string a, .string b => decide (a.data.toList = b.data.toList)
  | _, _ => false
def conf : List Value → List LK → Bool
  | [], [] => true
  | v :: r, l :: ls => confV l v && conf r ls
  | _, _ => false
def allEq : List Value → List Value → Bool
  | [], [] => true
  | a :: r, b :: s => eqV a b && allEq r s
  | _, _ => false
theorem conf_length : ∀ {xs : List Value} {ls : List LK}, conf xs ls = true → xs.length = ls.length
  | [], [], _ => rfl
  | v :: r, l :: ls, h => by simp [conf] at h; simp [conf_length h.2]
  | [], _ :: _, h => by simp [conf] at h
  | _ :: _, [], h => by simp [conf] at h
theorem conf_append : ∀ {xs : List Value} {a b : List LK}, conf xs (a ++ b) = true → conf (xs.take a.length) a = true ∧ conf (xs.drop a.length) b = true
  | xs, [], b, h => by simpa [conf] using h
  | v :: xs, l :: a, b, h => by
    simp [conf] at h
    have := conf_append h.2
    simp [conf, h.1, this.1, this.2]
  | [], l :: a, b, h => by simp [conf] at h
theorem allEq_split : ∀ (n : Nat) (xs ys : List Value), xs.length = ys.length → allEq xs ys = (allEq (xs.take n) (ys.take n) && allEq (xs.drop n) (ys.drop n))
  | 0, xs, ys, _ => by simp [allEq]
  | n + 1, [], [], _ => by simp [allEq]
  | n + 1, a :: r, b :: s, h => by
    simp at h
    simp only [List.take_succ_cons, List.drop_succ_cons, allEq, allEq_split n r s h, Bool.and_assoc]
  | n + 1, [], b :: s, h => by simp at h
  | n + 1, a :: r, [], h => by simp at h

mutual
/-- The kinds of a type's cells, where its values are compared cell by cell. -/
def shape (P : Program) : Nat → TypeId → Option (List LK)
  | 0, _ => none
  | f + 1, t => match P.underlying t with
    | some .bool => some [.b]
    | some (.int k) => some [.i k]
    | some .string => some [.s]
    | some (.struct fields) => bif P.stoodInHeld t then none else shapeF P f 0 fields.toList
    | some (.array n e) => match shape P f e with
      | some ls => bif Nat.beq (P.cellsOf e) ls.length then some (rep n ls) else none
      | none => none
    | _ => none
def shapeF (P : Program) : Nat → Nat → List Field → Option (List LK)
  | _, _, [] => some []
  | 0, _, _ :: _ => none
  | f + 1, off, x :: r => bif x.name == "_" || !(Nat.beq x.offset off) then none else
    match shape P f x.type with
    | some ls => bif Nat.beq (P.cellsOf x.type) ls.length then (match shapeF P f (off + ls.length) r with
      | some rs => some (ls ++ rs)
      | none => none) else none
    | none => none
def rep (n : Nat) (ls : List LK) : List LK :=
  match n with
  | 0 => []
  | n + 1 => ls ++ rep n ls
end
theorem rep_length (n : Nat) (ls : List LK) : (rep n ls).length = n * ls.length := by
  induction n with
  | zero => simp [rep]
  | succ n ih => simp [rep, ih, Nat.succ_mul, Nat.add_comm]
/-- A value out of its cells. -/
def ofCells (P : Program) (t : TypeId) (xs : List Value) : Value :=
  match P.underlying t with
  | some (.struct _) => .agg xs.toArray
  | some (.array _ _) => .agg xs.toArray
  | _ => xs.headD undef
theorem info_of_underlying {P : Program} {t : TypeId} {d : TypeDesc} (h : P.underlying t = some d) : ∃ i, P.info? t = some i := by
  cases hi : P.info? t with
  | some i => exact ⟨i, rfl⟩
  | none => simp [Program.underlying, hi] at h
def aggD : TypeDesc → Bool
  | .struct _ => true
  | .array _ _ => true
  | _ => false
theorem isAgg_run {P : Program} {t : TypeId} {d : TypeDesc} (h : P.underlying t = some d) (w : World) : (isAgg t).run P w = .ok (aggD d) w := by
  simp only [isAgg, Sem.run_bind, run_underlying' h, Result.andThen_ok]
  cases d <;> rfl
theorem part_ofCells {P : Program} {t : TypeId} {d : TypeDesc} (h : P.underlying t = some d) (w : World) (xs : List Value) (o : Nat) (n : Nat) (hn : P.cellsOf t = n) (hx : o + n ≤ xs.length) (h1 : aggD d = false → n = 1) :
    (part t xs.toArray o).run P w = .ok (ofCells P t ((xs.drop o).take n)) w := by
  obtain ⟨i, hi⟩ := info_of_underlying h
  have hs : i.size = n := by simpa [Program.cellsOf, hi] using hn
  simp only [part, Sem.run_bind, isAgg_run h, Result.andThen_ok, ofCells, h]
  cases hd : aggD d with
  | true =>
    simp only [if_true, sizeOf, typeInfo, Sem.run_bind, run_program, Result.andThen_ok, hi, Sem.run_pure, hs]
    have : (xs.toArray.extract o (o + n)) = ((xs.drop o).take n).toArray := by
      apply Array.ext'
      simp [List.extract_eq_take_drop]
    simp only [this]
    cases d <;> simp [aggD] at hd <;> rfl
  | false =>
    have e1 := h1 hd
    subst e1
    have hlt : o < xs.length := by omega
    simp only [Bool.false_eq_true, if_false, List.getElem?_toArray, List.getElem?_eq_getElem hlt, Sem.run_pure]
    have : (xs.drop o).take 1 = [xs[o]] := by
      rw [List.drop_eq_getElem_cons hlt]; rfl
    simp only [this]
    cases d <;> simp [aggD] at hd <;> rfl
theorem shape_scalar {P : Program} {f : Nat} {t : TypeId} {ls : List LK} {d : TypeDesc} (h : shape P f t = some ls) (hd : P.underlying t = some d) : aggD d = false → ls.length = 1 := by
  intro hn
  cases f with
  | zero => simp [shape] at h
  | succ f => cases d <;> simp [shape, hd, aggD] at h hn ⊢ <;> simp [← h]
mutual
theorem equal_shape {P : Program} (w : World) : ∀ (f : Nat) (t : TypeId) (ls : List LK) (d : Nat) (xs ys : List Value), shape P f t = some ls → conf xs ls = true → conf ys ls = true → f ≤ d →
    (Op.equalIn d t (ofCells P t xs) (ofCells P t ys)).run P w = .ok (allEq xs ys) w
  | 0, t, ls, d, xs, ys, h, _, _, _ => by simp [shape] at h
  | f + 1, t, ls, 0, xs, ys, h, _, _, hd => by omega
  | f + 1, t, ls, d + 1, xs, ys, h, hx, hy, hd => by
    cases hu : P.underlying t with
    | none => simp [shape, hu] at h
    | some de =>
      cases de <;> simp only [shape, hu] at h <;> try (simp at h; done)
      case bool =>
        simp at h; subst h
        match xs, ys, hx, hy with
        | [], _, hx, _ => simp [conf] at hx
        | _ :: _ :: _, _, hx, _ => simp [conf] at hx
        | [_], [], _, hy => simp [conf] at hy
        | [_], _ :: _ :: _, _, hy => simp [conf] at hy
        | [x], [y], hx, hy =>
          cases x <;> simp [conf, confV] at hx
          cases y <;> simp [conf, confV] at hy
          simp [Op.equalIn, ofCells, hu, run_underlying' hu, allEq, eqV]
      case int k =>
        simp at h; subst h
        match xs, ys, hx, hy with
        | [], _, hx, _ => simp [conf] at hx
        | _ :: _ :: _, _, hx, _ => simp [conf] at hx
        | [_], [], _, hy => simp [conf] at hy
        | [_], _ :: _ :: _, _, hy => simp [conf] at hy
        | [x], [y], hx, hy =>
          cases x <;> simp [conf, confV] at hx
          cases y <;> simp [conf, confV] at hy
          subst hx; subst hy
          simp [Op.equalIn, ofCells, hu, run_underlying' hu, allEq, eqV]
          rfl
      case string =>
        simp at h; subst h
        match xs, ys, hx, hy with
        | [], _, hx, _ => simp [conf] at hx
        | _ :: _ :: _, _, hx, _ => simp [conf] at hx
        | [_], [], _, hy => simp [conf] at hy
        | [_], _ :: _ :: _, _, hy => simp [conf] at hy
        | [x], [y], hx, hy =>
          cases x <;> simp [conf, confV] at hx
          cases y <;> simp [conf, confV] at hy
          rename_i a b
          simp only [ofCells, hu, List.headD_cons, run_equalIn_string w d t a b hu, allEq, eqV, Bool.and_true, ByteArray.toList_eq]
          congr 1
          rw [Bool.eq_iff_iff]; simp
      case struct fields =>
        cases hs : P.stoodInHeld t with
        | true => simp [hs] at h
        | false =>
          simp only [hs, cond_false] at h
          have hf : P.fieldsOf t = fields := by simp [Program.fieldsOf, hu]
          simp only [ofCells, hu]
          rw [run_equalIn_struct w d t xs.toArray ys.toArray (by rw [hf]; exact hu) hs, hf]
          exact equal_shapeF w f 0 fields.toList ls d xs ys h hx hy (by omega) (by simp [conf_length hx]) (by simp [conf_length hy])
      case array n e =>
        cases hs : shape P f e with
        | none => simp [hs] at h
        | some le =>
          simp only [hs] at h
          cases hb : Nat.beq (P.cellsOf e) le.length with
          | false => simp [hb] at h
          | true =>
            simp only [hb, cond_true, Option.some.injEq] at h
            have hc := Nat.eq_of_beq_eq_true hb
            subst h
            have hue : ∃ de, P.underlying e = some de := by
              cases f with
              | zero => simp [shape] at hs
              | succ f => cases hx : P.underlying e with
                | none => simp [shape, hx] at hs
                | some de => exact ⟨de, rfl⟩
            obtain ⟨de, hue⟩ := hue
            obtain ⟨i, hi⟩ := info_of_underlying hue
            have hsz : i.size = le.length := by simpa [Program.cellsOf, hi] using hc
            have hpx : ∀ j, j < n → (part e xs.toArray (j * le.length)).run P w = .ok (ofCells P e ((xs.drop (j * le.length)).take le.length)) w := fun j hj =>
              part_ofCells hue w xs _ _ hc (by rw [conf_length hx, rep_length, ← Nat.succ_mul]; exact Nat.mul_le_mul_right _ hj) (shape_scalar hs hue)
            have hpy : ∀ j, j < n → (part e ys.toArray (j * le.length)).run P w = .ok (ofCells P e ((ys.drop (j * le.length)).take le.length)) w := fun j hj =>
              part_ofCells hue w ys _ _ hc (by rw [conf_length hy, rep_length, ← Nat.succ_mul]; exact Nat.mul_le_mul_right _ hj) (shape_scalar hs hue)
            have key : ∀ (c s : Nat), s + c = n → conf (xs.drop (s * le.length)) (rep c le) = true → conf (ys.drop (s * le.length)) (rep c le) = true →
                (forIn (List.range' s c) ((none, ()) : Option Bool × Unit) fun i _ => (do
                  let r ← Op.equalIn d e (← part e xs.toArray (i * le.length)) (← part e ys.toArray (i * le.length))
                  if !r then pure (ForInStep.done (some false, ())) else pure (ForInStep.yield (none, ())) : Sem (ForInStep (Option Bool × Unit)))).run P w
                = .ok (if allEq (xs.drop (s * le.length)) (ys.drop (s * le.length)) then (none, ()) else (some false, ())) w := by
              intro c
              induction c with
              | zero =>
                intro s hsn h1 h2
                have l1 := conf_length h1
                have l2 := conf_length h2
                simp only [rep, List.length_nil] at l1 l2
                rw [List.eq_nil_of_length_eq_zero l1, List.eq_nil_of_length_eq_zero l2]
                simp [allEq]
              | succ c ih =>
                intro s hsn h1 h2
                have l1 := conf_length h1
                have l2 := conf_length h2
                simp only [rep] at h1 h2
                have c1 := conf_append h1
                have c2 := conf_append h2
                have he := equal_shape w f e le d _ _ hs c1.1 c2.1 (by omega)
                have ih' := ih (s + 1) (by omega) (by simpa [List.drop_drop, Nat.succ_mul, Nat.add_comm] using c1.2) (by simpa [List.drop_drop, Nat.succ_mul, Nat.add_comm] using c2.2)
                simp only [List.range'_succ, List.forIn_cons, Sem.run_bind, hpx s (by omega), hpy s (by omega), Result.andThen_ok, he, Sem.run_ite]
                rw [allEq_split le.length (xs.drop (s * le.length)) (ys.drop (s * le.length)) (by rw [l1, l2])]
                cases hq : allEq ((xs.drop (s * le.length)).take le.length) ((ys.drop (s * le.length)).take le.length) with
                | false => simp
                | true =>
                  simp only [Bool.not_true, Bool.false_eq_true, if_false, Sem.run_pure, Result.andThen_ok, Bool.true_and]
                  rw [ih']
                  simp [List.drop_drop, Nat.succ_mul]
            simp only [ofCells, hu, Op.equalIn, Sem.run_bind, run_underlying' hu, Result.andThen_ok, sizeOf, typeInfo, run_program, hi, Sem.run_pure, hsz]
            rw [Std.Legacy.Range.forIn_eq_forIn_range']
            have k0 := key n 0 (by omega) (by simpa using hx) (by simpa using hy)
            simp only [Nat.zero_mul, List.drop_zero] at k0
            simp only [Std.Legacy.Range.size, Nat.sub_zero, Nat.add_one_sub_one, Nat.div_one, Nat.add_sub_cancel, k0, Result.andThen_ok]
            cases allEq xs ys <;> simp
theorem equal_shapeF {P : Program} (w : World) : ∀ (f off : Nat) (fs : List Field) (ls : List LK) (d : Nat) (xs ys : List Value), shapeF P f off fs = some ls → conf (xs.drop off) ls = true → conf (ys.drop off) ls = true → f ≤ d → xs.length = off + ls.length → ys.length = off + ls.length →
    (Op.eqFields d xs.toArray ys.toArray fs).run P w = .ok (allEq (xs.drop off) (ys.drop off)) w
  | f, off, [], ls, d, xs, ys, h, hx, hy, _, hlx, hly => by
    have : ls = [] := by cases f <;> simpa [shapeF, eq_comm] using h
    subst this
    simp at hlx hly
    simp [Op.eqFields, List.drop_eq_nil_of_le, hlx, hly, allEq]
  | 0, off, x :: r, ls, d, xs, ys, h, _, _, _, _, _ => by simp [shapeF] at h
  | f + 1, off, x :: r, ls, d, xs, ys, h, hx, hy, hd, hlx, hly => by
    simp only [shapeF] at h
    cases hg : (x.name == "_" || !(Nat.beq x.offset off)) with
    | true => simp [hg] at h
    | false =>
      simp only [hg, cond_false] at h
      simp at hg
      obtain ⟨hn, ho⟩ := hg
      cases hs : shape P f x.type with
      | none => simp [hs] at h
      | some l1 =>
        simp only [hs] at h
        cases hb : Nat.beq (P.cellsOf x.type) l1.length with
        | false => simp [hb] at h
        | true =>
          simp only [hb, cond_true] at h
          have hc := Nat.eq_of_beq_eq_true hb
          cases hr : shapeF P f (off + l1.length) r with
          | none => simp [hr] at h
          | some l2 =>
            simp only [hr, Option.some.injEq] at h
            subst h
            simp only [List.length_append] at hlx hly
            have hue : ∃ de, P.underlying x.type = some de := by
              cases f with
              | zero => simp [shape] at hs
              | succ f => cases hx : P.underlying x.type with
                | none => simp [shape, hx] at hs
                | some de => exact ⟨de, rfl⟩
            obtain ⟨de, hue⟩ := hue
            have cx := conf_append hx
            have cy := conf_append hy
            have px := part_ofCells hue w xs off l1.length hc (by omega) (shape_scalar hs hue)
            have py := part_ofCells hue w ys off l1.length hc (by omega) (shape_scalar hs hue)
            have he := equal_shape w f x.type l1 d _ _ hs cx.1 cy.1 (by omega)
            have ih := equal_shapeF w f (off + l1.length) r l2 d xs ys hr (by simpa [List.drop_drop] using cx.2) (by simpa [List.drop_drop] using cy.2) (by omega) (by omega) (by omega)
            simp only [Op.eqFields, Sem.run_bind, Sem.run_ite, ho, px, py, Result.andThen_ok, he]
            rw [if_pos hn, allEq_split l1.length (xs.drop off) (ys.drop off) (by simp; omega)]
            cases hq : allEq ((xs.drop off).take l1.length) ((ys.drop off).take l1.length) with
            | false => simp
            | true => simpa [List.drop_drop] using ih
end
end SX
end Go.Proofs.YthkedcneehdinaaGreatDoor

/- SX: what operators come to. -/
set_option linter.unusedVariables false
set_option linter.unusedSimpArgs false
namespace Go.Proofs.YthkedcneehdinaaGreatDoor
namespace SX
open Go

/-- A type's zero value. -/
def zeroV (ti : TI) : SV := bif ti.k.agg then .agg ti.zero else ti.zero.headD .dead
structure TabOk (P : Program) (T : Tb) : Prop where
  ti : TOk P T
  eq : ∀ t ti ls, T t = some ti → ti.leafs = some ls → shape P 40 t = some ls ∧ P.eqGuardType P.depth t = false ∧ ti.k.agg = true
  zv : ∀ t ti, T t = some ti → (P.info? t).map (·.zero) = some (some (den E0 (zeroV ti)))
  arr : ∀ t ti n e te, T t = some ti → ti.k = .array n e → T e = some te → ti.size = n * te.size ∧ cellsL E0 (zeros n te.zero) = cellsL E0 ti.zero

theorem allEq_app {a b c d : List Value} (h : a.length = c.length) (h2 : b.length = d.length) : allEq (a ++ b) (c ++ d) = (allEq a c && allEq b d) := by
  rw [allEq_split a.length _ _ (by simp [h, h2])]
  simp [h]
theorem allEq_ints (k k' : IntKind) : ∀ (a b : List Int), a.length = b.length → allEq (a.map (.int k)) (b.map (.int k')) = decide (a = b)
  | [], [], _ => by simp [allEq]
  | x :: a, y :: b, h => by
    simp at h
    simp only [List.map_cons, allEq, eqV, allEq_ints k k' a b h]
    rw [Bool.eq_iff_iff]; simp
  | [], _ :: _, h => by simp at h
  | _ :: _, [], h => by simp at h
theorem dropK_spec {k : IntKind} : ∀ {n : Nat} {l l' : List LK}, dropK k n l = some l' → l = List.replicate n (.i k) ++ l'
  | 0, l, l', h => by simpa [dropK] using h
  | n + 1, [], l', h => by simp [dropK] at h
  | n + 1, x :: l, l', h => by
    cases x <;> simp [dropK] at h
    rename_i k'
    by_cases hk : k = k'
    · subst hk; simp at h; simp [List.replicate_succ, dropK_spec h]
    · have hk' : (k == k') = false := beq_eq_false_iff_ne.2 hk
      rw [hk'] at h; simp at h
theorem conf_ints (k : IntKind) : ∀ (a : List Int) (r : List Value) (l : List LK), conf r l = true → conf (a.map (.int k) ++ r) (List.replicate a.length (.i k) ++ l) = true
  | [], r, l, h => by simpa using h
  | x :: a, r, l, h => by simp [List.replicate_succ, conf, confV, conf_ints k a r l h]
theorem kmatch_conf {m : Mem} {V : List Nat} (E : Env) : ∀ {xs : List SV} {ls : List LK}, kmatch xs ls = true → OkL m V xs → conf (cellsL E xs) ls = true
  | [], [], _, _ => by simp [cellsL, conf]
  | [], _ :: _, h, _ => by simp [kmatch] at h
  | x :: r, ls, h, ho => by
    simp only [OkL] at ho
    cases x <;> try (simp [kmatch] at h; done)
    case i k n =>
      cases ls with
      | nil => simp [kmatch] at h
      | cons l ls => cases l <;> simp [kmatch] at h; simp [cellsL, cells, conf, confV, h.1, kmatch_conf E h.2 ho.2]
    case b v =>
      cases ls with
      | nil => simp [kmatch] at h
      | cons l ls => cases l <;> simp [kmatch] at h; simp [cellsL, cells, conf, confV, kmatch_conf E h ho.2]
    case s v =>
      cases ls with
      | nil => simp [kmatch] at h
      | cons l ls => cases l <;> simp [kmatch] at h; simp [cellsL, cells, conf, confV, kmatch_conf E h ho.2]
    case ints k n a =>
      simp only [kmatch] at h
      cases hd : dropK k n ls with
      | none => simp [hd] at h
      | some l' =>
        simp only [hd] at h
        have hn : a.length = n := by have := ho.1.2; simpa [Ok] using this
        rw [dropK_spec hd, ← hn]
        simp only [cellsL, cells]
        exact conf_ints k a _ l' (kmatch_conf E h ho.2)
theorem eqU_allEq {m : Mem} {V : List Nat} (E : Env) {x y : SV} {b : Bool} (h : eqU x y = some b) (hx : Ok m V x) (hy : Ok m V y) : allEq (cells E x) (cells E y) = b ∧ (cells E x).length = (cells E y).length := by
  cases x <;> cases y <;> simp [eqU] at h
  case i.i k a k' c => obtain ⟨rfl, rfl⟩ : k = k' ∧ decide (a = c) = b := by
                        by_cases hk : k = k'
                        · subst hk; simpa using h
                        · have hk' : (k == k') = false := beq_eq_false_iff_ne.2 hk
                          rw [hk'] at h; simp at h
                       simp [cells, allEq, eqV]
  case b.b a c => subst h; simp [cells, allEq, eqV]
  case s.s a c => subst h; simp [cells, allEq, eqV]
  case ints.ints k n a k' n' c =>
    cases hb : (k == k' && Nat.beq n n') with
    | false => simp [hb] at h
    | true =>
      simp only [hb, cond_true, Option.some.injEq] at h
      simp at hb
      obtain ⟨_, hn⟩ := hb
      simp only [Ok] at hx hy
      subst h
      simp only [cells]
      exact ⟨allEq_ints k k' a c (by rw [hx, hy, hn]), by simp [hx, hy, hn]⟩
theorem eqL_allEq {m : Mem} {V : List Nat} (E : Env) : ∀ {xs ys : List SV} {b : Bool}, eqL xs ys = some b → OkL m V xs → OkL m V ys → allEq (cellsL E xs) (cellsL E ys) = b ∧ (cellsL E xs).length = (cellsL E ys).length
  | [], [], b, h, _, _ => by simp [eqL] at h; simp [cellsL, allEq, h]
  | [], _ :: _, b, h, _, _ => by simp [eqL] at h
  | _ :: _, [], b, h, _, _ => by simp [eqL] at h
  | [x], [y], b, h, hx, hy => by
    simp only [OkL] at hx hy
    have := eqU_allEq E (by simpa [eqL] using h) hx.1.2 hy.1.2
    simpa [cellsL] using this
  | [x], y :: z :: ys, b, h, hx, hy => by
    simp only [eqL] at h
    cases hu : eqU x y with
    | none => simp [hu] at h
    | some b1 => simp [hu, eqL] at h
  | x :: z :: xs, [y], b, h, hx, hy => by
    simp only [eqL] at h
    cases hu : eqU x y with
    | none => simp [hu] at h
    | some b1 => simp [hu, eqL] at h
  | x :: z :: xs, y :: u :: ys, b, h, hx, hy => by
    simp only [eqL] at h
    cases hu : eqU x y with
    | none => simp [hu] at h
    | some b1 =>
      simp only [hu] at h
      cases hl : eqL (z :: xs) (u :: ys) with
      | none => simp [hl] at h
      | some b2 =>
        simp only [hl, Option.some.injEq] at h
        simp only [OkL] at hx hy
        have h1 := eqU_allEq E hu hx.1.2 hy.1.2
        have h2 := eqL_allEq E hl (by simp only [OkL]; exact hx.2) (by simp only [OkL]; exact hy.2)
        show allEq (cells E x ++ cellsL E (z :: xs)) (cells E y ++ cellsL E (u :: ys)) = b ∧ (cells E x ++ cellsL E (z :: xs)).length = (cells E y ++ cellsL E (u :: ys)).length
        rw [allEq_app h1.2 h2.2, h1.1, h2.1]
        exact ⟨h, by simp [h1.2, h2.2]⟩

theorem run_eqGuard_other {P : Program} {w : World} {op : BinOp} {t : TypeId} {x y : Operand} {a b : Value}
    (h : match a, b with | .nilIface, .nilIface => isConst x || isConst y | .agg _, .agg _ => false | _, _ => true) : (eqGuard op t x y a b).run P w = .ok () w := by
  unfold eqGuard
  cases op <;> simp <;> (cases a <;> cases b <;> simp at h ⊢) <;> (cases x <;> cases y <;> simp [isConst] at h ⊢)
theorem den_v {E : Env} : (∀ k n, den E (.i k n) = .int k n) ∧ (∀ b, den E (.b b) = .bool b) ∧ (∀ l, den E (.s l) = .string ⟨⟨l⟩⟩) ∧ (∀ v, den E (.raw v) = v) ∧ den E .nils = .slice none 0 0 := by
  refine ⟨?_, ?_, ?_, ?_, ?_⟩ <;> intros <;> simp [den, wrapV, cells]
theorem Gd_i {m : Mem} {V : List Nat} (k : IntKind) (n : Int) : Gd m V (.i k n) := ⟨by simp [Ok], rfl⟩
theorem Gd_b {m : Mem} {V : List Nat} (b : Bool) : Gd m V (.b b) := ⟨by simp [Ok], rfl⟩
theorem Gd_s {m : Mem} {V : List Nat} (l : List UInt8) : Gd m V (.s l) := ⟨by simp [Ok], rfl⟩
theorem intBits_run {P : Program} {w : World} {op : BinOp} {k : IntKind} {x y : Int} (h : op = .and ∨ op = .or ∨ op = .xor ∨ op = .andNot) : (Op.intBits op k x y).run P w = .ok (.int k (bits op k x y)) w := by
  rcases h with rfl | rfl | rfl | rfl <;> rfl
section
variable {P : Program} {T : Tb} (hT : TabOk P T) {E : Env} {m : Mem} {V : List Nat} {w : World}
theorem binI_ok {op : BinOp} {k : IntKind} {x y : Int} {r : SV} (t : TypeId) (hs : isShift op = false) (h : (binI op k x y).To r) : (binOp op t (.int k x) (.int k y)).run P w = .ok (den E r) w ∧ Gd m V r := by
  cases op <;> simp [isShift] at hs <;> simp [binI] at h
  case quo => obtain ⟨h0, rfl⟩ := h; refine ⟨?_, Gd_i _ _⟩; simp [binOp, Op.intDiv, h0, den_v]
  case rem => obtain ⟨h0, rfl⟩ := h; refine ⟨?_, Gd_i _ _⟩; simp [binOp, Op.intDiv, h0, den_v]
  case and => subst h; refine ⟨?_, Gd_i _ _⟩; simp [binOp, den_v, intBits_run]
  case or => subst h; refine ⟨?_, Gd_i _ _⟩; simp [binOp, den_v, intBits_run]
  case xor => subst h; refine ⟨?_, Gd_i _ _⟩; simp [binOp, den_v, intBits_run]
  case andNot => subst h; refine ⟨?_, Gd_i _ _⟩; simp [binOp, den_v, intBits_run]
  case eql => subst h; refine ⟨?_, Gd_b _⟩; simp [binOp, Op.intCmp, den_v]; rfl
  case neq => subst h; refine ⟨?_, Gd_b _⟩; simp [binOp, Op.intCmp, den_v]; rfl
  all_goals subst h; refine ⟨?_, by first | exact Gd_i _ _ | exact Gd_b _⟩; simp [binOp, Op.intArith, Op.intCmp, den_v]
theorem binS_ok {op : BinOp} {x y : List UInt8} {r : SV} (t : TypeId) (h : (binS op x y).To r) : (binOp op t (.string ⟨⟨x⟩⟩) (.string ⟨⟨y⟩⟩)).run P w = .ok (den E r) w ∧ Gd m V r := by
  have hl : ∀ l : List UInt8, (⟨⟨l⟩⟩ : ByteArray).toList = l := fun l => ByteArray.toList_mk l
  have hz : ∀ l : List UInt8, (⟨⟨l⟩⟩ : ByteArray).size = l.length := fun l => rfl
  cases op <;> simp [binS] at h
  case add =>
    obtain ⟨h0, rfl⟩ := h
    refine ⟨?_, Gd_s _⟩
    have hm : IntKind.i64.max = 9223372036854775807 := by decide
    have hap : (⟨⟨x⟩⟩ : ByteArray) ++ ⟨⟨y⟩⟩ = ⟨⟨x ++ y⟩⟩ := by
      apply ByteArray.ext
      simp
    simp only [binOp, Op.stringOp, hz, hm, den_v, hap]
    rw [if_neg (by omega)]
    rfl
  case eql => subst h; refine ⟨?_, Gd_b _⟩; simp only [binOp, Op.stringOp, hl, den_v, Sem.run_pure]; congr 2; rw [Bool.eq_iff_iff]; simp
  case neq => subst h; refine ⟨?_, Gd_b _⟩; simp only [binOp, Op.stringOp, hl, den_v, Sem.run_pure]; congr 3; rw [Bool.eq_iff_iff]; simp
  case lss => subst h; refine ⟨?_, Gd_b _⟩; simp only [binOp, Op.stringOp, hl, den_v, Sem.run_pure]
theorem shf_ok {op : BinOp} {k k' : IntKind} {x y : Int} {r : SV} (t : TypeId) (h : (shf op k x y).To r) : (binOp op t (.int k x) (.int k' y)).run P w = .ok (den E r) w ∧ Gd m V r := by
  cases op <;> simp [shf] at h
  all_goals
    obtain ⟨h0, rfl⟩ := h
    refine ⟨?_, Gd_i _ _⟩
    simp only [binOp, Op.shift, den_v]
    rw [if_neg (by omega)]
    rfl
end
end SX
end Go.Proofs.YthkedcneehdinaaGreatDoor

/- SX: the other pure operations. -/
set_option linter.unusedVariables false
set_option linter.unusedSimpArgs false
namespace Go.Proofs.YthkedcneehdinaaGreatDoor
namespace SX
open Go

section
variable {P : Program} {T : Tb} (hT : TabOk P T) {E : Env} {m : Mem} {V : List Nat} {w : World}
include hT
theorem eq_agg {t : TypeId} {ti : TI} (ht : T t = some ti) {ls : List LK} (hl : ti.leafs = some ls) {xs ys : List SV} {b : Bool} (hx : OkL m V xs) (hy : OkL m V ys)
    (kx : kmatch xs ls = true) (ky : kmatch ys ls = true) (he : eqL xs ys = some b) :
    (Op.equal t (.agg (cellsL E xs).toArray) (.agg (cellsL E ys).toArray)).run P w = .ok b w := by
  obtain ⟨hs, _, ha⟩ := hT.eq t ti ls ht hl
  obtain ⟨d, hd, hk⟩ := (hT.ti t ti ht).desc
  have hof : ∀ cs, ofCells P t cs = .agg cs.toArray := fun cs => by
    cases hkk : ti.k <;> simp [hkk, TK.agg] at ha <;> cases d <;> simp [hkk, kokB] at hk <;> simp [ofCells, hd]
  have := equal_shape (P := P) w 40 t ls 10000 (cellsL E xs) (cellsL E ys) hs (kmatch_conf E kx hx) (kmatch_conf E ky hy) (by omega)
  rw [hof, hof, (eqL_allEq E he hx hy).1] at this
  exact this
omit hT in
theorem isNilLit_cases {k : TK} {x : SV} (h : isNilLit k x = true) : (∃ e, k = .ptr e ∧ x = .raw (.pointer none)) ∨ (∃ e, k = .slice e ∧ x = .nils) ∨ (∃ a b, k = .map a b ∧ x = .raw (.map none)) ∨ (k = .func ∧ x = .raw .nilFunc) ∨ (∃ b, k = .iface b ∧ x = .raw .nilIface) := by
  unfold isNilLit at h
  split at h <;> first | (simp at h; done) | (simp; done)
omit hT in
theorem nilB_ptr {e : TypeId} {y : SV} {b : Bool} (h : nilB (.ptr e) y = some b) : ∃ o, den E y = .pointer o ∧ b = o.isNone := by
  cases y <;> try (simp [nilB] at h; done)
  case raw v => cases v <;> try (simp [nilB] at h; done)
                case pointer o => cases o <;> simp [nilB] at h; exact ⟨none, by simp [den_v], by simp [h]⟩
  case ptr => simp [nilB] at h; exact ⟨some _, by simp only [den, wrapV, cells, List.headD_cons]; rfl, by simp [h]⟩
  case ipt => simp [nilB] at h; exact ⟨some _, by simp only [den, wrapV, cells, List.headD_cons]; rfl, by simp [h]⟩
omit hT in
theorem nilB_slice {e : TypeId} {y : SV} {b : Bool} (hnn : ∀ k v, Vle V k v → v ≠ 0 → ∃ b c, E k v = some (b, c)) (hy : Gd m V y) (h : nilB (.slice e) y = some b) : ∃ o l c, den E y = .slice o l c ∧ b = o.isNone := by
  cases y <;> try (simp [nilB] at h; done)
  case nils => simp [nilB] at h; exact ⟨none, 0, 0, by simp [den_v], by simp [h]⟩
  case sl k ver off len cap dc =>
    cases ver with
    | zero => simp [nilB] at h
    | succ ver =>
      simp [nilB] at h
      have := hy.1
      simp only [Ok] at this
      obtain ⟨bb, c, he⟩ := hnn k _ this.1 (by omega)
      exact ⟨some ⟨bb, _, none⟩, _, _, by simp only [den, wrapV, cells, List.headD_cons, he]; rfl, by simp [h]⟩
  case imm α d n enc xs a cap => simp [nilB] at h; exact ⟨a, _, _, by simp only [den, wrapV, cells, List.headD_cons]; rfl, by simp [h]⟩
omit hT in
theorem nilB_map {u v : TypeId} {y : SV} {b : Bool} (h : nilB (.map u v) y = some b) : ∃ o, den E y = .map o ∧ b = o.isNone := by
  cases y <;> try (simp [nilB] at h; done)
  case raw v => cases v <;> try (simp [nilB] at h; done)
                case map o => cases o <;> simp [nilB] at h; exact ⟨none, by simp [den_v], by simp [h]⟩
  case map => simp [nilB] at h; exact ⟨some _, by simp only [den, wrapV, cells, List.headD_cons]; rfl, by simp [h]⟩
omit hT in
theorem nilB_func {y : SV} {b : Bool} (h : nilB .func y = some b) : (den E y = .nilFunc ∧ b = true) ∨ ∃ f a c, den E y = .func f a c ∧ b = false := by
  cases y <;> try (simp [nilB] at h; done)
  case raw v => cases v <;> try (simp [nilB] at h; done)
                case nilFunc => simp [nilB] at h; exact .inl ⟨by simp [den_v], by simp [h]⟩
  case fn => simp [nilB] at h; exact .inr ⟨_, _, _, by simp only [den, wrapV, cells, List.headD_cons]; rfl, by simp [h]⟩
  case bm => simp [nilB] at h; exact .inr ⟨_, _, _, by simp only [den, wrapV, cells, List.headD_cons]; rfl, by simp [h]⟩
omit hT in
theorem nilB_iface {z : Bool} {y : SV} {b : Bool} (h : nilB (.iface z) y = some b) : (den E y = .nilIface ∧ b = true) ∨ ∃ t v, den E y = .iface t v ∧ b = false := by
  cases y <;> try (simp [nilB] at h; done)
  case raw v => cases v <;> try (simp [nilB] at h; done)
                case nilIface => simp [nilB] at h; exact .inl ⟨by simp [den_v], by simp [h]⟩
  case iface => simp [nilB] at h; exact .inr ⟨_, _, by simp only [den, wrapV, cells, List.headD_cons]; rfl, by simp [h]⟩
omit hT in
theorem eqIn_ptr (d : Nat) {t e : TypeId} (hu : P.underlying t = some (.pointer e)) (o : Option Addr) : (Op.equalIn (d + 1) t (.pointer none) (.pointer o)).run P w = .ok o.isNone w ∧ (Op.equalIn (d + 1) t (.pointer o) (.pointer none)).run P w = .ok o.isNone w := by
  cases o <;> simp [Op.equalIn, run_underlying' hu]
omit hT in
theorem eqIn_slice (d : Nat) {t e : TypeId} (hu : P.underlying t = some (.slice e)) (o : Option Addr) (l c l' c' : Nat) : (Op.equalIn (d + 1) t (.slice none l' c') (.slice o l c)).run P w = .ok o.isNone w ∧ (Op.equalIn (d + 1) t (.slice o l c) (.slice none l' c')).run P w = .ok o.isNone w := by
  cases o <;> simp [Op.equalIn, run_underlying' hu]
omit hT in
theorem eqIn_map (d : Nat) {t u v : TypeId} (hu : P.underlying t = some (.map u v)) (o : Option Nat) : (Op.equalIn (d + 1) t (.map none) (.map o)).run P w = .ok o.isNone w ∧ (Op.equalIn (d + 1) t (.map o) (.map none)).run P w = .ok o.isNone w := by
  cases o <;> simp [Op.equalIn, run_underlying' hu]
omit hT in
theorem eqIn_func (d : Nat) {t : TypeId} {ps rs : Array TypeId} {v : Bool} (hu : P.underlying t = some (.func ps rs v)) : (Op.equalIn (d + 1) t .nilFunc .nilFunc).run P w = .ok true w ∧ ∀ f a c, (Op.equalIn (d + 1) t .nilFunc (.func f a c)).run P w = .ok false w ∧ (Op.equalIn (d + 1) t (.func f a c) .nilFunc).run P w = .ok false w := by
  refine ⟨by simp [Op.equalIn, run_underlying' hu], fun f a c => ⟨?_, ?_⟩⟩ <;> simp [Op.equalIn, run_underlying' hu]
omit hT in
theorem eqIn_iface (d : Nat) {t : TypeId} {ms : Array (String × TypeId)} (hu : P.underlying t = some (.interface ms)) : (Op.equalIn (d + 1) t .nilIface .nilIface).run P w = .ok true w ∧ ∀ f a, (Op.equalIn (d + 1) t .nilIface (.iface f a)).run P w = .ok false w ∧ (Op.equalIn (d + 1) t (.iface f a) .nilIface).run P w = .ok false w := by
  refine ⟨by simp [Op.equalIn, run_underlying' hu], fun f a => ⟨?_, ?_⟩⟩ <;> simp [Op.equalIn, run_underlying' hu]
theorem nil_eq1 (hnn : ∀ k v, Vle V k v → v ≠ 0 → ∃ b c, E k v = some (b, c)) {t : TypeId} {ti : TI} (ht : T t = some ti) {x y : SV} {b : Bool} (hgy : Gd m V y) (hx : isNilLit ti.k x = true) (h : nilB ti.k y = some b) :
    (Op.equal t (den E x) (den E y)).run P w = .ok b w ∧ (Op.equal t (den E y) (den E x)).run P w = .ok b w := by
  have hti := hT.ti t ti ht
  obtain ⟨d, hd, hk⟩ := hti.desc
  rcases isNilLit_cases hx with ⟨e, h1, rfl⟩ | ⟨e, h1, rfl⟩ | ⟨u, v, h1, rfl⟩ | ⟨h1, rfl⟩ | ⟨z, h1, rfl⟩ <;> rw [h1] at h hk
  · obtain ⟨o, ho, rfl⟩ := nilB_ptr (E := E) h
    cases d <;> simp [kokB] at hk
    rw [ho, den_v.2.2.2.1]; exact eqIn_ptr 9999 hd o
  · obtain ⟨o, l, c, ho, rfl⟩ := nilB_slice (E := E) hnn hgy h
    cases d <;> simp [kokB] at hk
    rw [ho, den_v.2.2.2.2]; exact eqIn_slice 9999 hd o l c 0 0
  · obtain ⟨o, ho, rfl⟩ := nilB_map (E := E) h
    cases d <;> simp [kokB] at hk
    rw [ho, den_v.2.2.2.1]; exact eqIn_map 9999 hd o
  · cases d <;> simp [kokB] at hk
    rcases nilB_func (E := E) h with ⟨ho, rfl⟩ | ⟨f, a, c, ho, rfl⟩ <;> rw [ho, den_v.2.2.2.1]
    · exact ⟨(eqIn_func 9999 hd).1, (eqIn_func 9999 hd).1⟩
    · exact (eqIn_func 9999 hd).2 f a c
  · cases d <;> simp [kokB] at hk
    rcases nilB_iface (E := E) h with ⟨ho, rfl⟩ | ⟨f, a, ho, rfl⟩ <;> rw [ho, den_v.2.2.2.1]
    · exact ⟨(eqIn_iface 9999 hd).1, (eqIn_iface 9999 hd).1⟩
    · exact (eqIn_iface 9999 hd).2 f a
theorem nil_eq (hnn : ∀ k v, Vle V k v → v ≠ 0 → ∃ b c, E k v = some (b, c)) {t : TypeId} {ti : TI} (ht : T t = some ti) {c : Bool} {x y : SV} {b : Bool} (hgx : Gd m V x) (hgy : Gd m V y) (h : nilE ti.k c x y = some b) :
    (Op.equal t (den E x) (den E y)).run P w = .ok b w ∧ ckI ti.k c = true ∧ (isNilLit ti.k x = true ∨ isNilLit ti.k y = true) ∧ ∃ b', nilB ti.k x = some b' ∨ nilB ti.k y = some b' := by
  unfold nilE at h
  cases hc : ckI ti.k c with
  | false => rw [hc] at h; simp at h
  | true =>
    rw [hc] at h
    simp only [cond_true] at h
    cases hx : isNilLit ti.k x with
    | true => simp only [hx, cond_true] at h; exact ⟨(nil_eq1 hT hnn ht hgy hx h).1, rfl, .inl rfl, b, .inr h⟩
    | false =>
      simp only [hx, cond_false] at h
      cases hy : isNilLit ti.k y with
      | false => simp [hy] at h
      | true => simp only [hy, cond_true] at h; exact ⟨(nil_eq1 hT hnn ht hgx hy h).2, rfl, .inr rfl, b, .inl h⟩
omit hT in
theorem binOp_eql_plain {t : TypeId} {x y : Value} (h : (match x with | .int _ _ => false | .float _ _ => false | .complex _ _ _ => false | .string _ => false | _ => true) = true) {b : Bool} (he : (Op.equal t x y).run P w = .ok b w) :
    (binOp .eql t x y).run P w = .ok (.bool b) w ∧ (binOp .neq t x y).run P w = .ok (.bool !b) w := by
  constructor
  · have : binOp .eql t x y = (do pure (.bool (← Op.equal t x y))) := by cases x <;> simp at h <;> (cases y <;> rfl)
    rw [this]; simp [he]
  · have : binOp .neq t x y = (do pure (.bool (!(← Op.equal t x y)))) := by cases x <;> simp at h <;> (cases y <;> rfl)
    rw [this]; simp [he]
theorem binE_ok (hnn : ∀ k v, Vle V k v → v ≠ 0 → ∃ b c, E k v = some (b, c)) {t : TypeId} {ti : TI} (ht : T t = some ti) {neg c : Bool} {x y r : SV} {xo yo : Operand} (hc : c = (isConst xo || isConst yo)) (hx : Gd m V x) (hy : Gd m V y) (h : (binE neg c ti x y).To r) :
    (eqGuard (if neg then .neq else .eql) t xo yo (den E x) (den E y)).run P w = .ok () w ∧ (binOp (if neg then .neq else .eql) t (den E x) (den E y)).run P w = .ok (den E r) w ∧ Gd m V r := by
  have hti := hT.ti t ti ht
  obtain ⟨d, hd, hk⟩ := hti.desc
  unfold binE at h
  split at h
  · rename_i a c' hkk
    simp at h; subst h
    rw [hkk] at hk
    cases d <;> simp [kokB] at hk
    have he := run_equal_bool (P := P) w t a c' hd
    have := binOp_eql_plain (P := P) (w := w) (t := t) (x := .bool a) (y := .bool c') rfl he
    refine ⟨run_eqGuard_other (by simp [den_v]), ?_, Gd_b _⟩
    cases neg
    · simpa [den_v] using this.1
    · simpa [den_v, bne] using this.2
  · rename_i xs ys
    cases hl : ti.leafs with
    | none => simp [hl] at h
    | some ls =>
      simp only [hl] at h
      cases hm : (kmatch xs ls && kmatch ys ls) with
      | false => simp [hm] at h
      | true =>
        simp only [hm, cond_true] at h
        simp only [Bool.and_eq_true] at hm
        cases he : eqL xs ys with
        | none => simp [he] at h
        | some b =>
          simp only [he] at h
          simp at h; subst h
          have ox : OkL m V xs := by have := hx.1; simpa only [Ok] using this
          have oy : OkL m V ys := by have := hy.1; simpa only [Ok] using this
          have he' := eq_agg hT (E := E) (w := w) ht hl ox oy hm.1 hm.2 he
          have := binOp_eql_plain (P := P) (w := w) (t := t) (x := .agg (cellsL E xs).toArray) (y := .agg (cellsL E ys).toArray) rfl he'
          refine ⟨?_, ?_, Gd_b _⟩
          · rw [den_agg, den_agg]; exact run_eqGuard_agg w _ t _ _ _ _ (hT.eq t ti ls ht hl).2.1
          · rw [den_agg, den_agg]
            cases neg
            · simpa [den_v] using this.1
            · simpa [den_v] using this.2
  · rename_i x y _ _ _ _ _
    cases he : nilE ti.k c x y with
    | none => simp [he] at h
    | some b =>
      simp only [he] at h
      simp at h; subst h
      obtain ⟨e1, e2, e3, b', e4⟩ := nil_eq hT (E := E) (w := w) hnn ht hx hy he
      have hden : ∀ z : SV, Gd m V z → (isNilLit ti.k z = true ∨ ∃ b', nilB ti.k z = some b') → (match den E z with | .int _ _ => false | .float _ _ => false | .complex _ _ _ => false | .string _ => false | .agg _ => false | _ => true) = true ∧ (den E z = .nilIface → ∃ n, ti.k = .iface n) := by
        intro z hgz hz
        rcases hz with hz | ⟨b', hz⟩
        · rcases isNilLit_cases hz with ⟨e, h1, rfl⟩ | ⟨e, h1, rfl⟩ | ⟨u, v, h1, rfl⟩ | ⟨h1, rfl⟩ | ⟨z, h1, rfl⟩ <;> simp [den_v, h1]
        · cases hkk : ti.k <;> rw [hkk] at hz <;> try (cases z <;> simp [nilB] at hz; done)
          · obtain ⟨o, ho, _⟩ := nilB_ptr (E := E) hz; simp [ho]
          · obtain ⟨o, l, c, ho, _⟩ := nilB_slice (E := E) hnn hgz hz; simp [ho]
          · obtain ⟨o, ho, _⟩ := nilB_map (E := E) hz; simp [ho]
          · rcases nilB_func (E := E) hz with ⟨ho, _⟩ | ⟨f, a, c, ho, _⟩ <;> simp [ho]
          · rcases nilB_iface (E := E) hz with ⟨ho, _⟩ | ⟨f, a, ho, _⟩ <;> simp [ho]
      have hxy : (isNilLit ti.k x = true ∨ ∃ b', nilB ti.k x = some b') ∧ (isNilLit ti.k y = true ∨ ∃ b', nilB ti.k y = some b') := by
        unfold nilE at he
        rw [e2] at he
        simp only [cond_true] at he
        cases hx : isNilLit ti.k x with
        | true => simp only [hx, cond_true] at he; exact ⟨.inl rfl, .inr ⟨_, he⟩⟩
        | false =>
          simp only [hx, cond_false] at he
          cases hy : isNilLit ti.k y with
          | true => simp only [hy, cond_true] at he; exact ⟨.inr ⟨_, he⟩, .inl rfl⟩
          | false => simp [hy] at he
      have d1 := hden x hx hxy.1
      have d2 := hden y hy hxy.2
      refine ⟨?_, ?_, Gd_b _⟩
      · refine run_eqGuard_other ?_
        have hcc : den E x = .nilIface → (isConst xo || isConst yo) = true := fun hz => by
          obtain ⟨n, hn⟩ := d1.2 hz
          rw [hn] at e2
          simp only [ckI] at e2
          rw [← hc]; exact e2
        have d11 := d1.1
        generalize den E x = vx at *
        generalize den E y = vy at *
        cases vx <;> cases vy <;> first | rfl | exact hcc rfl | (simp at d11; done)
      · have := binOp_eql_plain (P := P) (w := w) (t := t) (x := den E x) (y := den E y) (by have := d1.1; revert this; cases den E x <;> simp) e1
        cases neg
        · simpa [den_v] using this.1
        · simpa [den_v] using this.2
theorem binR_ok (hnn : ∀ k v, Vle V k v → v ≠ 0 → ∃ b c, E k v = some (b, c)) {op : BinOp} {t : TypeId} {x y r : SV} {xo yo : Operand} (hx : Gd m V x) (hy : Gd m V y) (h : (binR T op t (isConst xo || isConst yo) x y).To r) :
    (do eqGuard op t xo yo (den E x) (den E y); binOp op t (den E x) (den E y) : Sem Value).run P w = .ok (den E r) w ∧ Gd m V r := by
  unfold binR at h
  split at h
  · rename_i k a k' b
    have hg : (eqGuard op t xo yo (den E (.i k a)) (den E (.i k' b))).run P w = .ok () w := run_eqGuard_other (by simp [den_v])
    simp only [Sem.run_bind, hg, Result.andThen_ok]
    cases hs : isShift op with
    | true => simp only [hs, cond_true] at h; simpa [den_v] using shf_ok (E := E) (w := w) t h
    | false =>
      simp only [hs, cond_false] at h
      by_cases hk : k = k'
      · subst hk; simp at h; simpa [den_v] using binI_ok (E := E) (w := w) t hs h
      · have hk' : (k == k') = false := beq_eq_false_iff_ne.2 hk
        simp [hk'] at h
  · rename_i a b
    have hg : (eqGuard op t xo yo (den E (.s a)) (den E (.s b))).run P w = .ok () w := run_eqGuard_other (by simp [den_v])
    simp only [Sem.run_bind, hg, Result.andThen_ok]
    simpa [den_v] using binS_ok (E := E) (w := w) t h
  · cases ht : T t with
    | none => simp [ht] at h
    | some ti =>
      simp only [ht] at h
      cases op <;> simp only at h <;> try (simp at h; done)
      · have := binE_ok hT (E := E) (w := w) hnn ht rfl hx hy h
        simp only [Bool.false_eq_true, if_false] at this
        exact ⟨by simp only [Sem.run_bind, this.1, Result.andThen_ok, this.2.1], this.2.2⟩
      · have := binE_ok hT (E := E) (w := w) hnn ht rfl hx hy h
        simp only [if_true] at this
        exact ⟨by simp only [Sem.run_bind, this.1, Result.andThen_ok, this.2.1], this.2.2⟩
end
end SX
end Go.Proofs.YthkedcneehdinaaGreatDoor

/- SX: places, parts, slices, what is built. -/
set_option linter.unusedVariables false
set_option linter.unusedSimpArgs false
namespace Go.Proofs.YthkedcneehdinaaGreatDoor
namespace SX
open Go

section
variable {P : Program} {T : Tb} (hT : TabOk P T) {E : Env} {m : Mem} {V : List Nat} {w : World}
include hT
theorem convR_ok {src dst : TypeId} {x r : SV} (h : (convR T src dst x).To r) : (convert src dst (den E x)).run P w = .ok (den E r) w ∧ Gd m V r := by
  unfold convR at h
  cases hts : T src with
  | none => simp [hts] at h
  | some tis =>
  obtain ⟨ds, hs, _⟩ := (hT.ti src tis hts).desc
  cases ht : T dst with
  | none => simp [hts, ht] at h
  | some ti =>
    simp only [hts, ht] at h
    have hti := hT.ti dst ti ht
    cases hk : ti.k <;> simp only [hk] at h <;> (cases x <;> simp at h)
    case int.i k k' n =>
      subst h
      refine ⟨?_, Gd_i _ _⟩
      simp only [convert, Sem.run_bind, run_underlying' hs, run_underlying' (hti.int hk), Result.andThen_ok, den_v]
      cases ds <;> simp [Conv.intToInt]
    case str.s l =>
      subst h
      refine ⟨?_, Gd_s _⟩
      simp only [convert, Sem.run_bind, run_underlying' hs, run_underlying' (hti.str hk), Result.andThen_ok, den_v]
      cases ds <;> simp
theorem nilCk_ok {x r : SV} (hx : Gd m V x) (h : (nilCk x).To r) (o : Oper) (y : Operand) (ho : o.op = .nilCheck y) (ρ : Operand → Value) (hρ : ρ y = den E x) :
    (execOp ρ o).run P w = .ok (.value (den E r)) w ∧ Gd m V r := by
  cases x <;> simp [nilCk] at h <;> subst h <;> refine ⟨?_, hx⟩ <;> simp [execOp, ho, hρ, den, wrapV, cells]
omit hT in
theorem OkA_get {l : List SV} (h : OkA m V l) : ∀ {n : Nat} {x : SV}, l[n]? = some x → Gd m V x := by
  induction l with
  | nil => intro n x hx; simp at hx
  | cons y r ih =>
    simp only [OkA] at h
    intro n x hx
    cases n with
    | zero => simp at hx; subst hx; exact ⟨h.1.2, h.1.1⟩
    | succ n => exact ih h.2 (by simpa using hx)
omit hT in
theorem denL_get {l : List SV} : ∀ {n : Nat}, (denL E l)[n]? = (l[n]?).map (den E) := by
  induction l with
  | nil => intro n; simp [denL]
  | cons y r ih =>
    intro n
    cases n with
    | zero => simp [denL, den]
    | succ n => simpa [denL] using ih
omit hT in
theorem extR_ok {x r : SV} {n : Nat} (hx : Gd m V x) (h : (extR x n).To r) : (Instr.extract (den E x) n).run P w = .ok (den E r) w ∧ Gd m V r := by
  cases x <;> simp [extR] at h
  rename_i vs
  have ho : OkA m V vs := by have := hx.1; simpa only [Ok] using this
  cases hv : vs[n]? with
  | none => simp [hv] at h
  | some v =>
    simp [hv] at h; subst h
    refine ⟨?_, OkA_get ho hv⟩
    have := denL_get (E := E) (l := vs) (n := n)
    rw [hv] at this
    simp [Instr.extract, den, wrapV, cells]
    simp [den, wrapV] at this
    simp [this]
theorem assertR_ok {x r : SV} {xt t : TypeId} {ok : Bool} (hx : Gd m V x) (h : (assertR T x t ok).To r) : (Instr.typeAssert (den E x) xt t ok).run P w = .ok (den E r) w ∧ Gd m V r := by
  unfold assertR at h
  cases ht : T t with
  | none => simp [ht] at h
  | some ti =>
    have hti := hT.ti t ti ht
    obtain ⟨d, hd, hk⟩ := hti.desc
    cases x <;> simp [ht] at h
    rename_i t' v
    have hv : Gd m V v := by have := hx.1; simp only [Ok] at this; exact this
    have key : (∀ ms, d ≠ .interface ms) ∧ t' = t ∧ r = (bif ok then .tup [v, .b true] else v) := by
      have hne : ∀ (q : R), (match ti.k with | .iface _ => R.no | _ => q).To r → (∀ ms, d ≠ .interface ms) ∧ q.To r := by
        intro q hq
        refine ⟨fun ms e => ?_, ?_⟩
        · subst e; cases hkk : ti.k <;> rw [hkk] at hq hk <;> simp [kokB] at hq hk
        · cases hkk : ti.k <;> rw [hkk] at hq <;> first | exact hq | (simp at hq; done)
      obtain ⟨h1, h2⟩ := hne _ h
      cases hb : Nat.beq t' t with
      | false => simp [hb] at h2
      | true =>
        simp only [hb, cond_true] at h2
        refine ⟨h1, Nat.eq_of_beq_eq_true hb, ?_⟩
        cases ok <;> simpa [eq_comm] using h2
    obtain ⟨h1, rfl, rfl⟩ := key
    have hrun : (Instr.typeAssert (.iface t' (den E v)) xt t' ok).run P w = .ok (if ok then .tuple #[den E v, .bool true] else den E v) w := by
      simp only [Instr.typeAssert, Sem.run_bind, run_underlying' hd, Result.andThen_ok]
      cases d <;> first | (exact absurd rfl (h1 _)) | simp
    have hden : den E (.iface t' v) = .iface t' (den E v) := by simp [den, wrapV, cells]
    rw [hden, hrun]
    cases ok
    · exact ⟨by simp, hv⟩
    · refine ⟨by simp [den, wrapV, cells, denL], ⟨?_, rfl⟩⟩
      show Ok m V (.tup [v, .b true])
      simp only [Ok, OkA]
      exact ⟨⟨hv.2, hv.1⟩, ⟨rfl, by simp⟩, trivial⟩
theorem lenR_ok {t : TypeId} {x r : SV} {ty : TypeId} (hx : Gd m V x) (h : (lenR T t x).To r) :
    (Builtin.len_ #[t] ty #[den E x]).run P w = .ok (den E r) w ∧ Gd m V r := by
  unfold lenR at h
  cases ht : T t with
  | none => simp [ht] at h
  | some ti =>
    have hti := hT.ti t ti ht
    simp only [ht] at h
    have hsl : isSl ti.k = true → ∃ e, P.underlying t = some (.slice e) := fun hh => by
      cases hk : ti.k <;> rw [hk] at hh <;> simp [isSl] at hh
      exact ⟨_, hti.slice hk⟩
    split at h
    · rename_i l
      cases hk : ti.k <;> rw [hk] at h <;> simp at h
      subst h
      refine ⟨?_, Gd_i _ _⟩
      simp only [Builtin.len_, den_v]
      simp [run_underlying' (hti.str hk), goInt]; rfl
    · cases hh : isSl ti.k with
      | false => simp [hh] at h
      | true =>
        obtain ⟨e, hu⟩ := hsl hh
        simp [hh] at h; subst h
        refine ⟨?_, Gd_i _ _⟩
        simp [Builtin.len_, run_underlying' hu, den_v, goInt]
    · cases hh : isSl ti.k with
      | false => simp [hh] at h
      | true =>
        obtain ⟨e, hu⟩ := hsl hh
        simp [hh] at h; subst h
        refine ⟨?_, Gd_i _ _⟩
        simp [Builtin.len_, run_underlying' hu, den, wrapV, cells, goInt]
    · rename_i k ver off len cap dc
      cases hh : isSl ti.k with
      | false => simp [hh] at h
      | true =>
        obtain ⟨e, hu⟩ := hsl hh
        simp [hh] at h; subst h
        refine ⟨?_, Gd_i _ _⟩
        have : ∃ o c, den E (.sl k ver off len cap dc) = .slice o len c := by
          simp only [den, wrapV, cells, List.headD_cons]
          cases E k ver with
          | none => exact ⟨_, _, rfl⟩
          | some p => exact ⟨_, _, rfl⟩
        obtain ⟨o, c, ho⟩ := this
        simp [Builtin.len_, run_underlying' hu, ho, goInt, den_v]
    · simp at h
    · cases hk : ti.k <;> rw [hk] at h <;> simp at h
      subst h
      refine ⟨?_, Gd_i _ _⟩
      simp [Builtin.len_, run_underlying' (hti.array hk), den_v, goInt]
end
end SX
end Go.Proofs.YthkedcneehdinaaGreatDoor

/- SX: places by an index, parts of values, slices, what is built. -/
set_option linter.unusedVariables false
set_option linter.unusedSimpArgs false
namespace Go.Proofs.YthkedcneehdinaaGreatDoor
namespace SX
open Go

theorem constIx_spec {o : Operand} {N : Nat} (h : constIx o N = true) : ∃ k n, o = .const (.int k (Int.ofNat n)) ∧ n < N := by
  cases o <;> simp [constIx] at h
  rename_i v
  cases v <;> try (simp at h; done)
  rename_i k n
  cases n <;> try (simp at h; done)
  rename_i n
  exact ⟨k, n, rfl, Nat.le_of_ble_eq_true h⟩
theorem ofs_app (p : List Ix) (x : Ix) : ofs (p ++ [x]) = ofs p + (x.i * x.sz + x.sub) := by
  induction p with
  | nil => simp [ofs]
  | cons y p ih => simp [ofs, ih]; omega
section
variable {P : Program} {T : Tb} (hT : TabOk P T) {E : Env} {m : Mem} {V : List Nat} {w : World}
include hT
theorem addrIx_ok {t : TypeId} {x ix r : SV} {ixo : Operand} {ρ : Operand → Value} (hρ : ρ ixo = den E ix) (hc : ∀ v, ixo = .const v → ρ ixo = v) (hnn : ∀ k v, Vle V k v → v ≠ 0 → ∃ b c, E k v = some (b, c)) (hx : Gd m V x) (hi : Gd m V ix) (h : (addrIx T t x ixo ix).To r) :
    (Instr.indexAt t (den E x) (ρ ixo)).run P w = .ok (den E r) w ∧ Gd m V r := by
  unfold addrIx at h
  cases ix <;> try (simp at h; done)
  rename_i ki n
  simp only at h
  rw [hρ, den_v.1]
  have hcn : ∀ N, constIx ixo N = true → 0 ≤ n ∧ n < N ∧ (n.toNat : Int) = n := by
    intro N hN
    obtain ⟨k, u, rfl, hu⟩ := constIx_spec hN
    have := hc _ rfl
    rw [hρ, den_v.1] at this
    simp at this
    obtain ⟨_, rfl⟩ := this
    omega
  cases ht : T t with
  | none => simp [ht] at h
  | some ti =>
    have hti := hT.ti t ti ht
    simp only [ht] at h
    cases hk : ti.k <;> simp only [hk] at h <;> try (simp at h; done)
    case array N e =>
      cases hte : T e with
      | none => simp [hte] at h
      | some te =>
        have hti' := hT.ti e te hte
        simp only [hte] at h
        have hrun : ∀ b u : Nat, 0 ≤ n → n < N → (Instr.indexAt t (.pointer (some ⟨b, u, none⟩)) (.int ki n)).run P w = .ok (.pointer (some ⟨b, u + n.toNat * te.size, none⟩)) w := fun b u h0 h1 => by
          simp only [Instr.indexAt, Sem.run_bind, asIntOf, Sem.run_pure, Result.andThen_ok, run_underlying' (hti.array hk), Instr.sureAddr]
          rw [if_pos ⟨h0, h1⟩]
          simp [hti'.run_sizeOf, add_plain']
        cases x <;> try (simp at h; done)
        case ptr k ver off p =>
          simp only at h
          have fin : 0 ≤ n → n < N → ∀ c, (Instr.indexAt t (den E (.ptr k ver off p)) (.int ki n)).run P w = .ok (den E (.ptr k ver off (p ++ [⟨c, n.toNat, te.size, 0⟩]))) w ∧ Gd m V (.ptr k ver off (p ++ [⟨c, n.toNat, te.size, 0⟩])) := by
            intro h0 h1 c
            refine ⟨?_, by simpa [Gd, Ok, live] using hx⟩
            simp only [den, wrapV, cells, List.headD_cons, hrun _ _ h0 h1, ofs_app]
            simp [Nat.add_assoc]
          cases hf : ti.flat with
          | true =>
            simp [hf] at h
            obtain ⟨h1, rfl⟩ := h
            refine ⟨?_, by simpa [Gd, Ok, live] using hx⟩
            simp only [den, wrapV, cells, List.headD_cons, hrun _ _ h1.1 h1.2]
            rw [Nat.add_right_comm off (ofs p)]
          | false =>
          simp only [hf, cond_false] at h
          cases hcx : constIx ixo N with
          | true => simp [hcx] at h; subst h; have := hcn N hcx; exact fin this.1 this.2.1 _
          | false => simp [hcx] at h; obtain ⟨h1, rfl⟩ := h; exact fin h1.1 h1.2 _
        case ipt α d q enc xs a j sub p =>
          simp only at h
          have fin : 0 ≤ n → n < N → ∀ c, (Instr.indexAt t (den E (.ipt α d q enc xs a j sub p)) (.int ki n)).run P w = .ok (den E (.ipt α d q enc xs a j sub (p ++ [⟨c, n.toNat, te.size, 0⟩]))) w ∧ Gd m V (.ipt α d q enc xs a j sub (p ++ [⟨c, n.toNat, te.size, 0⟩])) := by
            intro h0 h1 c
            refine ⟨?_, by simpa [Gd, Ok, live] using hx⟩
            simp only [den, wrapV, cells, List.headD_cons, hrun _ _ h0 h1, ofs_app]
            simp [Nat.add_assoc]
          cases hf : (ti.flat && !intsAt (enc (xs.getD j d)) sub) with
          | true =>
            simp only [hf, cond_true] at h
            simp at h
            obtain ⟨h1, rfl⟩ := h
            refine ⟨?_, by simpa [Gd, Ok, live] using hx⟩
            simp only [den, wrapV, cells, List.headD_cons, hrun _ _ h1.1 h1.2]
            congr 4
            omega
          | false =>
          simp only [hf, cond_false] at h
          cases hcx : constIx ixo N with
          | true => simp [hcx] at h; subst h; have := hcn N hcx; exact fin this.1 this.2.1 _
          | false => simp [hcx] at h; obtain ⟨h1, rfl⟩ := h; exact fin h1.1 h1.2 _
    case slice e =>
      cases hte : T e with
      | none => simp [hte] at h
      | some te =>
        have hti' := hT.ti e te hte
        simp only [hte] at h
        have hrun : ∀ (a : Addr) (l c : Nat), 0 ≤ n → n < l → (Instr.indexAt t (.slice (some a) l c) (.int ki n)).run P w = .ok (.pointer (some (a.add (n.toNat * te.size)))) w := fun a l c h0 h1 => by
          simp only [Instr.indexAt, Sem.run_bind, asIntOf, Sem.run_pure, Result.andThen_ok, run_underlying' (hti.slice hk), Instr.sureAddr]
          rw [if_pos ⟨h0, h1⟩]
          simp [hti'.run_sizeOf]
        cases x <;> try (simp at h; done)
        case imm α d q enc xs a cap =>
          simp only at h
          cases hb : Nat.beq q te.size with
          | false => simp [hb] at h
          | true =>
            simp only [hb, cond_true, R.To_ob] at h
            obtain ⟨⟨h0, h1⟩, rfl⟩ := h
            have hq := Nat.eq_of_beq_eq_true hb
            have ho := hx.1
            simp only [Ok] at ho
            obtain ⟨ho1, ho2, ho3, ho4⟩ := ho
            have hlt : n.toNat < xs.length := by omega
            obtain ⟨ad, arr, ty, fr, e1, e2, _⟩ := ho2 (by intro e; simp [e] at hlt)
            subst e1
            refine ⟨?_, ⟨by simp only [Ok, Option.getD_some]; exact ⟨hlt, ho2, ho3, ho4⟩, rfl⟩⟩
            simp only [den, wrapV, cells, List.headD_cons, hrun _ _ _ h0 h1, add_none e2, ofs, hq, Nat.add_zero, Option.getD_some]
        case sl k ver off len cap dc =>
          cases hf : ti.flat with
          | true =>
            have h : (0 ≤ n ∧ n < len) ∧ SV.ptr k ver (off + n.toNat * te.size) [] = r := by cases cap <;> simpa [hf] using h
            obtain ⟨⟨h0, h1⟩, rfl⟩ := h
            have ho := hx.1
            simp only [Ok] at ho
            have hv0 : ver ≠ 0 := fun e => by have := ho.2 e; omega
            obtain ⟨b, c, he⟩ := hnn k ver ho.1 hv0
            refine ⟨?_, ⟨by simp only [Ok]; exact ⟨ho.1, hv0⟩, rfl⟩⟩
            have hne : ∀ c' : Nat, (if cap = none ∧ len = 0 ∧ c' = dc then 0 else off) = off := fun c' => if_neg fun h => absurd h.2.1 (by omega)
            simp only [den, wrapV, cells, List.headD_cons, he, hne, hrun _ _ _ h0 h1, add_plain', ofs, Env.blk, Option.map_some, Option.getD_some, Nat.add_zero]
          | false =>
          simp only [hf, cond_false] at h
          cases cap with
          | some cap =>
            simp only at h
            cases hcx : constIx ixo len with
            | false =>
              simp [hcx] at h
              obtain ⟨⟨h0, h1⟩, rfl⟩ := h
              have ho := hx.1
              simp only [Ok] at ho
              have hv0 : ver ≠ 0 := fun e => by have := ho.2 e; omega
              obtain ⟨b, c, he⟩ := hnn k ver ho.1 hv0
              refine ⟨?_, ⟨by simp only [Ok]; exact ⟨ho.1, hv0⟩, rfl⟩⟩
              have hne : ∀ c' : Nat, (if some cap = none ∧ len = 0 ∧ c' = dc then 0 else off) = off := fun c' => if_neg fun h => by cases h.1
              simp only [den, wrapV, cells, List.headD_cons, he, hne, hrun _ _ _ h0 h1, add_plain', ofs, Env.blk, Option.map_some, Option.getD_some, Nat.add_zero]
            | true =>
              simp [hcx] at h; subst h
              have h1 := hcn len hcx
              have ho := hx.1
              simp only [Ok] at ho
              have hv0 : ver ≠ 0 := fun e => by have := ho.2 e; omega
              obtain ⟨b, c, he⟩ := hnn k ver ho.1 hv0
              refine ⟨?_, ⟨by simp only [Ok]; exact ⟨ho.1, hv0⟩, rfl⟩⟩
              have hne : ∀ c' : Nat, (if some cap = none ∧ len = 0 ∧ c' = dc then 0 else off) = off := fun c' => if_neg fun h => by cases h.1
              simp only [den, wrapV, cells, List.headD_cons, he, hne, hrun _ _ _ h1.1 h1.2.1, add_plain', ofs, Env.blk, Option.map_some, Option.getD_some, Nat.add_zero]
          | none =>
            simp at h
            obtain ⟨⟨hoff, h0, h1⟩, rfl⟩ := h
            have ho := hx.1
            simp only [Ok] at ho
            have hv0 : ver ≠ 0 := fun e => by have := ho.2 e; omega
            obtain ⟨b, c, he⟩ := hnn k ver ho.1 hv0
            refine ⟨?_, ⟨by simp only [Ok]; exact ⟨ho.1, hv0⟩, rfl⟩⟩
            have hne : ∀ c' : Nat, (if len = 0 ∧ c' = dc then 0 else dc * te.size) = dc * te.size := fun c' => if_neg fun h => absurd h.1 (by omega)
            simp only [den, wrapV, cells, List.headD_cons, he, hrun _ _ _ h0 h1, add_plain', ofs, Env.blk, Option.map_some, Option.getD_some, Nat.add_zero, Nat.zero_add, Nat.add_mul, hoff, true_and, hne]
/-- A part of an aggregate. -/
theorem part_ok {e : TypeId} {te : TI} (hte : T e = some te) {cs : List SV} (ho : OkL m V cs) {o : Nat} {l : List SV} (hl : OkL m V l) (hat : ∀ u c, (cellsL E l)[u]? = some c → (cellsL E cs)[o + u]? = some c)
    {x : SV} (hr : rdT te.k.agg te.size l = some x) : (part e (cellsL E cs).toArray o).run P w = .ok (den E x) w ∧ Gd m V x := by
  refine ⟨?_, rdT_Gd hr hl⟩
  have hti := hT.ti e te hte
  cases ha : te.k.agg with
  | true =>
    rw [ha] at hr
    obtain ⟨cs', rfl, ho', hlen, hc⟩ := rdT_agg (E := E) hr hl
    have : (cellsL E cs).toArray.extract o (o + te.size) = (cellsL E cs').toArray := by
      apply Array.ext'
      simp only [List.extract_toArray, List.extract_eq_take_drop, Nat.add_sub_cancel_left]
      apply List.ext_getElem?
      intro u
      by_cases hu : u < te.size
      · have hx : (cellsL E cs')[u]? = some ((cellsL E cs')[u]'(by omega)) := List.getElem?_eq_getElem _
        have := hat u _ (hc u _ hx)
        rw [List.getElem?_take_of_lt hu, List.getElem?_drop, this, hx]
      · rw [List.getElem?_eq_none (by simp; omega), List.getElem?_eq_none (by omega)]
    simp only [part, Sem.run_bind, hti.run_isAgg, ha, Result.andThen_ok, if_true, hti.run_sizeOf, Sem.run_pure, this, den_agg]
  | false =>
    rw [ha] at hr
    obtain ⟨_, _, hc⟩ := rdT_cell (E := E) hr hl
    have := hat 0 _ hc
    simp only [Nat.add_zero] at this
    simp only [part, Sem.run_bind, hti.run_isAgg, ha, Result.andThen_ok, Bool.false_eq_true, if_false, List.getElem?_toArray, this, Sem.run_pure]
theorem indexR_ok {t : TypeId} {x ix r : SV} {c : Bool} (hc : c = true → ∀ k n, ix = .i k n → 0 ≤ n) (hx : Gd m V x) (h : (indexR T t x ix c).To r) :
    (Instr.index t (den E x) (den E ix)).run P w = .ok (den E r) w ∧ Gd m V r := by
  unfold indexR at h
  split at h
  · rename_i l k n
    cases ht : T t with
    | none => simp [ht] at h
    | some ti =>
    have hti := hT.ti t ti ht
    simp only [ht] at h
    cases hk : ti.k <;> rw [hk] at h <;> simp at h
    obtain ⟨⟨h0, h1⟩, rfl⟩ := h
    refine ⟨?_, Gd_i _ _⟩
    have hlt : n.toNat < l.length := by omega
    have hg : (⟨⟨l⟩⟩ : ByteArray)[n.toNat]? = some (l[n.toNat]'hlt) := by
      rw [getElem?_def, dif_pos (show n.toNat < (⟨⟨l⟩⟩ : ByteArray).size from hlt)]
      rfl
    simp only [Instr.index, den_v, Sem.run_bind, asIntOf, Sem.run_pure, Result.andThen_ok, run_underlying' (hti.str hk), if_pos h0, hg]
    simp [hlt]
  · rename_i cs k n
    cases ht : T t with
    | none => simp [ht] at h
    | some ti =>
      have hti := hT.ti t ti ht
      simp only [ht] at h
      cases hk : ti.k <;> simp only [hk] at h <;> try (simp at h; done)
      rename_i N e
      cases hte : T e with
      | none => simp [hte] at h
      | some te =>
        have hti' := hT.ti e te hte
        simp only [hte] at h
        cases hf : ti.flat with
        | true =>
          simp only [hf, cond_true] at h
          cases hd : dropC cs (n.toNat * te.size) with
          | none => rw [hd] at h; simp at h
          | some l =>
            rw [hd] at h
            simp only at h
            cases hrd : rdT te.k.agg te.size l with
            | none => rw [hrd] at h; simp at h
            | some y =>
              rw [hrd] at h
              simp at h
              obtain ⟨⟨h0, hN⟩, rfl⟩ := h
              have ho : OkL m V cs := by have := hx.1; simpa only [Ok] using this
              obtain ⟨o2, hat⟩ := dropC_cells E hd ho
              obtain ⟨h3, h4⟩ := part_ok hT (w := w) hte ho o2 hat hrd
              refine ⟨?_, h4⟩
              simp only [Instr.index, den_agg, den_v, Sem.run_bind, asIntOf, Sem.run_pure, Result.andThen_ok, run_underlying' (hti.array hk)]
              rw [if_pos ⟨h0, hN⟩]
              simp only [Sem.run_bind, hti'.run_sizeOf, Result.andThen_ok, h3]
        | false =>
        simp only [hf, cond_false] at h
        match cs, hx, h with
        | [u], hx, h =>
        simp only at h
        cases hbn : Nat.beq (unitN u) N with
        | false => simp [hbn] at h
        | true =>
        simp only [hbn, cond_true] at h
        have hun := Nat.eq_of_beq_eq_true hbn
        have ho : OkL m V [u] := by have := hx.1; simpa only [Ok] using this
        have key : 0 ≤ n ∧ (rdR te.k.agg te.size (stepU u ⟨c, n.toNat, te.size, 0⟩)).To r := by
          cases hrd : rdR te.k.agg te.size (stepU u ⟨c, n.toNat, te.size, 0⟩) with
          | no => rw [hrd] at h; simp at h
          | v y =>
            rw [hrd] at h
            cases c with
            | true => simp at h; exact ⟨hc rfl k n rfl, by simp [h]⟩
            | false => simp at h
          | ob p y => rw [hrd] at h; simp at h; exact ⟨h.1.1, by simp [h.1.2, h.2]⟩
        obtain ⟨h0, h2⟩ := key
        obtain ⟨l, hn, hrd⟩ := rdR_To h2
        have ho1 : Ok m V u := by simp only [OkL] at ho; exact ho.1.2
        obtain ⟨o2, hat⟩ := stepU_spec (E := E) hn ho1
        have hat' : ∀ j v, (cellsL E l)[j]? = some v → (cellsL E [u])[n.toNat * te.size + j]? = some v := fun j v hv => by
          have := hat j v hv
          simpa [cellsL] using this
        obtain ⟨h3, h4⟩ := part_ok hT (w := w) hte ho o2 hat' hrd
        refine ⟨?_, h4⟩
        have hN : n < N := by
          have := stepU_lt hn
          simp only at this
          omega
        simp only [Instr.index, den_agg, den_v, Sem.run_bind, asIntOf, Sem.run_pure, Result.andThen_ok, run_underlying' (hti.array hk)]
        rw [if_pos ⟨h0, hN⟩]
        simp only [Sem.run_bind, hti'.run_sizeOf, Result.andThen_ok, h3]
  · simp at h
theorem fieldR_ok {t : TypeId} {x r : SV} {f : Nat} (hx : Gd m V x) (h : (fieldR T t x f).To r) : (Instr.field t (den E x) f).run P w = .ok (den E r) w ∧ Gd m V r := by
  unfold fieldR at h
  cases x <;> try (simp at h; done)
  rename_i cs
  simp only at h
  cases ht : T t with
  | none => simp [ht] at h
  | some ti =>
    have hti := hT.ti t ti ht
    simp only [ht] at h
    cases hk : ti.k <;> simp only [hk] at h <;> try (simp at h; done)
    rename_i fs
    obtain ⟨fields, hu, hfs, _⟩ := hti.struct hk
    cases hf : fs[f]? with
    | none => simp [hf] at h
    | some oe =>
      obtain ⟨o, e⟩ := oe
      simp only [hf] at h
      cases hte : T e with
      | none => simp [hte] at h
      | some te =>
        simp only [hte] at h
        obtain ⟨l, hn, hrd⟩ := rdR_To h
        cases hd : dropC cs o with
        | none => simp [hd] at hn
        | some l' =>
          simp [hd] at hn
          subst hn
          have ho : OkL m V cs := by have := hx.1; simpa only [Ok] using this
          obtain ⟨o2, hat⟩ := dropC_cells E hd ho
          obtain ⟨h3, h4⟩ := part_ok hT (w := w) hte ho o2 hat hrd
          refine ⟨?_, h4⟩
          have hfld : ∃ fl, fields[f]? = some fl ∧ fl.offset = o ∧ fl.type = e := by
            rw [← hfs] at hf
            simp only [List.getElem?_map, Array.getElem?_toList] at hf
            cases hx : fields[f]? with
            | none => simp [hx] at hf
            | some fl => simp [hx] at hf; exact ⟨fl, rfl, hf.1, hf.2⟩
          obtain ⟨fl, hfl, hfo, hfe⟩ := hfld
          simp only [Instr.field, Sem.run_bind, run_underlying' hu, Result.andThen_ok, hfl, den_agg, asAgg, Sem.run_pure, hfe, hfo, h3]
omit hT in
theorem minR_ok {b : Bool} {l : List SV} {r : SV} (h : (minR b l).To r) (at_ : Array TypeId) (ty : TypeId) :
    ((if b then Builtin.max_ else Builtin.min_) at_ ty (denL E l).toArray).run P w = .ok (den E r) w ∧ Gd m V r := by
  unfold minR at h
  split at h
  · rename_i k x k' y
    by_cases hk : k = k'
    · subst hk
      simp at h; subst h
      refine ⟨?_, Gd_i _ _⟩
      cases b <;> simp [denL, wrapV, cells, Builtin.min_, Builtin.max_, Builtin.min2, Builtin.max2, den_v]
    · have hk' : (k == k') = false := beq_eq_false_iff_ne.2 hk
      simp [hk'] at h
  · simp at h
omit hT in
theorem splice_cells {segs s' new : List SV} {off : Nat} (h : spliceC segs off new = some s') (ho : OkL m V segs) (hn : OkL m V new) :
    OkL m V s' ∧ (cellsL E s').length = (cellsL E segs).length ∧ off + (cellsL E new).length ≤ (cellsL E segs).length ∧
    cellsL E s' = (cellsL E segs).take off ++ cellsL E new ++ (cellsL E segs).drop (off + (cellsL E new).length) := by
  unfold spliceC at h
  rw [wdQ_eq] at h
  cases ht : takeC segs off with
  | none => simp [ht] at h
  | some pre =>
    simp only [ht] at h
    cases hd : dropC segs (off + wdL new) with
    | none => simp [hd] at h
    | some post =>
      simp only [hd, Option.some.injEq] at h
      subst h
      obtain ⟨r1, e1, w1⟩ := takeC_spec ht
      obtain ⟨p2, e2, w2⟩ := dropC_spec hd
      have o1 := OkL_append.1 (e1 ▸ ho)
      have o2 := OkL_append.1 (e2 ▸ ho)
      have ok' : OkL m V (pre ++ new ++ post) := OkL_append.2 ⟨OkL_append.2 ⟨o1.1, hn⟩, o2.2⟩
      have l1 := length_cellsL E pre V o1.1
      have l2 := length_cellsL E new V hn
      have l3 := length_cellsL E p2 V o2.1
      have c1 : cellsL E segs = cellsL E pre ++ cellsL E r1 := by rw [e1, cellsL_append]
      have c2 : cellsL E segs = cellsL E p2 ++ cellsL E post := by rw [e2, cellsL_append]
      have hpre : (cellsL E segs).take off = cellsL E pre := by rw [c1, List.take_left' (by omega)]
      have hpost : (cellsL E segs).drop (off + (cellsL E new).length) = cellsL E post := by rw [c2, List.drop_left' (by omega)]
      have hlen : (cellsL E segs).length = off + wdL new + (cellsL E post).length := by rw [c2]; simp; omega
      refine ⟨ok', ?_, by omega, by rw [cellsL_append, cellsL_append, hpre, hpost]⟩
      rw [cellsL_append, cellsL_append]
      simp only [List.length_append]
      omega
omit hT in
theorem den_cells_list {x : SV} (hx : Gd m V x) (hok : okCells x = true) : (den E x).cells.toList = cellsL E (segsOf x) ∧ OkL m V (segsOf x) := by
  cases x <;> try (simp [okCells, isCell] at hok; done)
  case agg cs => exact ⟨by simp [den_agg, Value.cells, segsOf], hx.1⟩
  case raw v => cases v <;> try (simp [okCells, isCell, cellV] at hok; done)
                all_goals (refine ⟨?_, ?_⟩ <;> simp [den, wrapV, cells, segsOf, cellsL, Value.cells, OkL, isUnit, cellV, Ok])
  case sl k ver off len cap dc =>
    refine ⟨?_, ⟨⟨rfl, hx.1⟩, trivial⟩⟩
    simp only [den, wrapV, cells, segsOf, cellsL, List.headD_cons, List.append_nil]
    cases E k ver with
    | none => rfl
    | some p => rfl
  all_goals (refine ⟨?_, ⟨⟨rfl, hx.1⟩, trivial⟩⟩; simp [den, wrapV, cells, segsOf, cellsL, Value.cells])
/-! ### What is built -/
omit hT in
theorem foldl_set (cs : List Value) : ∀ (acc : List Value) (off : Nat), off + cs.length ≤ acc.length →
    (cs.toArray.zipIdx.foldl (fun (a : Array Value) (p : Value × Nat) => a.setIfInBounds (off + p.2) p.1) acc.toArray) = (acc.take off ++ cs ++ acc.drop (off + cs.length)).toArray := by
  intro acc off h
  rw [← Array.foldl_toList]
  simp only [Array.toList_zipIdx]
  have key : ∀ (cs : List Value) (k : Nat) (acc : List Value), off + k + cs.length ≤ acc.length →
      List.foldl (fun (a : Array Value) (p : Value × Nat) => a.setIfInBounds (off + p.2) p.1) acc.toArray (cs.zipIdx k) = (acc.take (off + k) ++ cs ++ acc.drop (off + k + cs.length)).toArray := by
    intro cs
    induction cs with
    | nil => intro k acc h; simp
    | cons c cs ih =>
      intro k acc h
      simp only [List.length_cons] at h
      simp only [List.zipIdx_cons, List.foldl_cons, List.setIfInBounds_toArray]
      rw [ih (k + 1) (acc.set (off + k) c) (by simp; omega)]
      congr 1
      apply List.ext_getElem?
      intro i
      simp only [List.length_cons]
      by_cases h1 : i < off + k
      · rw [List.append_assoc, List.append_assoc, List.getElem?_append_left (by simp; omega), List.getElem?_append_left (by simp; omega)]
        rw [List.getElem?_take_of_lt (by omega), List.getElem?_take_of_lt h1, List.getElem?_set_ne (by omega)]
      · by_cases h2 : i = off + k
        · subst h2
          rw [List.append_assoc, List.append_assoc, List.getElem?_append_left (by simp; omega), List.getElem?_append_right (by simp; omega)]
          rw [List.getElem?_take_of_lt (by omega), List.getElem?_set_self (by omega)]
          simp [Nat.min_eq_left (show off + k ≤ acc.length by omega)]
        · have e1 : (List.take (off + (k + 1)) (acc.set (off + k) c)).length = off + k + 1 := by simp; omega
          have e2 : (List.take (off + k) acc).length = off + k := by simp; omega
          have l1 : ∀ B : List Value, (List.take (off + (k + 1)) (acc.set (off + k) c) ++ B)[i]? = B[i - (off + k + 1)]? := fun B => by
            rw [List.getElem?_append_right (by omega), e1]
          have l2 : ∀ B : List Value, (List.take (off + k) acc ++ c :: B)[i]? = B[i - (off + k + 1)]? := fun B => by
            rw [List.getElem?_append_right (by omega), e2, show i - (off + k) = (i - (off + k + 1)) + 1 by omega, List.getElem?_cons_succ]
          rw [List.append_assoc, List.append_assoc, l1, List.cons_append, l2]
          by_cases h3 : i - (off + k + 1) < cs.length
          · rw [List.getElem?_append_left h3, List.getElem?_append_left h3]
          · rw [List.getElem?_append_right (by omega), List.getElem?_append_right (by omega), List.getElem?_drop, List.getElem?_drop, List.getElem?_set_ne (by omega)]
            congr 1; omega
  simpa using key cs 0 acc (by omega)
omit hT in
theorem fill_one {place : Nat → Option (Nat × Nat)} {i off size : Nat} {v : Value} {cs acc : List Value} {rest : List (Nat × Value)} (hp : place i = some (off, size)) (hv : v.cells.toList = cs) (hs : cs.length = size) (hl : off + cs.length ≤ acc.length) :
    Instr.fill place acc.toArray ((i, v) :: rest) = Instr.fill place (acc.take off ++ cs ++ acc.drop (off + cs.length)).toArray rest := by
  have hv' : v.cells = cs.toArray := by rw [← hv]
  simp only [Instr.fill, hp, hv', List.size_toArray, hs]
  have : ¬ (off + size > acc.length) := by omega
  simp only [ne_eq, not_true_eq_false, decide_false, Bool.false_or, decide_eq_true_eq, this, Bool.false_eq_true, if_false]
  have := foldl_set cs acc off hl
  rw [hs] at this
  rw [← this]
omit hT in
theorem OkL_zeros {z : List SV} (hz : OkL m V z) : ∀ n, OkL m V (zeros n z)
  | 0 => by simp [zeros, OkL]
  | n + 1 => by simp only [zeros]; exact OkL_append.2 ⟨hz, OkL_zeros hz n⟩
theorem TabOk.zeroOk {t : TypeId} {ti : TI} (ht : T t = some ti) : OkL m V ti.zero ∧ cellsL E ti.zero = cellsL E0 ti.zero := by
  have := (hT.ti t ti ht).zok
  have h1 : OkL m [] ti.zero := OkL.mono (fun _ _ h => by simp at h) _ [] [] (fun _ _ h => h) this
  exact ⟨h1.up, h1.E0⟩
theorem buildParts_ok {fs : List (Nat × TypeId)} {place : Nat → Option (Nat × Nat)} (hp : ∀ (i o : Nat) (e : TypeId) (te : TI), fs[i]? = some (o, e) → T e = some te → place i = some (o, te.size)) :
    ∀ (parts : List (Nat × SV)) (acc cs : List SV), (∀ p ∈ parts, okCells p.2 = true → Gd m V p.2) → OkL m V acc → buildParts T fs parts acc = some cs →
      OkL m V cs ∧ Instr.fill place (cellsL E acc).toArray (parts.map fun p => (p.1, den E p.2)) = some (cellsL E cs).toArray
  | [], acc, cs, _, ho, h => by simp [buildParts] at h; subst h; exact ⟨ho, by simp [Instr.fill]⟩
  | (i, x) :: r, acc, cs, hg, ho, h => by
    simp only [buildParts] at h
    cases hf : fs[i]? with
    | none => simp [hf] at h
    | some oe =>
      obtain ⟨o, e⟩ := oe
      cases hte : T e with
      | none => simp [hf, hte] at h
      | some te =>
        simp only [hf, hte, wdB_eq] at h
        cases hb : (okCells x && Nat.beq (wdL (segsOf x)) te.size) with
        | false => simp [hb] at h
        | true =>
          simp only [hb, cond_true] at h
          simp at hb
          cases hs : spliceC acc o (segsOf x) with
          | none => simp [hs] at h
          | some acc' =>
            simp only [hs] at h
            have hx := hg (i, x) (List.mem_cons_self ..) hb.1
            obtain ⟨h1, h2⟩ := den_cells_list (E := E) hx hb.1
            obtain ⟨o1, o2, o3, o4⟩ := splice_cells (E := E) hs ho h2
            obtain ⟨q1, q2⟩ := buildParts_ok hp r acc' cs (fun p hp => hg p (List.mem_cons_of_mem _ hp)) o1 h
            refine ⟨q1, ?_⟩
            have hlen : (cellsL E (segsOf x)).length = te.size := by rw [length_cellsL E _ V h2]; exact hb.2
            rw [List.map_cons, fill_one (hp i o e te hf hte) h1 hlen o3, ← o4]
            exact q2
omit hT in
theorem buildArr_ok {sz : Nat} : ∀ (parts : List (Nat × SV)) (acc cs : List SV), (∀ p ∈ parts, okCells p.2 = true → Gd m V p.2) → OkL m V acc → buildArr sz parts acc = some cs →
      OkL m V cs ∧ Instr.fill (fun i => some (i * sz, sz)) (cellsL E acc).toArray (parts.map fun p => (p.1, den E p.2)) = some (cellsL E cs).toArray
  | [], acc, cs, _, ho, h => by simp [buildArr] at h; subst h; exact ⟨ho, by simp [Instr.fill]⟩
  | (i, x) :: r, acc, cs, hg, ho, h => by
    simp only [buildArr, wdB_eq] at h
    cases hb : (okCells x && Nat.beq (wdL (segsOf x)) sz) with
    | false => simp [hb] at h
    | true =>
      simp only [hb, cond_true] at h
      simp at hb
      cases hs : spliceC acc (i * sz) (segsOf x) with
      | none => simp [hs] at h
      | some acc' =>
        simp only [hs] at h
        have hx := hg (i, x) (List.mem_cons_self ..) hb.1
        obtain ⟨h1, h2⟩ := den_cells_list (E := E) hx hb.1
        obtain ⟨o1, o2, o3, o4⟩ := splice_cells (E := E) hs ho h2
        obtain ⟨q1, q2⟩ := buildArr_ok r acc' cs (fun p hp => hg p (List.mem_cons_of_mem _ hp)) o1 h
        refine ⟨q1, ?_⟩
        have hlen : (cellsL E (segsOf x)).length = sz := by rw [length_cellsL E _ V h2]; exact hb.2
        rw [List.map_cons, fill_one (place := fun i => some (i * sz, sz)) rfl h1 hlen o3, ← o4]
        exact q2
omit hT in
theorem packI_spec {k : IntKind} : ∀ {cs : List SV} {xs : List Int}, packI k cs = some xs → cellsL E cs = xs.map (.int k) ∧ wdL cs = xs.length
  | [], xs, h => by simp [packI] at h; subst h; simp [cellsL, wdL]
  | x :: r, xs, h => by
    cases x <;> try (simp [packI] at h; done)
    rename_i k' n
    simp only [packI] at h
    by_cases hk : k = k'
    · subst hk
      simp at h
      cases hr : packI k r with
      | none => simp [hr] at h
      | some l =>
        simp [hr] at h; subst h
        have := packI_spec hr
        simp [cellsL, cells, this.1, wdL, wd, this.2]; omega
    · have hk' : (k == k') = false := beq_eq_false_iff_ne.2 hk
      simp [hk'] at h
omit hT in
theorem packA_ok {te : TI} {n : Nat} {cs : List SV} (ho : OkL m V cs) : OkL m V (packA te n cs) ∧ cellsL E (packA te n cs) = cellsL E cs := by
  unfold packA
  simp only [wdB_eq]
  split
  · rename_i k hk
    cases hb : Nat.beq (wdL cs) n with
    | false => exact ⟨ho, rfl⟩
    | true =>
      simp only [cond_true]
      have hw := Nat.eq_of_beq_eq_true hb
      split
      · rename_i xs hx
        obtain ⟨h1, h2⟩ := packI_spec (E := E) hx
        exact ⟨by simp [OkL, isUnit, Ok, ← hw, h2], by simp [cellsL, cells, h1]⟩
      · exact ⟨ho, rfl⟩
  · exact ⟨ho, rfl⟩
omit hT in
theorem packF_ok {f : Bool} {te : TI} {n : Nat} {cs : List SV} (ho : OkL m V cs) : OkL m V (packF f te n cs) ∧ cellsL E (packF f te n cs) = cellsL E cs := by
  cases f with
  | true => exact ⟨ho, rfl⟩
  | false => exact packA_ok ho
omit hT in
theorem buildParts_cells {fs : List (Nat × TypeId)} : ∀ (parts : List (Nat × SV)) (acc cs : List SV), buildParts T fs parts acc = some cs → ∀ p ∈ parts, okCells p.2 = true
  | [], _, _, _ => by simp
  | (i, x) :: r, acc, cs, h => by
    simp only [buildParts, wdB_eq] at h
    split at h
    · split at h
      · cases hb : (okCells x && Nat.beq (wdL (segsOf x)) _) with
        | false => rw [hb] at h; simp at h
        | true =>
          rw [hb] at h; simp only [cond_true] at h
          split at h
          · have ih := buildParts_cells r _ cs h
            intro p hp
            rcases List.mem_cons.1 hp with rfl | hp
            · simp at hb; exact hb.1
            · exact ih p hp
          · simp at h
      · simp at h
    · simp at h
omit hT in
theorem buildArr_cells {sz : Nat} : ∀ (parts : List (Nat × SV)) (acc cs : List SV), buildArr sz parts acc = some cs → ∀ p ∈ parts, okCells p.2 = true
  | [], _, _, _ => by simp
  | (i, x) :: r, acc, cs, h => by
    simp only [buildArr, wdB_eq] at h
    cases hb : (okCells x && Nat.beq (wdL (segsOf x)) sz) with
    | false => rw [hb] at h; simp at h
    | true =>
      rw [hb] at h; simp only [cond_true] at h
      split at h
      · have ih := buildArr_cells r _ cs h
        intro p hp
        rcases List.mem_cons.1 hp with rfl | hp
        · simp at hb; exact hb.1
        · exact ih p hp
      · simp at h
theorem buildR_ok {t : TypeId} {parts : List (Nat × SV)} {vs : List (Nat × Value)} {r : SV} (hg : ∀ p ∈ parts, okCells p.2 = true → Gd m V p.2)
    (hv : (∀ p ∈ parts, okCells p.2 = true) → vs = parts.map fun p => (p.1, den E p.2)) (h : (buildR T t parts).To r) :
    (Instr.build t vs.toArray).run P w = .ok (den E r) w ∧ Gd m V r := by
  unfold buildR at h
  cases ht : T t with
  | none => simp [ht] at h
  | some ti =>
    have hti := hT.ti t ti ht
    simp only [ht] at h
    obtain ⟨it, z, hit, hs, _, hz, hzc⟩ := hti.inf
    obtain ⟨zo, zc⟩ := hT.zeroOk (m := m) (V := V) (E := E) ht
    have hz' : z.cells = (cellsL E ti.zero).toArray := by rw [zc, ← hzc]
    cases hk : ti.k <;> simp only [hk] at h <;> try (simp at h; done)
    case struct fs =>
      obtain ⟨fields, hu, hfs, hfi⟩ := hti.struct hk
      cases hb : buildParts T fs parts ti.zero with
      | none => simp [hb] at h
      | some cs =>
        simp [hb] at h; subst h
        have hplaces : ∃ places, fields.toList.mapM (fun f => (P.info? f.type).map fun i => (f.offset, i.size)) = some places ∧ ∀ (i : Nat) (f : Field), fields.toList[i]? = some f → places[i]? = some (f.offset, P.cellsOf f.type) := by
          clear hfs hu
          generalize fields.toList = fl at hfi
          induction fl with
          | nil => exact ⟨[], by simp, by simp⟩
          | cons f fl ih =>
            obtain ⟨pl, hp1, hp2⟩ := ih (fun g hg => hfi g (List.mem_cons_of_mem _ hg))
            obtain ⟨i, hi, _⟩ := hfi f (List.mem_cons_self ..)
            refine ⟨(f.offset, i.size) :: pl, by simp [hi, hp1], fun j g hj => ?_⟩
            cases j with
            | zero => simp at hj; subst hj; simp [Program.cellsOf, hi]
            | succ j => simpa using hp2 j g (by simpa using hj)
        obtain ⟨places, hp1, hp2⟩ := hplaces
        have hplace : ∀ (i o : Nat) (e : TypeId) (te : TI), fs[i]? = some (o, e) → T e = some te → places.toArray[i]? = some (o, te.size) := by
          intro i o e te hi hte
          rw [← hfs] at hi
          simp only [List.getElem?_map] at hi
          cases hf : fields.toList[i]? with
          | none => rw [hf] at hi; simp at hi
          | some f =>
            rw [hf] at hi; simp at hi
            obtain ⟨rfl, rfl⟩ := hi
            obtain ⟨i', z', hi', hs', _⟩ := (hT.ti _ te hte).inf
            simp [hp2 i f hf, Program.cellsOf, hi', hs']
        obtain ⟨q1, q2⟩ := buildParts_ok hT (E := E) hplace parts ti.zero cs hg zo hb
        refine ⟨?_, .agg q1⟩
        rw [den_agg]
        apply run_build
        simp only [Program.built, hit, hu, hz, hp1, hz']
        rw [hv (buildParts_cells parts _ cs hb)]
        exact q2
    case array n e =>
      cases hte : T e with
      | none => simp [hte] at h
      | some te =>
        simp only [hte] at h
        cases hb : buildArr te.size parts (zeros n te.zero) with
        | none => simp [hb] at h
        | some cs =>
          simp [hb] at h; subst h
          obtain ⟨ie, ze, hie, hse, _⟩ := (hT.ti e te hte).inf
          obtain ⟨zeo, zec⟩ := hT.zeroOk (m := m) (V := V) (E := E) hte
          obtain ⟨q1, q2⟩ := buildArr_ok (E := E) parts (zeros n te.zero) cs hg (OkL_zeros zeo n) hb
          obtain ⟨p1, p2⟩ := packF_ok (E := E) (f := ti.flat) (te := te) (n := n) q1
          have hzz : cellsL E (zeros n te.zero) = cellsL E ti.zero := by
            have h0 := (hT.arr t ti n e te ht hk hte).2
            have hzo : OkL (fun _ => none) [] te.zero := (hT.ti e te hte).zok
            rw [OkL.E0 (E := E) (OkL_zeros hzo n), h0, zc]
          refine ⟨?_, .agg p1⟩
          rw [den_agg, p2]
          apply run_build
          simp only [Program.built, hit, hti.array hk, hz, hie, hz', hse]
          rw [hv (buildArr_cells parts _ cs hb), ← hzz]
          exact q2
/-! ### s[lo:hi] -/
omit hT in
theorem sliceBounds_run {lo hi : Option SV} {len cap u v : Nat} {p : Option (PSigma fun p : Prop => Decidable p)} (isS : Bool) (hb : boundsR lo hi len = some (p, u, v)) (hp : ∀ q, p = some q → q.1) (hc : len ≤ cap) :
    (Instr.sliceBounds isS len cap (lo.map (den E)) (hi.map (den E)) none).run P w = .ok (u, v, cap) w ∧ u ≤ v ∧ v ≤ len := by
  have hsb : ∀ (k : IntKind) (a : Int) (y : Nat) (code : BoundsCode), 0 ≤ a → a ≤ y → (Instr.sliceBound (.int k a) y code).run P w = .ok a.toNat w := fun k a y code h0 h1 => by
    simp only [Instr.sliceBound, asIntOf, Sem.run_bind, Sem.run_pure, Result.andThen_ok, if_pos (And.intro h0 h1)]
  unfold boundsR at hb
  split at hb
  · simp at hb; obtain ⟨rfl, rfl, rfl⟩ := hb
    exact ⟨by simp [Instr.sliceBounds], by omega, by omega⟩
  · rename_i k a
    simp at hb; obtain ⟨rfl, rfl, rfl⟩ := hb
    have := hp _ rfl
    refine ⟨?_, by omega, by omega⟩
    simp [Instr.sliceBounds, den_v, hsb k a len _ this.1 this.2]
  · rename_i k b
    simp at hb; obtain ⟨rfl, rfl, rfl⟩ := hb
    have := hp _ rfl
    refine ⟨?_, by omega, by omega⟩
    simp [Instr.sliceBounds, den_v, hsb k b cap _ this.1 (by omega)]
  · rename_i k a k' b
    simp at hb; obtain ⟨rfl, rfl, rfl⟩ := hb
    have := hp _ rfl
    refine ⟨?_, by omega, by omega⟩
    have h1 : ((b.toNat : Nat) : Int) = b := by omega
    simp [Instr.sliceBounds, den_v, hsb k' b cap _ (by omega) (by omega), hsb k a b.toNat _ this.1 (by omega)]
  · simp at hb
omit hT in
theorem mkR_To {p : Option (PSigma fun p : Prop => Decidable p)} {x r : SV} (h : (mkR p x).To r) : x = r ∧ ∀ q, p = some q → q.1 := by
  cases p with
  | none => simp [mkR] at h; exact ⟨h, fun q hq => by simp at hq⟩
  | some q => simp [mkR] at h; exact ⟨h.2, fun q' hq => by cases hq; exact h.1⟩
theorem sliceR_ok {t : TypeId} {x r : SV} {lo hi : Option SV} (hnn : ∀ k v, Vle V k v → v ≠ 0 → ∃ b c, E k v = some (b, c)) (hx : Gd m V x) (h : (sliceR T t x lo hi).To r) :
    (Instr.sliceAt t (den E x) (lo.map (den E)) (hi.map (den E)) none).run P w = .ok (den E r) w ∧ Gd m V r := by
  unfold sliceR at h
  cases ht : T t with
  | none => simp [ht] at h
  | some ti =>
    have hti := hT.ti t ti ht
    simp only [ht] at h
    cases hk : ti.k <;> simp only [hk] at h <;> try (simp at h; done)
    case str =>
      cases x <;> try (simp at h; done)
      rename_i l
      simp only at h
      cases hb : boundsR lo hi l.length with
      | none => simp [hb] at h
      | some q =>
        obtain ⟨p, a, b⟩ := q
        simp only [hb] at h
        obtain ⟨rfl, hp⟩ := mkR_To h
        obtain ⟨h1, h2, h3⟩ := sliceBounds_run (E := E) (w := w) (P := P) false hb hp (Nat.le_refl _)
        refine ⟨?_, Gd_s _⟩
        have hu := hti.str hk
        have hsz : (⟨⟨l⟩⟩ : ByteArray).size = l.length := rfl
        have hex : (⟨⟨l⟩⟩ : ByteArray).extract a b = ⟨⟨(l.take b).drop a⟩⟩ := by
          apply ByteArray.ext
          rw [ByteArray.data_extract]
          apply Array.ext'
          simp [List.extract_eq_take_drop, List.drop_take]
        simp only [Instr.sliceAt, Sem.run_bind, run_underlying' hu, Result.andThen_ok, den_v, Instr.slice, Option.isSome_none, Bool.false_eq_true, if_false, hsz, Sem.run_pure, h1, hex]
    case slice e =>
      have hu := hti.slice hk
      cases x <;> try (simp at h; done)
      case nils =>
        simp only at h
        cases hte : T e with
        | none => simp [hte] at h
        | some te =>
          cases hb : boundsR lo hi 0 with
          | none => simp [hte, hb] at h
          | some q =>
            obtain ⟨p, a, b⟩ := q
            simp only [hte, hb] at h
            obtain ⟨rfl, hp⟩ := mkR_To h
            obtain ⟨h1, h2, h3⟩ := sliceBounds_run (E := E) (w := w) (P := P) true hb hp (Nat.le_refl _)
            have hb0 : b = 0 := by omega
            have ha0 : a = 0 := by omega
            subst hb0; subst ha0
            refine ⟨?_, hx⟩
            simp [Instr.sliceAt, run_underlying' hu, den_v, Instr.slice, h1, (hT.ti e te hte).run_sizeOf]
      case sl k ver off len cap dc =>
        simp only at h
        cases hte : T e with
        | none => simp [hte] at h
        | some te =>
          cases hb : boundsR lo hi len with
          | none => simp [hte, hb] at h
          | some q =>
            obtain ⟨p, u, v⟩ := q
            simp only [hte, hb] at h
            have ho := hx.1
            simp only [Ok] at ho
            have run : ∀ (a : Option Addr) (c : Nat), u ≤ v → v ≤ len → len ≤ c → (∀ q, p = some q → q.1) → (Instr.sliceAt t (.slice a len c) (lo.map (den E)) (hi.map (den E)) none).run P w = .ok (.slice (if c = u then a else a.map (·.add (u * te.size))) (v - u) (c - u)) w := fun a c _ _ hc hp => by
              obtain ⟨h1, _, _⟩ := sliceBounds_run (E := E) (w := w) (P := P) true hb hp hc
              simp only [Instr.sliceAt, Sem.run_bind, run_underlying' hu, Result.andThen_ok, Instr.slice, h1, (hT.ti e te hte).run_sizeOf, Sem.run_pure]
            cases cap with
            | none => simp at h
            | some c =>
              simp only at h
              obtain ⟨hc, h⟩ := andR_To h
              obtain ⟨rfl, hp⟩ := mkR_To h
              obtain ⟨_, h2, h3⟩ := sliceBounds_run (E := E) (w := w) (P := P) true hb hp hc
              refine ⟨?_, ⟨by simp only [Ok]; exact ⟨ho.1, fun e => by have := ho.2 e; omega⟩, rfl⟩⟩
              simp only [den, wrapV, cells, List.headD_cons]
              cases he : E k ver with
              | none =>
                simp only [Option.getD_some]
                rw [run none c h2 h3 hc hp]
                congr 3; split <;> rfl
              | some q =>
                obtain ⟨b, c'⟩ := q
                simp only [Option.getD_some]
                rw [run _ c h2 h3 hc hp]
                congr 3
                split <;> simp [add_plain']
      case imm α d n enc xs a cap =>
        simp only at h
        cases hte : T e with
        | none => simp [hte] at h
        | some te =>
          cases hb : boundsR lo hi xs.length with
          | none => simp [hte, hb] at h
          | some q =>
            obtain ⟨p, u, v⟩ := q
            simp only [hte, hb] at h
            cases hbn : Nat.beq n te.size with
            | false => simp [hbn] at h
            | true =>
              have hn := Nat.eq_of_beq_eq_true hbn
              simp only [hbn, cond_true] at h
              obtain ⟨rfl, hp⟩ := mkR_To h
              have ho := hx.1
              simp only [Ok] at ho
              obtain ⟨o1, o2, o3, o4⟩ := ho
              obtain ⟨h1, h2, h3⟩ := sliceBounds_run (E := E) (w := w) (P := P) true hb hp o1
              have hlen : ((xs.take v).drop u).length = v - u := by simp; omega
              have hget : ∀ j, j < v - u → ((xs.take v).drop u).getD j d = xs.getD (u + j) d := fun j hj => by
                simp only [List.getD_eq_getElem?_getD, List.getElem?_drop, List.getElem?_take_of_lt (show u + j < v by omega)]
              refine ⟨?_, ⟨?_, rfl⟩⟩
              · have hd : ∀ y cap', den E (.imm α d n enc ((xs.take v).drop u) y cap') = .slice y (v - u) cap' := fun y cap' => by simp only [den, wrapV, cells, List.headD_cons, hlen]
                have hd' : den E (.imm α d n enc xs a cap) = .slice a xs.length cap := by simp only [den, wrapV, cells, List.headD_cons]
                rw [hd, hd']
                simp only [Instr.sliceAt, Sem.run_bind, run_underlying' hu, Result.andThen_ok, Instr.slice, h1, (hT.ti e te hte).run_sizeOf, Sem.run_pure, hn]
              · simp only [Ok, hlen]
                refine ⟨by omega, ?_, o3, fun j hj => by rw [hget j hj]; exact o4 _ (by omega)⟩
                intro hne
                have hpos : 0 < v - u := by
                  rcases Nat.eq_zero_or_pos (v - u) with h0 | h0
                  · exact absurd (List.eq_nil_of_length_eq_zero (by rw [hlen, h0])) hne
                  · exact h0
                have hcu : cap ≠ u := by omega
                obtain ⟨ad, arr, ty, fr, e1, e2, e3, e4⟩ := o2 (by intro e; simp [e] at h3; omega)
                subst e1
                refine ⟨ad.add (u * n), arr, ty, fr, by simp [hcu], ?_, ?_, ?_⟩
                · rw [add_none e2]
                · rw [add_none e2]; exact e3
                · intro j hj w' c hc
                  rw [add_none e2]
                  rw [hlen] at hj
                  rw [hget j hj] at hc
                  have := e4 (u + j) (by omega) w' c hc
                  rw [← this]; congr 1
                  simp only [Nat.add_mul]; omega
    case array N e =>
      have hu := hti.array hk
      cases hte : T e with
      | none => simp [hte] at h
      | some te =>
        simp only [hte] at h
        cases x <;> try (simp at h; done)
        case ptr k ver off ix =>
        cases ix with
        | cons _ _ => simp at h
        | nil =>
          simp only at h
          cases hb : boundsR lo hi N with
          | none => rw [hb] at h; simp at h
          | some q =>
            obtain ⟨p, u, v⟩ := q
            rw [hb] at h
            obtain ⟨rfl, hp⟩ := mkR_To h
            obtain ⟨h1, h2, h3⟩ := sliceBounds_run (E := E) (w := w) (P := P) false hb hp (Nat.le_refl _)
            have ho := hx.1
            simp only [Ok] at ho
            obtain ⟨b, c, he⟩ := hnn k ver ho.1 ho.2
            refine ⟨?_, ⟨by simp only [Ok]; exact ⟨ho.1, fun e => absurd e ho.2⟩, rfl⟩⟩
            have hq : den E (.ptr k ver off []) = .pointer (some ⟨b, off, none⟩) := by simp [den, wrapV, cells, Env.blk, he, ofs]
            rw [hq]
            simp only [Instr.sliceAt, Sem.run_bind, run_underlying' hu, Result.andThen_ok, Instr.sureAddr, Sem.run_pure, h1, (hT.ti e te hte).run_sizeOf]
            simp only [den, wrapV, cells, List.headD_cons, he, Option.getD_some, reduceCtorEq, false_and, if_false]
            congr 3
            split <;> simp [add_plain']
    case ptr arr =>
      have hu := hti.ptr hk
      cases hta : T arr with
      | none => simp [hta] at h
      | some ta =>
        simp only [hta] at h
        cases hka : ta.k <;> simp only [hka] at h <;> try (simp at h; done)
        rename_i N e
        have hua := (hT.ti arr ta hta).array hka
        have gen : (match T e with
          | some te => match x with
            | .ptr k ver off [] => match boundsR lo hi N with
              | some (p, u, v) => mkR p (.sl k ver (if N = u then off else off + u * te.size) (v - u) (some (N - u)) 0)
              | none => .no
            | _ => .no
          | none => R.no).To r → (Instr.sliceAt t (den E x) (lo.map (den E)) (hi.map (den E)) none).run P w = .ok (den E r) w ∧ Gd m V r := by
          clear h
          intro h
          cases hte : T e with
          | none => rw [hte] at h; simp at h
          | some te =>
            rw [hte] at h
            cases x <;> try (simp at h; done)
            case ptr k ver off ix =>
            cases ix with
            | cons _ _ => simp at h
            | nil =>
              simp only at h
              cases hb : boundsR lo hi N with
              | none => rw [hb] at h; simp at h
              | some q =>
                obtain ⟨p, u, v⟩ := q
                rw [hb] at h
                obtain ⟨rfl, hp⟩ := mkR_To h
                obtain ⟨h1, h2, h3⟩ := sliceBounds_run (E := E) (w := w) (P := P) false hb hp (Nat.le_refl _)
                have ho := hx.1
                simp only [Ok] at ho
                obtain ⟨b, c, he⟩ := hnn k ver ho.1 ho.2
                refine ⟨?_, ⟨by simp only [Ok]; exact ⟨ho.1, fun e => absurd e ho.2⟩, rfl⟩⟩
                have hq : den E (.ptr k ver off []) = .pointer (some ⟨b, off, none⟩) := by simp [den, wrapV, cells, Env.blk, he, ofs]
                rw [hq]
                simp only [Instr.sliceAt, Sem.run_bind, run_underlying' hu, Result.andThen_ok, Instr.slice, asAddr, Sem.run_pure, run_underlying' hua, h1, (hT.ti e te hte).run_sizeOf]
                simp only [den, wrapV, cells, List.headD_cons, he, Option.getD_some]
                congr 3
                split <;> simp [add_plain']
        cases lo with
        | some _ => exact gen h
        | none =>
          cases hi with
          | some _ => exact gen h
          | none =>
            simp only at h
            cases hte : T e with
            | none => simp [hte] at h
            | some te =>
              simp only [hte] at h
              have hrun : ∀ a : Addr, (Instr.sliceAt t (.pointer (some a)) none none none).run P w = .ok (.slice (some a) N N) w := fun a => by
                have hz : a.add 0 = a := by simp [Addr.add]
                have hii : ∀ (x : Option Addr), (if N = 0 then x else x) = x := fun x => by split <;> rfl
                simp [Instr.sliceAt, Instr.slice, Instr.sliceBounds, run_underlying' hu, run_underlying' hua, asAddr, (hT.ti e te hte).run_sizeOf, hz]
              cases x <;> try (simp at h; done)
              case ptr k ver off ix =>
                cases ix with
                | cons _ _ => simp at h
                | nil =>
                  simp at h; subst h
                  have ho := hx.1
                  simp only [Ok] at ho
                  obtain ⟨b, c, he⟩ := hnn k ver ho.1 ho.2
                  refine ⟨?_, ⟨by simp only [Ok]; exact ⟨ho.1, fun e => absurd e ho.2⟩, rfl⟩⟩
                  simp only [Option.map_none, den, wrapV, cells, List.headD_cons, he, hrun, ofs, Env.blk, Option.map_some, Option.getD_some, Nat.add_zero, reduceCtorEq, false_and, if_false]
              case ipt α d n enc xs a j sub ix =>
                simp only at h
                cases hsz : Nat.beq te.size 1 with
                | false => simp [hsz] at h
                | true =>
                  simp only [hsz, cond_true] at h
                  have ho := hx.1
                  simp only [Ok] at ho
                  obtain ⟨hj, him, hw, hok⟩ := ho
                  have key : ∃ k ys l, (nav (enc (xs.getD j d)) sub ix).To (.ints k N ys :: l) ∧ r = .imm Int 0 1 (fun x => [.i k x]) ys (some ⟨a.block, a.off + j * n + sub + ofs ix, none⟩) N := by
                    cases hnv : nav (enc (xs.getD j d)) sub ix with
                    | no => rw [hnv] at h; simp [immInts] at h
                    | ok l =>
                      rw [hnv] at h
                      cases l with
                      | nil => simp [immInts] at h
                      | cons y l =>
                        cases y <;> try (simp [immInts] at h; done)
                        rename_i k q ys
                        simp only [immInts] at h
                        cases hb : Nat.beq q N with
                        | false => simp [hb] at h
                        | true => have := Nat.eq_of_beq_eq_true hb; subst this; simp [hb] at h; exact ⟨k, ys, l, by simp, h.symm⟩
                    | ob p l =>
                      rw [hnv] at h
                      cases l with
                      | nil => simp [immInts] at h
                      | cons y l =>
                        cases y <;> try (simp [immInts] at h; done)
                        rename_i k q ys
                        simp only [immInts] at h
                        cases hb : Nat.beq q N with
                        | false => simp [hb] at h
                        | true => have := Nat.eq_of_beq_eq_true hb; subst this; simp [hb] at h; exact ⟨k, ys, l, by simp [h.1], h.2.symm⟩
                  obtain ⟨k, ys, l, hn, rfl⟩ := key
                  obtain ⟨o2, hat⟩ := nav_spec (E := E0) hn (hok j hj)
                  have hyl : ys.length = N := by simp only [OkL, Ok] at o2; exact o2.1.2
                  refine ⟨?_, ⟨?_, rfl⟩⟩
                  · simp only [Option.map_none, den, wrapV, cells, List.headD_cons, hrun, hyl]
                  · simp only [Ok]
                    refine ⟨by omega, ?_, fun x => by simp [wdL, wd], fun i _ => by simp [OkL, Ok, isUnit]⟩
                    intro hne
                    obtain ⟨ad, arr', ty, fr, e1, e2, e3, e4⟩ := him (by intro e; simp [e] at hj)
                    cases e1
                    refine ⟨_, arr', ty, fr, rfl, rfl, e3, fun i hi w' c hc => ?_⟩
                    simp only [cellsL, cells, List.append_nil] at hc
                    have hw0 : w' = 0 := by have := (List.getElem?_eq_some_iff.1 hc).1; simp at this; exact this
                    subst hw0
                    simp at hc
                    have hgi : (cellsL E0 (.ints k N ys :: l))[i]? = some c := by
                      simp only [cellsL, cells]
                      rw [List.getElem?_append_left (by simp; exact hi)]
                      simp [hi, ← hc]
                    have := e4 j hj _ _ (hat i c hgi)
                    rw [← this]; congr 1
                    simp only [Nat.mul_one, Nat.add_zero]; omega
omit hT in
theorem boundsR_none {hi : Option SV} {len u v : Nat} {p : Option (PSigma fun p : Prop => Decidable p)} (h : boundsR none hi len = some (p, u, v)) : u = 0 := by
  cases hi with
  | none => simp [boundsR] at h; exact h.2.1.symm
  | some x => cases x <;> simp [boundsR] at h; exact h.2.1.symm
theorem sliceH_ok {C : Fr} {h : List SB} (hr : Rel E C m h w) {t : TypeId} {k ver off len dc : Nat} {r : SV} {lo hi : Option SV} (hx : Gd m (vers h) (.sl k ver off len none dc)) (hh : (sliceH T h t k ver off len dc lo hi).To r) :
    (Instr.sliceAt t (den E (.sl k ver off len none dc)) (lo.map (den E)) (hi.map (den E)) none).run P w = .ok (den E r) w ∧ Gd m (vers h) r := by
  unfold sliceH at hh
  cases ht : T t with
  | none => simp [ht] at hh
  | some ti =>
    have hti := hT.ti t ti ht
    simp only [ht] at hh
    cases hk : ti.k <;> simp only [hk] at hh <;> try (simp at hh; done)
    rename_i e
    have hu := hti.slice hk
    cases hte : T e with
    | none => simp [hte] at hh
    | some te =>
      simp only [hte] at hh
      cases hB : h.getD k .fresh <;> rw [hB] at hh <;> simp only at hh <;> try (simp at hh; done)
      rename_i ty segs ver' gw
      cases hb : boundsR lo hi len with
      | none => simp [hb] at hh
      | some q =>
        obtain ⟨p, u, v⟩ := q
        simp only [hb] at hh
        obtain ⟨⟨⟨e1, e2, e3⟩, e4, e5⟩, hh⟩ := andR_To hh
        have hkB := getD_some hB (by simp)
        have ho := hx.1
        simp only [Ok] at ho
        -- the real slice
        have key : (E k ver = none ∧ len = 0) ∨ ∃ b c, E k ver = some (b, c) ∧ dc + len ≤ c := by
          have hbl := hr.bl k _ hkB
          cases gw with
          | zero => omega
          | succ g =>
            obtain ⟨o1, o2, o3⟩ := hbl
            by_cases hv : ver' = 0
            · exact .inl ⟨by rw [e1, hv]; exact (o2 hv).2, ho.2 (e1.trans hv)⟩
            · obtain ⟨b, c, sp, he, _, hl, _⟩ := o3 hv
              refine .inr ⟨b, c, by rw [e1]; exact he, ?_⟩
              have hw := length_cellsL E segs _ o1
              have : (dc + len) * (g + 1) ≤ c * (g + 1) := by rw [e2] at e5; omega
              exact Nat.le_of_mul_le_mul_right this (by omega)
        have run : ∀ (a : Option Addr) (c : Nat), len ≤ c → (∀ q, p = some q → q.1) → (Instr.sliceAt t (.slice a len c) (lo.map (den E)) (hi.map (den E)) none).run P w = .ok (.slice (if c = u then a else a.map (·.add (u * te.size))) (v - u) (c - u)) w ∧ u ≤ v ∧ v ≤ len := fun a c hc hp => by
          obtain ⟨h1, h2, h3⟩ := sliceBounds_run (E := E) (w := w) (P := P) true hb hp hc
          exact ⟨by simp only [Instr.sliceAt, Sem.run_bind, run_underlying' hu, Result.andThen_ok, Instr.slice, h1, (hT.ti e te hte).run_sizeOf, Sem.run_pure], h2, h3⟩
        cases lo with
        | none =>
          simp only at hh
          obtain ⟨rfl, hp⟩ := mkR_To hh
          have hu0 : u = 0 := boundsR_none hb
          subst hu0
          rcases key with ⟨k1, k2⟩ | ⟨b, c, k1, k2⟩
          · obtain ⟨r1, r2, r3⟩ := run none 0 (by omega) hp
            have hv0 : v = 0 := by omega
            subst hv0
            refine ⟨?_, ⟨by simp only [Ok]; exact ⟨ho.1, fun _ => trivial⟩, rfl⟩⟩
            simp only [den, wrapV, cells, List.headD_cons, k1, Option.getD_none]
            simpa [k2] using r1
          · generalize hoff0 : (if len = 0 ∧ c = dc then 0 else off) = off0
            obtain ⟨r1, r2, r3⟩ := run (some ⟨b, off0, none⟩) (c - dc) (by omega) hp
            refine ⟨?_, ⟨by simp only [Ok]; exact ⟨ho.1, fun e => by have := ho.2 e; omega⟩, rfl⟩⟩
            simp only [den, wrapV, cells, List.headD_cons, k1, Option.getD_none, true_and, hoff0, Nat.sub_zero]
            have e9 : (if v = 0 ∧ c = dc then 0 else off) = off0 := by
              rw [← hoff0]
              by_cases hcd : c = dc
              · rw [if_pos ⟨by omega, hcd⟩, if_pos ⟨by omega, hcd⟩]
              · rw [if_neg (fun h => hcd h.2), if_neg (fun h => hcd h.2)]
            simp only [e9]
            simpa [add_plain'] using r1
        | some l =>
          simp only at hh
          obtain ⟨hul, hh⟩ := andR_To hh
          obtain ⟨rfl, hp⟩ := mkR_To hh
          rcases key with ⟨k1, k2⟩ | ⟨b, c, k1, k2⟩
          · obtain ⟨r1, r2, r3⟩ := run none 0 (by omega) hp
            have hv0 : v = 0 := by omega
            have hu0 : u = 0 := by omega
            subst hv0 hu0
            refine ⟨?_, ⟨by simp only [Ok]; exact ⟨ho.1, fun _ => trivial⟩, rfl⟩⟩
            simp only [den, wrapV, cells, List.headD_cons, k1, Option.getD_none]
            simpa [k2] using r1
          · have e8 : (if len = 0 ∧ c = dc then 0 else off) = off := by
              split
              · rename_i h8
                rcases hul with h9 | h9
                · omega
                · rw [e4, h9, Nat.zero_mul]
              · rfl
            obtain ⟨r1, r2, r3⟩ := run (some ⟨b, off, none⟩) (c - dc) (by omega) hp
            refine ⟨?_, ⟨by simp only [Ok]; exact ⟨ho.1, fun e => by have := ho.2 e; omega⟩, rfl⟩⟩
            simp only [den, wrapV, cells, List.headD_cons, k1, Option.getD_none, true_and, e8]
            rw [r1]
            by_cases hcu : c - dc = u
            · have h7 : dc = 0 := by omega
              have h6 : off = 0 := by rw [e4, h7, Nat.zero_mul]
              rw [if_pos hcu, if_pos ⟨by omega, by omega⟩, h6, Nat.sub_sub]
            · rw [if_neg hcu, if_neg (fun h => by omega)]
              simp [add_plain', Nat.sub_sub]
omit hT in
theorem sliceBounds_zero {len cap : Nat} (k k' : IntKind) : (Instr.sliceBounds true len cap none (some (.int k 0)) (some (.int k' 0))).run P w = .ok (0, 0, 0) w := by
  simp [Instr.sliceBounds, Instr.sliceBound, asIntOf]
theorem slice3R_ok {t : TypeId} {x r : SV} {lo hi : Option SV} {mx : SV} (hx : Gd m V x) (h : (slice3R T t x lo hi (some mx)).To r) :
    (Instr.sliceAt t (den E x) (lo.map (den E)) (hi.map (den E)) (some (den E mx))).run P w = .ok (den E r) w ∧ Gd m V r := by
  unfold slice3R at h
  split at h
  · rename_i k k' hm
    cases hm
    cases ht : T t with
    | none => simp [ht] at h
    | some ti =>
      have hti := hT.ti t ti ht
      simp only [ht] at h
      cases hk : ti.k <;> simp only [hk] at h <;> try (simp at h; done)
      rename_i e
      cases hte : T e with
      | none => simp [hte] at h
      | some te =>
        simp only [hte] at h
        have run : ∀ (a : Option Addr) (l c : Nat), (Instr.sliceAt t (.slice a l c) none (some (.int k 0)) (some (.int k' 0))).run P w = .ok (.slice a 0 0) w := fun a l c => by
          simp only [Instr.sliceAt, Sem.run_bind, run_underlying' (hti.slice hk), Result.andThen_ok, Instr.slice, sliceBounds_zero, (hT.ti e te hte).run_sizeOf, Sem.run_pure]
          simp
        have e0 : Int.ofNat 0 = 0 := rfl
        simp only [Option.map_none, Option.map_some, den_v.1, e0]
        cases x <;> try (simp at h; done)
        case sl kk ver off len cap dc =>
          have h : SV.sl kk ver off 0 (some 0) 0 = r ∧ (cap = none → off = 0 ∨ 0 < len) := by
            cases cap with
            | none => simp at h; exact ⟨h.2, fun _ => h.1⟩
            | some c => simp at h; exact ⟨h, fun e => by cases e⟩
          obtain ⟨rfl, hcn⟩ := h
          have ho := hx.1
          simp only [Ok] at ho
          refine ⟨?_, ⟨by simp only [Ok]; exact ⟨ho.1, fun _ => trivial⟩, rfl⟩⟩
          simp only [den, wrapV, cells, List.headD_cons]
          cases E kk ver with
          | none => simpa using run none len _
          | some q =>
            have e8 : (if cap = none ∧ len = 0 ∧ q.2 = dc then 0 else off) = off := by
              split
              · rename_i h8
                rcases hcn h8.1 with h9 | h9
                · exact h9.symm
                · omega
              · rfl
            simp only [e8]
            simpa using run _ len _
        case nils =>
          simp at h; subst h
          refine ⟨?_, hx⟩
          rw [den_v.2.2.2.2]; exact run none 0 0
        case imm α d n enc xs a cap =>
          simp at h; subst h
          have ho := hx.1
          simp only [Ok] at ho
          refine ⟨?_, ⟨?_, rfl⟩⟩
          · simp only [den, wrapV, cells, List.headD_cons, List.length_nil]; exact run a _ _
          · simp only [Ok, List.length_nil]
            exact ⟨Nat.le_refl _, fun e => absurd rfl e, ho.2.2.1, fun j hj => by omega⟩
  · simp at h
end
end SX
end Go.Proofs.YthkedcneehdinaaGreatDoor
