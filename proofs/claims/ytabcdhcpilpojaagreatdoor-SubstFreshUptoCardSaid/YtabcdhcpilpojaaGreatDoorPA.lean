/- A run over plain values: slices that nobody writes any more are lists; what is written lies in a small heap whose places are the slots of the code. -/
import Derived.Test.YtabcdhcpilpojaaGreatDoorVA
section
set_option linter.unusedVariables false
namespace Go.Pure
open Go Go.Virt

inductive PV where
  | bool (b : Bool)
  | int (k : IntKind) (n : Int)
  | str (s : List Nat)
  | nilp | nils | nilm | nilf | nili
  | lst (g : Nat) (xs : List PV)
  | own (i ver g off len : Nat)
  | ptr (i ver off : Nat)
  | eptr (i ver g ix off : Nat)
  | rptr (cs : List PV)
  | map (i ver : Nat)
  | fn (f : Nat) (first captured : List PV)
  | yield (i ver : Nat)
  | iface (t : Nat) (v : PV)
  | agg (cs : List PV)
  | tuple (cs : List PV)
  deriving Inhabited

abbrev PSL := Nat → Option PV
def PSL.put (sl : PSL) (d : Nat) (v : PV) : PSL := fun t => if t = d then some v else sl t

/-- Where a frame's objects lie (base), and which older objects it may write: from lo on, and those of ok. -/
structure Loc where
  base : Nat
  lo : Nat
  ok : List Nat

inductive PO where
  | cells (cs : List PV)
  | row (g : Nat) (own : Bool) (xs : List PV)
  | map (es : List (PV × PV))
  | loop (K : Loc) (sl : PSL) (params : List Nat) (assign body : Code)
  | gone

structure PH where
  next : Nat
  get : Nat → Option (Nat × PO)

def PH.put (h : PH) (i ver : Nat) (o : PO) : PH := { h with get := fun j => if j = i then some (ver, o) else h.get j }
def PH.del (h : PH) (i : Nat) : PH := { h with get := fun j => if j = i then none else h.get j }
def PH.stamp (h : PH) (i : Nat) : Nat := match h.get i with | some (v, _) => v + 1 | none => 0

def can (K : Loc) (i : Nat) : Bool := Nat.ble K.lo i || K.ok.any (Nat.beq i)

/-- Constants. -/
def pconst : Nat → Value → Option PV
  | _, .bool b => some (.bool b)
  | _, .int k n => some (.int k n)
  | _, .string s => some (.str (s.data.toList.map UInt8.toNat))
  | _, .pointer none => some .nilp
  | _, .slice none 0 0 => some .nils
  | _, .map none => some .nilm
  | _, .nilFunc => some .nilf
  | _, .nilIface => some .nili
  | n + 1, .agg cs => (go n cs.toList).map .agg
  | _, _ => none
where
  go : Nat → List Value → Option (List PV)
    | _, [] => some []
    | n, v :: r => match pconst n v, go n r with | some p, some ps => some (p :: ps) | _, _ => none

def pconsts (cs : List Value) : Option (List PV) := pconst.go 0 cs

def cellsOf : PV → List PV
  | .agg cs => cs
  | v => [v]

def cellP : PV → Bool
  | .agg _ | .tuple _ => false
  | _ => true

def toP (agg : Bool) (cs : List PV) : Option PV :=
  if agg then some (.agg cs) else match cs with | [v] => some v | _ => none

def readP (cells : List PV) (off n : Nat) : Option (List PV) :=
  if off + n ≤ cells.length then some ((cells.drop off).take n) else none

def writeP : List PV → Nat → List PV → Option (List PV)
  | cs, _, [] => some cs
  | [], _, _ :: _ => none
  | _ :: cs, 0, v :: vs => (writeP cs 0 vs).map (v :: ·)
  | c :: cs, i + 1, vs => (writeP cs i vs).map (c :: ·)

/-- Plain data: no object of the heap inside. -/
def plain : Nat → PV → Bool
  | _, .bool _ | _, .int _ _ | _, .str _ | _, .nilp | _, .nils | _, .nilm | _, .nilf | _, .nili | _, .lst _ _ => true
  | n + 1, .agg cs => cs.all (plain n)
  | n + 1, .iface _ v => plain n v
  | _, _ => false

/-- The row that an own slice names, if it does so still. -/
def PH.row (h : PH) (i ver g : Nat) : Option (Bool × List PV) :=
  match h.get i with
  | some (v, .row g' own xs) => if v = ver ∧ g' = g then some (own, xs) else none
  | _ => none

/-- The elements of a slice. -/
def PH.elems (h : PH) (g : Nat) : PV → Option (List PV)
  | .nils => some []
  | .lst g' xs => if g' = g then some xs else none
  | .own i ver g' off len =>
    if g' = g then
      match h.row i ver g with
      | some (_, xs) => if off + len ≤ xs.length then some ((xs.drop off).take len) else none
      | none => none
    else none
  | _ => none

def lenP : PV → Option Nat
  | .nils => some 0
  | .lst _ xs => some xs.length
  | .own _ _ _ _ len => some len
  | .str s => some s.length
  | _ => none

/-! ### own slices made plain -/
def inlC (h : PH) : PV → Option PV
  | .own i ver g off len => (h.elems g (.own i ver g off len)).map (.lst g)
  | v => some v
def mapO {α β : Type} (f : α → Option β) : List α → Option (List β)
  | [] => some []
  | x :: r => match f x, mapO f r with | some y, some ys => some (y :: ys) | _, _ => none
def inlV (h : PH) : PV → Option PV
  | .agg cs => (mapO (inlC h) cs).map .agg
  | v => inlC h v
def inlT (h : PH) : PV → Option PV
  | .tuple cs => (mapO (inlV h) cs).map .tuple
  | v => inlV h v
def ownC : PV → List Nat
  | .own i _ _ _ _ => [i]
  | _ => []
def ownV : PV → List Nat
  | .agg cs => cs.flatMap ownC
  | v => ownC v
def ownT : PV → List Nat
  | .tuple cs => cs.flatMap ownV
  | v => ownV v

/-- The rows are written no more. -/
def PH.freeze (h : PH) : List Nat → PH
  | [] => h
  | i :: r => match h.get i with
    | some (ver, .row g _ xs) => (h.put i ver (.row g false xs)).freeze r
    | _ => h.freeze r

/-! ### references -/
def refs : Nat → PV → List Nat
  | _, .own i _ _ _ _ | _, .ptr i _ _ | _, .eptr i _ _ _ _ | _, .map i _ | _, .yield i _ => [i]
  | n + 1, .fn _ a c => a.flatMap (refs n) ++ c.flatMap (refs n)
  | n + 1, .iface _ v => refs n v
  | n + 1, .agg cs => cs.flatMap (refs n)
  | n + 1, .tuple cs => cs.flatMap (refs n)
  | _, _ => []
/-- No reference at or beyond m. -/
def below (m : Nat) : Nat → PV → Bool
  | _, .own i _ _ _ _ | _, .ptr i _ _ | _, .eptr i _ _ _ _ | _, .map i _ | _, .yield i _ => Nat.blt i m
  | n + 1, .fn _ a c => a.all (below m n) && c.all (below m n)
  | n + 1, .iface _ v => below m n v
  | n + 1, .agg cs => cs.all (below m n)
  | n + 1, .tuple cs => cs.all (below m n)
  | _, .fn _ _ _ | _, .iface _ _ | _, .agg _ | _, .tuple _ => false
  | _, _ => true
def refsO : PO → List Nat
  | .cells cs => cs.flatMap (refs 3)
  | .map es => es.flatMap fun e => refs 3 e.2
  | _ => []
def belowO (m : Nat) : PO → Bool
  | .cells cs => cs.all (below m 3)
  | .map es => es.all fun e => below m 3 e.1 && below m 3 e.2
  | .row _ _ _ | .gone => true
  | .loop _ _ _ _ _ => false
def PH.belowAt (h : PH) (m i : Nat) : Bool := match h.get i with | some (_, o) => belowO m o | none => true

/-- What can be reached, layer by layer. -/
def reach (h : PH) : Nat → List Nat → List Nat
  | 0, l => l
  | _, [] => []
  | n + 1, l => l ++ reach h n (l.flatMap fun i => match h.get i with | some (_, o) => refsO o | none => [])

/-- No list of element type g inside. -/
def noTag (g : Nat) : Nat → PV → Bool
  | n + 1, .lst g' xs => !(Nat.beq g' g) && xs.all (noTag g n)
  | _, .rptr _ => false
  | n + 1, .agg cs => cs.all (noTag g n)
  | n + 1, .tuple cs => cs.all (noTag g n)
  | n + 1, .iface _ v => noTag g n v
  | n + 1, .fn _ a c => a.all (noTag g n) && c.all (noTag g n)
  | _, .lst _ _ | _, .agg _ | _, .tuple _ | _, .iface _ _ | _, .fn _ _ _ => false
  | _, _ => true
def noTagO (g : Nat) : PO → Bool
  | .cells cs => cs.all (noTag g 12)
  | .map es => es.all fun e => noTag g 12 e.1 && noTag g 12 e.2
  | .row g' _ xs => xs.all (noTag g 12)
  | .gone => true
  | .loop _ _ _ _ _ => false

/-! ### operators -/
def ltL : List Nat → List Nat → Bool
  | _, [] => false
  | [], _ :: _ => true
  | a :: l, b :: m => bif Nat.blt a b then true else bif Nat.blt b a then false else ltL l m

/-- Two rows of cells: numbers, strings and truth values. -/
def eqCells : List PV → List PV → Option Bool
  | [], [] => some true
  | .int k a :: l, .int k' b :: m => if k = k' then (eqCells l m).map fun r => (a == b) && r else none
  | .str a :: l, .str b :: m => (eqCells l m).map fun r => (a == b) && r
  | .bool a :: l, .bool b :: m => (eqCells l m).map fun r => (a == b) && r
  | _, _ => none

def nilS : PV → Option Bool
  | .nils => some true
  | .lst _ _ | .own _ _ _ _ _ => some false
  | _ => none
def nilR : PV → Option Bool
  | .nilp => some true
  | .ptr _ _ _ | .eptr _ _ _ _ _ | .rptr _ => some false
  | _ => none
def nilM : PV → Option Bool
  | .nilm => some true
  | .map _ _ => some false
  | _ => none
def eqNil : Option Bool → Option Bool → Option Bool
  | some true, some b => some b
  | some false, some true => some false
  | _, _ => none
def eqP (C : Ctx) (t : Nat) (x y : PV) : Option Bool :=
  match C.T t with
  | none => none
  | some ty =>
    match ty.k with
    | .bool => match x, y with | .bool a, .bool b => some (a == b) | _, _ => none
    | .slice _ => eqNil (nilS x) (nilS y)
    | .ptr _ => eqNil (nilR x) (nilR y)
    | .map _ _ => eqNil (nilM x) (nilM y)
    | _ => none

def intP (op : BinOp) (k k' : IntKind) (a b : Int) : Option PV :=
  match op with
  | .shl => if b < 0 then none else some (.int k (k.wrap (a * 2 ^ min b.toNat k.bits)))
  | .shr => if b < 0 then none else some (.int k (a.fdiv (2 ^ min b.toNat k.bits)))
  | _ =>
    if k = k' then
      match op with
      | .add => some (.int k (k.wrap (a + b)))
      | .sub => some (.int k (k.wrap (a - b)))
      | .mul => some (.int k (k.wrap (a * b)))
      | .quo => if b = 0 then none else some (.int k (k.wrap (a.tdiv b)))
      | .rem => if b = 0 then none else some (.int k (a.tmod b))
      | .and => some (.int k (k.wrap (BitVec.ofInt k.bits a &&& BitVec.ofInt k.bits b).toNat))
      | .or => some (.int k (k.wrap (BitVec.ofInt k.bits a ||| BitVec.ofInt k.bits b).toNat))
      | .xor => some (.int k (k.wrap (BitVec.ofInt k.bits a ^^^ BitVec.ofInt k.bits b).toNat))
      | .eql => some (.bool (a == b))
      | .neq => some (.bool (a != b))
      | .lss => some (.bool (a < b))
      | .leq => some (.bool (a ≤ b))
      | .gtr => some (.bool (a > b))
      | .geq => some (.bool (a ≥ b))
      | _ => none
    else none

def strP (op : BinOp) (a b : List Nat) : Option PV :=
  match op with
  | .add => if a.length + b.length ≤ 2 ^ 62 then some (.str (a ++ b)) else none
  | .eql => some (.bool (a == b))
  | .neq => some (.bool (!(a == b)))
  | .lss => some (.bool (ltL a b))
  | .gtr => some (.bool (!(ltL a b || a == b)))
  | _ => none

def binP (C : Ctx) (op : BinOp) (t : Nat) (x y : PV) : Option PV :=
  match x, y with
  | .int k a, .int k' b => intP op k k' a b
  | .str a, .str b => strP op a b
  | x, y =>
    match op with
    | .eql => (eqP C t x y).map .bool
    | .neq => (eqP C t x y).map fun b => .bool (!b)
    | _ => none

def unP (op : UnOp) (x : PV) : Option PV :=
  match op, x with
  | .neg, .int k n => some (.int k (k.wrap (0 - n)))
  | .not, .bool b => some (.bool !b)
  | _, _ => none

def keyP (k : TK) : PV → Bool
  | .int _ _ => match k with | .int _ => true | _ => false
  | .str _ => match k with | .str => true | _ => false
  | .bool _ => match k with | .bool => true | _ => false
  | _ => false
def sameKeyP : PV → PV → Option Bool
  | .int k a, .int k' b => if k = k' then some (a == b) else none
  | .str a, .str b => some (a == b)
  | .bool a, .bool b => some (a == b)
  | _, _ => none
def mapFindP : List (PV × PV) → PV → Option (Option PV)
  | [], _ => some none
  | (k, v) :: r, x => match sameKeyP x k with
    | some true => some (some v)
    | some false => mapFindP r x
    | none => none
def mapPutP : List (PV × PV) → PV → PV → Option (List (PV × PV))
  | [], x, u => some [(x, u)]
  | (k, v) :: r, x, u => match sameKeyP x k with
    | some true => some ((x, u) :: r)
    | some false => (mapPutP r x u).map ((k, v) :: ·)
    | none => none
def mapDelP : List (PV × PV) → PV → Option (List (PV × PV))
  | [], _ => some []
  | (k, v) :: r, x => match sameKeyP x k with
    | some true => some r
    | some false => (mapDelP r x).map ((k, v) :: ·)
    | none => none

def natP : PV → Option Nat
  | .int _ n => if 0 ≤ n then some n.toNat else none
  | _ => none
def boundsP (len : Nat) (lo hi : Option PV) : Option (Nat × Nat) :=
  match (match hi with | some v => natP v | none => some len), (match lo with | some v => natP v | none => some 0) with
  | some h, some l => if l ≤ h ∧ h ≤ len then some (l, h) else none
  | _, _ => none

/-- Cells, with parts put in their places. -/
def fillP (place : Nat → Option (Nat × Nat)) (cells : List PV) : List (Nat × PV) → Option (List PV)
  | [] => some cells
  | (i, v) :: rest =>
    match place i with
    | none => none
    | some (off, size) =>
      if (cellsOf v).length = size ∧ off + size ≤ cells.length ∧ (cellsOf v).all cellP = true then
        match writeP cells off (cellsOf v) with
        | some cells' => fillP place cells' rest
        | none => none
      else none

/-- Elements, with some set. -/
def fillE (size : Nat) (xs : List PV) : List (Nat × PV) → Option (List PV)
  | [] => some xs
  | (i, v) :: rest =>
    if (cellsOf v).length = size ∧ i < xs.length ∧ (cellsOf v).all cellP = true ∧ plain 4 v = true then fillE size (xs.set i v) rest else none

def zeroE (ty : Ty) : Option PV := (pconsts ty.zero).bind (toP ty.k.agg)

section
variable (C : Ctx)

def opdP (sl : PSL) : Operand → Option PV
  | .tmp t => sl t
  | .const v => pconst 3 v
  | .global _ => none
  | .func f => some (.fn f [] [])
def opdsP (sl : PSL) : List Operand → Option (List PV)
  | [] => some []
  | x :: r => match opdP sl x, opdsP sl r with | some v, some vs => some (v :: vs) | _, _ => none
def partsP (sl : PSL) : List (Nat × Operand) → Option (List (Nat × PV))
  | [] => some []
  | (i, x) :: r => match opdP sl x, partsP sl r with | some v, some vs => some ((i, v) :: vs) | _, _ => none

def optP (sl : PSL) : Option Operand → Option (Option PV)
  | some l => (opdP sl l).map some
  | none => some none

/-- An operation that looks at no object and changes none. -/
def freeP (sl : PSL) (o : Oper) : Option PV :=
  let E := opdP sl
  match o.op with
  | .move x | .assign x => E x
  | .pick c a b =>
    match E c with
    | some (.bool true) => E a
    | some (.bool false) => E b
    | _ => none
  | .build t ps =>
    match C.T t, partsP sl ps.toList with
    | some ty, some vs =>
      match ty.k with
      | .struct fs => if fs.all (fun f => (C.T f.2).isSome) then
          (pconsts ty.zero).bind fun z => (fillP (fun i => (fs[i]?).bind fun (off, u) => (C.T u).map fun tu => (off, tu.size)) z vs).map .agg else none
      | .array _ e => match C.T e with
        | some te => (pconsts ty.zero).bind fun z => (fillP (fun i => some (i * te.size, te.size)) z vs).map .agg
        | none => none
      | _ => none
    | _, _ => none
  | .load t a =>
    match C.T t, E a with
    | some ty, some (.rptr cs) => (readP cs 0 ty.size).bind (toP ty.k.agg)
    | _, _ => none
  | .nilCheck x =>
    match E x with
    | some (.ptr i v o) => some (.ptr i v o)
    | some (.eptr i v g ix o) => some (.eptr i v g ix o)
    | some (.rptr cs) => some (.rptr cs)
    | some (.fn f a b) => some (.fn f a b)
    | some (.yield i v) => some (.yield i v)
    | _ => none
  | .binOp op t x y _ =>
    match E x, E y with
    | some a, some b => binP C op t a b
    | _, _ => none
  | .unOp op _ x => (E x).bind (unP op)
  | .convert src dst x =>
    match C.T src, C.T dst, E x with
    | some ts, some td, some v =>
      match ts.k, td.k, v with
      | _, .int k, .int _ n => some (.int k (k.wrap n))
      | _, .str, .str s => some (.str s)
      | _, _, _ => none
    | _, _, _ => none
  | .makeInterface t x =>
    match C.T t with
    | some ty => match ty.k with
      | .iface => none
      | _ => (E x).map fun v => .iface t v
    | none => none
  | .makeFunc f first captured =>
    match f, opdsP sl first.toList, opdsP sl captured.toList with
    | .func g, some a, some b => some (.fn g a b)
    | _, _, _ => none
  | .slice t x lo hi none =>
    match C.T t, E x with
    | some ty, some v =>
      match optP sl lo, optP sl hi with
      | some lo, some hi =>
        match ty.k, v with
        | .str, .str s => (boundsP s.length lo hi).map fun (l, u) => .str ((s.drop l).take (u - l))
        | .slice e, .nils =>
          match C.T e, boundsP 0 lo hi with
          | some _, some _ => some .nils
          | _, _ => none
        | .slice e, .lst g xs =>
          match C.T e, boundsP xs.length lo hi with
          | some te, some (l, u) => if e = g then some (.lst g ((xs.drop l).take (u - l))) else none
          | _, _ => none
        | _, _ => none
      | _, _ => none
    | _, _ => none
  | .fieldAddr s x f =>
    match C.T s, E x with
    | some ty, some a =>
      match ty.k with
      | .struct fs => match fs[f]? with
        | some (off, u) => match C.T u with
          | some tu => if tu.size = 0 then none else
            match a with
            | .ptr i v o => some (.ptr i v (o + off))
            | .eptr i v g ix o => some (.eptr i v g ix (o + off))
            | .rptr cs => if off + tu.size ≤ cs.length then some (.rptr (cs.drop off)) else none
            | _ => none
          | none => none
        | none => none
      | _ => none
    | _, _ => none
  | .field t x f =>
    match C.T t, E x with
    | some ty, some (.agg cs) =>
      match ty.k with
      | .struct fs => match fs[f]? with
        | some (off, u) => match C.T u with
          | some tu => (readP cs off tu.size).bind (toP tu.k.agg)
          | none => none
        | none => none
      | _ => none
    | _, _ => none
  | .indexAddr t x ix =>
    match C.T t, E x, E ix with
    | some ty, some v, some (.int _ i) =>
      match ty.k, v with
      | .slice e, .lst g xs =>
        match C.T e with
        | some te => if e = g ∧ 0 ≤ i ∧ i < xs.length then (xs[i.toNat]?).map fun x => .rptr (cellsOf x) else none
        | none => none
      | .array n e, .ptr b v o =>
        match C.T e with
        | some te => if 0 ≤ i ∧ i < n then some (.ptr b v (o + i.toNat * te.size)) else none
        | none => none
      | .array n e, .rptr cs =>
        match C.T e with
        | some te => if 0 ≤ i ∧ i < n ∧ i.toNat * te.size + te.size ≤ cs.length then some (.rptr (cs.drop (i.toNat * te.size))) else none
        | none => none
      | _, _ => none
    | _, _, _ => none
  | .index t x ix =>
    match C.T t, E x, E ix with
    | some ty, some v, some (.int _ i) =>
      match ty.k, v with
      | .array n e, .agg cs =>
        match C.T e with
        | some te => if 0 ≤ i ∧ i < n then (readP cs (i.toNat * te.size) te.size).bind (toP te.k.agg) else none
        | none => none
      | .str, .str s => if 0 ≤ i then (s[i.toNat]?).map fun (b : Nat) => .int .u8 (b : Int) else none
      | _, _ => none
    | _, _, _ => none
  | .lookup t x ix ok =>
    match C.T t, E x, E ix with
    | some ty, some .nilm, some k =>
      match ty.k with
      | .map kt et => match C.T kt, C.T et with
        | some kty, some ety => if keyP kty.k k then (zeroE ety).map fun z => if ok then .tuple [z, .bool false] else z else none
        | _, _ => none
      | _ => none
    | _, _, _ => none
  | .extract t ix => match E t with
    | some (.tuple vs) => vs[ix]?
    | _ => none
  | .call c =>
    match opdsP sl c.args.toList with
    | none => none
    | some args =>
      match c.callee with
      | .builtin b =>
        match b, args with
        | .len, [x] =>
          match (c.argTypes[0]?).bind C.T with
          | some ty => match ty.k, x with
            | .str, .str s => some (.int .i64 s.length)
            | .slice _, .nils => some (.int .i64 0)
            | .slice _, .lst _ xs => some (.int .i64 xs.length)
            | .slice _, .own _ _ _ _ n => some (.int .i64 n)
            | .map _ _, .nilm => some (.int .i64 0)
            | _, _ => none
          | none => none
        | .cap, [.nils] =>
          match (c.argTypes[0]?).bind C.T with
          | some ty => match ty.k with
            | .slice _ => some (.int .i64 0)
            | _ => none
          | none => none
        | .min, [.int k a, .int _ b] => some (.int k (if b < a then b else a))
        | .max, [.int k a, .int _ b] => some (.int k (if b > a then b else a))
        | _, _ => none
      | _ => none
  | _ => none

/-- Is the slice literal in slot d only read? -/
def litUse (all : List Oper) (d : Nat) : Bool :=
  let isD : Operand → Bool := fun | .tmp t => Nat.beq t d | _ => false
  all.any fun o => match o.op with
    | .call c => match c.callee with
      | .builtin .append => match c.args[1]? with | some x => isD x | none => false
      | .builtin _ => false
      | _ => c.args.any isD
    | .build _ ps | .buildSlice _ _ ps => ps.any fun p => isD p.2
    | _ => false

inductive Mk where
  | lit (v : PV)
  | ptr (o : PO) | slice (g n : Nat) (o : PO) | map
def Mk.val (i ver : Nat) : Mk → PV
  | .lit v => v
  | .ptr _ => .ptr i ver 0
  | .slice g n _ => .own i ver g 0 n
  | .map => .map i ver
def Mk.obj : Mk → Option PO
  | .lit _ => none
  | .ptr o => some o
  | .slice _ _ o => some o
  | .map => some (.map [])

/-- An operation that makes one object and reads no other. -/
def makeP (all : List Oper) (sl : PSL) (o : Oper) : Option Mk :=
  match o.op with
  | .alloc t => match C.T t with
    | some ty => (pconsts ty.zero).map fun z => .ptr (.cells z)
    | none => none
  | .box _ x => match opdP sl x with
    | some v => if (cellsOf v).all cellP then some (.ptr (.cells (cellsOf v))) else none
    | none => none
  | .buildSlice t len ps =>
    match C.T t, partsP sl ps.toList with
    | some ty, some vs =>
      match ty.k with
      | .slice e => match C.T e with
        | some te => if len * te.size ≤ 2 ^ 20 ∧ te.zero.length = te.size then
            match zeroE te with
            | some z => if (cellsOf z).length = te.size ∧ (cellsOf z).all cellP = true ∧ plain 4 z = true then
              match fillE te.size (List.replicate len z) vs with
              | some xs => match o.dst with
                | some d => if litUse all d then some (.lit (.lst e xs)) else some (.slice e len (.row e true xs))
                | none => none
              | none => none
              else none
            | none => none
          else none
        | none => none
      | _ => none
    | _, _ => none
  | .makeSlice t l c =>
    match C.T t, opdP sl l, opdP sl c with
    | some ty, some (.int _ n), some (.int _ m) =>
      match ty.k with
      | .slice e => match C.T e with
        | some te => if 0 ≤ n ∧ n ≤ m ∧ m ≤ maxLenV ∧ te.bytes ≤ 2 ^ 16 then
            match zeroE te with
            | some z => if (cellsOf z).length = te.size ∧ (cellsOf z).all cellP = true ∧ plain 4 z = true then some (.slice e n.toNat (.row e true (List.replicate n.toNat z))) else none
            | none => none
          else none
        | none => none
      | _ => none
    | _, _, _ => none
  | .makeMap _ none => some .map
  | _ => none

def appendP (K : Loc) (h : PH) (d : Nat) (g : Nat) (ty : Ty) (n : Nat) (ys : List PV) : PV → Option (PV × PH)
  | .nils =>
    if n ≤ maxLenV ∧ ty.bytes ≤ 2 ^ 16 ∧ 0 < ty.size then
      if n = 0 then some (.nils, h) else
        let i := K.base + d
        let ver := h.stamp i
        some (.own i ver g 0 n, h.put i ver (.row g true ys))
    else none
  | .own i ver g' off len =>
    if len + n ≤ maxLenV ∧ ty.bytes ≤ 2 ^ 16 ∧ 0 < ty.size ∧ g' = g ∧ can K i = true then
      match h.row i ver g with
      | some (true, xs) => if off + len ≤ xs.length then some (.own i (ver + 1) g 0 (len + n), h.put i (ver + 1) (.row g true ((xs.drop off).take len ++ ys))) else none
      | _ => none
    else none
  | _ => none

def setCells (x : PV) (off : Nat) (vs : List PV) : Option PV :=
  match x with
  | .agg cs => (writeP cs off vs).map .agg
  | _ => match off, vs with | 0, [v] => some v | _, _ => none

/-- Operations on objects; cf runs a function, yf a loop's round. -/
def stateP (cf : Loc → Nat → List PV → PH → Option (PV × PH)) (yf : Loc → Nat → Nat → List PV → PH → Option (PV × PH)) (all : List Oper) (K : Loc) (sl : PSL) (h : PH) (o : Oper) : Option (PV × PH) :=
  let E := opdP sl
  let undef : PV := .tuple []
  match o.op with
  | .load t a =>
    match C.T t, E a with
    | some ty, some (.ptr i ver off) =>
      match h.get i with
      | some (v, .cells cs) => if v = ver then ((readP cs off ty.size).bind (toP ty.k.agg)).map (·, h) else none
      | _ => none
    | some ty, some (.eptr i ver g ix off) =>
      match h.row i ver g with
      | some (_, xs) => match xs[ix]? with
        | some x => ((readP (cellsOf x) off ty.size).bind (toP ty.k.agg)).map (·, h)
        | none => none
      | none => none
    | _, _ => none
  | .store t a x =>
    match C.T t, E a, E x with
    | some ty, some (.ptr i ver off), some v =>
      if (cellsOf v).length = ty.size ∧ (cellsOf v).all cellP = true ∧ can K i = true then
        match h.get i with
        | some (w, .cells cs) => if w = ver then (writeP cs off (cellsOf v)).map fun cs => (undef, h.put i ver (.cells cs)) else none
        | _ => none
      else none
    | some ty, some (.eptr i ver g ix off), some v0 =>
      match inlV h v0 with
      | none => none
      | some v =>
        if (cellsOf v).length = ty.size ∧ (cellsOf v).all cellP = true ∧ (cellsOf v).all (plain 3) = true ∧ can K i = true ∧ (ownV v0).all (can K) = true then
          match (h.freeze (ownV v0)).row i ver g with
          | some (true, xs) => match xs[ix]? with
            | some x => (setCells x off (cellsOf v)).map fun x => (undef, (h.freeze (ownV v0)).put i ver (.row g true (xs.set ix x)))
            | none => none
          | _ => none
        else none
    | _, _, _ => none
  | .convert src dst x =>
    match C.T src, C.T dst, E x with
    | some ts, some td, some v =>
      match ts.k, td.k, v with
      | .str, .slice e, .str s =>
        match C.T e, o.dst with
        | some te, some d => match te.k with
          | .int .u8 => if s.length ≤ maxLenV ∧ te.size = 1 then some (.own (K.base + d) (h.stamp (K.base + d)) e 0 s.length, h.put (K.base + d) (h.stamp (K.base + d)) (.row e true (s.map fun (b : Nat) => .int .u8 (b : Int)))) else none
          | _ => none
        | _, _ => none
      | .slice e, .str, v =>
        match C.T e with
        | some te => match te.k with
          | .int .u8 => if te.size = 1 then ((h.elems e v).bind bytesP).map fun b => (.str b, h) else none
          | _ => none
        | none => none
      | _, _, _ => none
    | _, _, _ => none
  | .slice t x lo hi none =>
    match C.T t, E x with
    | some ty, some (.own i ver g off len) =>
      match optP sl lo, optP sl hi with
      | some lo, some hi =>
        match ty.k with
        | .slice e =>
          match C.T e, boundsP len lo hi, h.row i ver g with
          | some te, some (l, u), some _ => if e = g then some (.own i ver g (off + l) (u - l), h) else none
          | _, _, _ => none
        | _ => none
      | _, _ => none
    | _, _ => none
  | .indexAddr t x ix =>
    match C.T t, E x, E ix with
    | some ty, some (.own b ver g off len), some (.int _ i) =>
      match ty.k with
      | .slice e =>
        match C.T e, h.row b ver g with
        | some te, some (_, xs) => if e = g ∧ 0 ≤ i ∧ i < len ∧ off + len ≤ xs.length then some (.eptr b ver g (off + i.toNat) 0, h) else none
        | _, _ => none
      | _ => none
    | _, _, _ => none
  | .lookup t x ix ok =>
    match C.T t, E x, E ix with
    | some ty, some (.map i ver), some k =>
      match ty.k with
      | .map kt et => match C.T kt, C.T et with
        | some kty, some ety =>
          if keyP kty.k k then
            match h.get i with
            | some (w, .map es) =>
              if w = ver then
                match mapFindP es k with
                | some (some v) => some (if ok then .tuple [v, .bool true] else v, h)
                | some none => (zeroE ety).map fun z => (if ok then .tuple [z, .bool false] else z, h)
                | none => none
              else none
            | _ => none
          else none
        | _, _ => none
      | _ => none
    | _, _, _ => none
  | .mapUpdate t m k x | .insert t m k x =>
    match C.T t, E m, E k, E x with
    | some ty, some (.map i ver), some kv, some v =>
      match ty.k with
      | .map kt _ => match C.T kt, h.get i with
        | some kty, some (w, .map es) => if w = ver ∧ keyP kty.k kv = true ∧ can K i = true then (mapPutP es kv v).map fun es => (undef, h.put i ver (.map es)) else none
        | _, _ => none
      | _ => none
    | _, _, _, _ => none
  | .call c =>
    match opdsP sl c.args.toList with
    | none => none
    | some args =>
      match c.callee with
      | .value f =>
        match E f with
        | some (.fn g first captured) => cf K g (first ++ args ++ captured) h
        | some (.yield l ver) => yf K l ver args h
        | _ => none
      | .invoke _ _ => none
      | .builtin b =>
        match b, args with
        | .len, [.map i ver] =>
          match (c.argTypes[0]?).bind C.T with
          | some ty => match ty.k with
            | .map _ _ => match h.get i with | some (w, .map es) => if w = ver then some (.int .i64 es.length, h) else none | _ => none
            | _ => none
          | none => none
        | .append, [s, x] =>
          match (c.argTypes[0]?).bind C.T, (c.argTypes[1]?).bind C.T, o.dst with
          | some ts, some tx, some d =>
            match ts.k with
            | .slice e => match C.T e with
              | some ty =>
                match tx.k with
                | .int _ =>
                  match s, x with
                  | .nils, .int _ n =>
                    if 0 ≤ n ∧ n ≤ maxLenV ∧ ty.bytes ≤ 2 ^ 16 ∧ 0 < ty.size then
                      if n = 0 then some (.nils, h) else
                      match zeroE ty with
                      | some z => if (cellsOf z).length = ty.size ∧ (cellsOf z).all cellP = true ∧ plain 4 z = true then some (.own (K.base + d) (h.stamp (K.base + d)) e 0 n.toNat, h.put (K.base + d) (h.stamp (K.base + d)) (.row e true (List.replicate n.toNat z))) else none
                      | none => none
                    else none
                  | _, _ => none
                | _ =>
                  match x with
                  | .str b => if ty.size = 1 then appendP K h d e ty b.length (b.map fun (b : Nat) => .int .u8 (b : Int)) s else none
                  | _ => match h.elems e x with
                    | some ys => appendP K h d e ty ys.length ys s
                    | none => none
              | none => none
            | _ => none
          | _, _, _ => none
        | .delete, [.map i ver, k] =>
          match (c.argTypes[0]?).bind C.T with
          | some ts => match ts.k with
            | .map kt _ =>
              match C.T kt, h.get i with
              | some kty, some (w, .map es) => if w = ver ∧ keyP kty.k k = true ∧ can K i = true then (mapDelP es k).map fun es => (.tuple [], h.put i ver (.map es)) else none
              | _, _ => none
            | _ => none
          | none => none
        | _, _ => none
  | _ => none
where
  bytesP : List PV → Option (List Nat)
    | [] => some []
    | .int .u8 n :: r => (bytesP r).map fun b => (n.toNat % 256 :: b)
    | _ => none

def opP (cf : Loc → Nat → List PV → PH → Option (PV × PH)) (yf : Loc → Nat → Nat → List PV → PH → Option (PV × PH)) (all : List Oper) (K : Loc) (sl : PSL) (h : PH) (o : Oper) : Option (PV × PH) :=
  match freeP C sl o with
  | some v => some (v, h)
  | none =>
    match makeP C all sl o with
    | some m => match m.obj, o.dst with
      | none, _ => some (m.val 0 0, h)
      | some ob, some d => some (m.val (K.base + d) (h.stamp (K.base + d)), h.put (K.base + d) (h.stamp (K.base + d)) ob)
      | some _, none => none
    | none => stateP C cf yf all K sl h o

def wantedP (ops : List Oper) (sl : PSL) (o : Oper) : Option Bool :=
  match o.guard with
  | none => some true
  | some (j, want) =>
    match (ops[j]?).bind (·.dst) with
    | some d => match sl d with
      | some (.bool b) => some (b == want)
      | some _ => some false
      | none => none
    | none => some false

def putP (sl : PSL) (dst : Option Nat) (v : PV) : PSL := match dst with | some d => sl.put d v | none => sl

def opsP (cf : Loc → Nat → List PV → PH → Option (PV × PH)) (yf : Loc → Nat → Nat → List PV → PH → Option (PV × PH)) (K : Loc) (all : List Oper) : List Oper → PSL → PH → Option (PSL × PH)
  | [], sl, h => some (sl, h)
  | o :: r, sl, h =>
    match wantedP all sl o with
    | some true => match opP C cf yf all K sl h o with
      | some (v, h') => opsP cf yf K all r (putP sl o.dst v) h'
      | none => none
    | some false => opsP cf yf K all r (putP sl o.dst (.tuple [])) h
    | none => none

/-! ### a region whose order is open -/
/-- May the operation write? -/
def writesP (o : Oper) : Bool :=
  match o.op with
  | .load _ _ | .slice _ _ _ _ _ | .indexAddr _ _ _ | .lookup _ _ _ _ => false
  | .call c => match c.callee with | .builtin .len => false | _ => true
  | _ => true

/-- Values of which the virtual run can see that they are the same. -/
def sameP : Nat → PV → Bool
  | n + 1, .agg cs | n + 1, .tuple cs => cs.all (sameP n)
  | n + 1, .iface _ v => sameP n v
  | n + 1, .fn _ a c => a.all (sameP n) && c.all (sameP n)
  | _ + 1, .yield _ _ => true
  | _, .agg _ | _, .tuple _ | _, .iface _ _ | _, .fn _ _ _ | _, .yield _ _ => false
  | _, _ => true
def drawOk (ops : Array Oper) : Bool :=
  let masks := Region.before ops
  slotsOk ops.toList masks && (List.range ops.size).all fun i => Nat.blt (masks.getD i 0) (2 ^ i) && (List.range i).all fun j => !(masks.getD i 0).testBit j || Nat.beq (masks.getD j 0 ||| masks.getD i 0) (masks.getD i 0)

/-- idx, does it write? of the operations on objects so far; the objects made so far. -/
structure PD where
  sl : PSL
  h : PH
  st : List (Nat × Bool)
  made : List Nat

def stepP (cf : Loc → Nat → List PV → PH → Option (PV × PH)) (yf : Loc → Nat → Nat → List PV → PH → Option (PV × PH)) (K : Loc) (all : List Oper) (masks : Array Nat) (o : Oper) (i : Nat) (s : PD) : Option PD :=
  let looks := looksV all o
  let pk : PSL := fun t => if looks.contains t then s.sl t else none
  match wantedP all pk o with
  | none => none
  | some false => some { s with sl := putP s.sl o.dst (.tuple []) }
  | some true =>
    match freeP C pk o with
    | some v => if sameP 3 v then some { s with sl := putP s.sl o.dst v } else none
    | none =>
      match makeP C all pk o with
      | some m => match m.obj, o.dst with
        | none, _ => some { s with sl := putP s.sl o.dst (m.val 0 0) }
        | some ob, some d => some { s with sl := s.sl.put d (m.val (K.base + d) (s.h.stamp (K.base + d))), h := s.h.put (K.base + d) (s.h.stamp (K.base + d)) ob, made := i :: s.made }
        | some _, none => none
      | none =>
        if s.st.all (fun (j, w) => (!w && !writesP o) || (masks.getD i 0).testBit j) && s.made.all (fun j => (masks.getD i 0).testBit j) then
          match stateP C cf yf all K pk s.h o with
          | some (v, h') => some { s with sl := putP s.sl o.dst v, h := h', st := (i, writesP o) :: s.st }
          | none => none
        else none

def passP (cf : Loc → Nat → List PV → PH → Option (PV × PH)) (yf : Loc → Nat → Nat → List PV → PH → Option (PV × PH)) (K : Loc) (all : List Oper) (masks : Array Nat) : List Oper → Nat → PD → Option PD
  | [], _, s => some s
  | o :: r, i, s => match stepP C cf yf K all masks o i s with
    | some s' => passP cf yf K all masks r (i + 1) s'
    | none => none

def drawP (cf : Loc → Nat → List PV → PH → Option (PV × PH)) (yf : Loc → Nat → Nat → List PV → PH → Option (PV × PH)) (K : Loc) (ops : Array Oper) (sl : PSL) (h : PH) : Option (PSL × PH) :=
  (passP C cf yf K ops.toList (Region.before ops) ops.toList 0 { sl, h, st := [], made := [] }).map fun s => (s.sl, s.h)

/-! ### control -/
def resP (sl : PSL) (h : PH) : List ResultVar → Option (List PV)
  | [] => some []
  | .tmp t :: r => match sl t, resP sl h r with | some v, some vs => some (v :: vs) | _, _ => none
  | .cell a t :: r =>
    match sl a, C.T t, resP sl h r with
    | some (.ptr i ver off), some ty, some vs =>
      match h.get i with
      | some (w, .cells cs) => if w = ver then ((readP cs off ty.size).bind (toP ty.k.agg)).map (· :: vs) else none
      | _ => none
    | _, _, _ => none

def oneP : List PV → PV
  | [v] => v
  | vs => .tuple vs

def zipP (i : Nat) (args : List PV) : PSL := fun t => if i ≤ t then args[t - i]? else none

def flatP : Nat → PV → Bool
  | _, .bool _ | _, .int _ _ | _, .str _ | _, .nilp | _, .nils | _, .nilm | _, .nilf | _, .nili => true
  | n + 1, .agg cs | n + 1, .tuple cs => cs.all (flatP n)
  | n + 1, .iface _ v => flatP n v
  | _, _ => false

/-- The old objects as they are after a call, nothing new. -/
def foldOld (h3 : PH) : List Nat → PH → PH
  | [], h => h
  | i :: r, h => match h3.get i with
    | some (ver, o) => foldOld h3 r (h.put i ver o)
    | none => foldOld h3 r h

def freshIn (h : PH) (a b : Nat) : Bool := (List.range (b - a)).all fun k => (h.get (a + k)).isNone

def settleP (h h2 : PH) (ok ids : List Nat) (v : PV) : Option (PV × PH) :=
  match inlT h2 v with
  | none => none
  | some v' =>
    let h3 := h2.freeze (ownT v)
    if (ownT v).all (fun i => Nat.ble h.next i || ok.any (Nat.beq i)) then
      if below h.next 4 v' && ok.all (fun i => h3.belowAt h.next i) then
        let hr := foldOld h3 ok h
        if ids.all (fun i => !(ok.any (Nat.beq i)) && (match h.get i with
            | some (_, .row g true _) => noTag g 14 v' && ok.all (fun j => match h3.get j with | some (_, o) => noTagO g o | none => true)
            | some (_, .row _ false _) => true
            | _ => false)) then some (v', hr)
        else some (v', foldOld h3 ok (h.freeze ids))
      else if !(flatP 5 v') || ok.any (fun i => !(h3.belowAt h.next i) && h.belowAt h.next i) then some (v', h3) else none
    else none

/-- What is known of a function without arguments. -/
def extP (f : Nat) : List PV → Option PV
  | [] => (C.ext f []).bind (pconst 0)
  | _ => none

def callF (ex : Loc → Code → PSL → PH → Option (Ex × PSL × PH)) (K : Loc) (f : Nat) (args : List PV) (h : PH) : Option (PV × PH) :=
  match extP C f args with
  | some v => some (v, h)
  | none =>
  match C.F f with
  | none => none
  | some fn => match fn.body with
    | none => none
    | some c =>
      if C.raw f then
        match ex { base := h.next, lo := K.lo, ok := K.ok } c (zipP 0 args) { h with next := h.next + fn.ntmps } with
        | some (.normal, sl', h2) | some (.ret, sl', h2) =>
          match resP C sl' h2 fn.results.toList with
          | none => none
          | some vs =>
            if h2.next = h.next + fn.ntmps ∧ freshIn h2 h.next h2.next = true then some (oneP vs, { h2 with next := h.next }) else some (oneP vs, h2)
        | _ => none
      else
        let ids := args.flatMap ownV
        match mapO (inlV h) args with
        | none => none
        | some args' =>
          let ok := reach h 4 (args'.flatMap (refs 3))
          if ok.all (fun i => can K i && (h.get i).isSome) && ids.all (can K) then
            match ex { base := h.next, lo := h.next, ok := ok } c (zipP 0 args') { h.freeze ids with next := h.next + fn.ntmps } with
            | some (.normal, sl', h2) | some (.ret, sl', h2) =>
              match resP C sl' h2 fn.results.toList with
              | none => none
              | some vs => settleP h h2 ok ids (oneP vs)
            | _ => none
          else none

def putsP : PSL → List (Nat × PV) → PSL
  | s, [] => s
  | s, (p, v) :: r => putsP (s.put p v) r

def yieldF (ex : Loc → Code → PSL → PH → Option (Ex × PSL × PH)) (K : Loc) (l ver : Nat) (args : List PV) (h : PH) : Option (PV × PH) :=
  match h.get l with
  | some (w, .loop K0 sl0 ps assign body) =>
    if w = ver ∧ ps.length = args.length ∧ Nat.ble K.lo K0.lo = true ∧ K0.ok.all (can K) = true then
      match ex K0 assign (putsP sl0 (ps.zip args)) (h.put l ver .gone) with
      | some (.normal, sl1, h1) =>
        match ex K0 body sl1 h1 with
        | some (.normal, _, h2) =>
          match h2.get l with
          | some (w2, .gone) => if w2 = ver then some (.bool true, h2.put l ver (.loop K0 sl0 ps assign body)) else none
          | _ => none
        | _ => none
      | _ => none
    else none
  | _ => none

def keepP (sl0 sl : PSL) : PSL := fun t => match sl0 t with | some _ => sl t | none => none

def exec : Nat → Loc → Bool → Code → PSL → PH → Option (Ex × PSL × PH)
  | 0, _, _, _, _, _ => none
  | n + 1, K, rng, code, sl, h =>
    let cf := callF C (fun K' => exec n K' true)
    let yf := yieldF (fun K' => exec n K' false)
    match code with
    | .skip => some (.normal, sl, h)
    | .region _ ops draw => (if draw then drawP C cf yf K ops sl h else opsP C cf yf K ops.toList ops.toList sl h).map fun (sl', h') => (.normal, sl', h')
    | .seq a b =>
      match exec n K rng a sl h with
      | some (.normal, sl', h') => exec n K rng b sl' h'
      | r => r
    | .cond c a b =>
      match opdP sl c with
      | some (.bool true) => exec n K rng a sl h
      | some (.bool false) => exec n K rng b sl h
      | _ => none
    | .block id b =>
      match exec n K rng b sl h with
      | some (.exit id', sl', h') => if id' = id then some (.normal, sl', h') else some (.exit id', sl', h')
      | r => r
    | .loop b =>
      match exec n K rng b sl h with
      | some (.normal, sl', h') => exec n K rng (.loop b) (keepP sl sl') h'
      | r => r
    | .exit id => some (.exit id, sl, h)
    | .ret => some (.ret, sl, h)
    | .rangeFunc f ps assign body =>
      if rng then
        match opdP sl f with
        | some (.fn g first captured) =>
          if C.raw g then
            match cf K g (first ++ [.yield h.next 0] ++ captured) { h.put h.next 0 (.loop K sl ps.toList assign body) with next := h.next + 1 } with
            | some (_, h') => match h'.get h.next with
              | some (0, .loop _ _ _ _ _) => some (.normal, sl, h'.put h.next 0 .gone)
              | _ => none
            | none => none
          else none
        | _ => none
      else none
    | _ => none

def call (n : Nat) (K : Loc) : Nat → List PV → PH → Option (PV × PH) := callF C (fun K' => exec C n K' true) K
end
end Go.Pure
end
