/- A run over plain values: slices that nobody writes any more are lists; what is written lies in a small heap whose places are the slots of the code. -/
import Derived.Test.YtabcdhcpilpojaaGreatDoorVA
set_option linter.unusedSimpArgs false
set_option linter.unusedVariables false
section
namespace Go.Pure
open Go Go.Virt
inductive PV where
 |bool (b:Bool)
 |int (k:IntKind) (n:Int)
 |str (s:List Nat)
 |nilp | nils | nilm | nilf | nili
 |lst (g:Nat) (xs:List PV)
 |own (i Zc g off len:Nat)
 |ptr (i Zc off:Nat)
 |eptr (i Zc g ix off:Nat)
 |rptr (cs:List PV)
 |map (i Zc:Nat)
 |fn (f:Nat) (first captured:List PV)
 |yield (i Zc:Nat)
 |iface (t:Nat) (v:PV)
 |agg (cs:List PV)
 |tuple (cs:List PV)
 deriving Inhabited
abbrev Yt:=Nat->Option PV
def Yt.put (sl:Yt)(d:Nat)(v:PV):Yt:=fun t=>if t=d then some v else sl t
structure Loc where
 base:Nat
 lo:Nat
 ok:List Nat
inductive PO where
 |cells (cs:List PV)
 |row (g:Nat) (own:Bool) (xs:List PV)
 |map (es:List (PV×PV))
 |loop (K:Loc) (sl:Yt) (params:List Nat) (assign body:Code)
 |gone
structure PH where
 next:Nat
 get:Nat->Option (Nat×PO)
def PH.put (h:PH)(i Zc:Nat)(o:PO):PH:={h with get:=fun j=>if j=i then some (Zc,o) else h.get j}
def PH.stamp (h:PH)(i:Nat):Nat:=match h.get i with | some (v,_)=>v+1 | none=>0
def can (K:Loc)(i:Nat):Bool:=Nat.ble K.lo i||K.ok.any (Nat.beq i)
def Zz:Nat->Value->Option PV
 | _,.bool b=>some (.bool b)
 | _,.int k n=>some (.int k n)
 | _,.string s=>some (.str (s.data.toList.map UInt8.toNat))
 | _,.pointer none=>some .nilp
 | _,.slice none 0 0=>some .nils
 | _,.map none=>some .nilm
 | _,.nilFunc=>some .nilf
 | _,.nilIface=>some .nili
 |n+1,.agg cs=>(go n cs.toList).map .agg
 | _,_=>none
where
 go:Nat->List Value->Option (List PV)
  | _,[]=>some []
  |n,v::r=>match Zz n v,go n r with | some p,some ps=>some (p::ps) | _,_=>none
def Zbf (cs:List Value):Option (List PV):=Zz.go 0 cs
def Zd:PV->List PV
 | .agg cs=>cs
 |v=>[v]
def Wv:PV->Bool
 | .agg _ | .tuple _=>false
 | _=>true
def toP (agg:Bool)(cs:List PV):Option PV:=
 if agg then some (.agg cs) else match cs with | [v]=>some v | _=>none
def X1 (cells:List PV)(off n:Nat):Option (List PV):=
 if off+n<=cells.length then some ((cells.drop off).take n) else none
def Yn:List PV->Nat->List PV->Option (List PV)
 |cs,_,[]=>some cs
 | [],_,_::_=>none
 | _::cs,0,v::vs=>(Yn cs 0 vs).map (v::·)
 |c::cs,i+1,vs=>(Yn cs i vs).map (c::·)
def plain:Nat->PV->Bool
 | _,.bool _ | _,.int _ _ | _,.str _ | _,.nilp | _,.nils | _,.nilm | _,.nilf | _,.nili | _,.lst _ _=>true
 |n+1,.agg cs=>cs.all (plain n)
 |n+1,.iface _ v=>plain n v
 | _,_=>false
def PH.row (h:PH)(i Zc g:Nat):Option (Bool×List PV):=
 match h.get i with
 |some (v,.row g' own xs)=>if v=Zc/\g'=g then some (own,xs) else none
 | _=>none
def PH.elems (h:PH)(g:Nat):PV->Option (List PV)
 | .nils=>some []
 | .lst g' xs=>if g'=g then some xs else none
 | .own i Zc g' off len=>
   if g'=g then
    match h.row i Zc g with
    |some (_,xs)=>if off+len<=xs.length then some ((xs.drop off).take len) else none
    |none=>none
   else none
 | _=>none
def Z29:PV->Option Nat
 | .nils=>some 0
 | .lst _ xs=>some xs.length
 | .own _ _ _ _ len=>some len
 | .str s=>some s.length
 | _=>none
def Zee (h:PH):PV->Option PV
 | .own i Zc g off len=>(h.elems g (.own i Zc g off len)).map (.lst g)
 |v=>some v
def Vi {α β:Type}(f:α->Option β):List α->Option (List β)
 | []=>some []
 |x::r=>match f x,Vi f r with | some y,some ys=>some (y::ys) | _,_=>none
def inlV (h:PH):PV->Option PV
 | .agg cs=>(Vi (Zee h) cs).map .agg
 |v=>Zee h v
def inlT (h:PH):PV->Option PV
 | .tuple cs=>(Vi (inlV h) cs).map .tuple
 |v=>inlV h v
def Zdi:PV->List Nat
 | .own i _ _ _ _=>[i]
 | _=>[]
def ownV:PV->List Nat
 | .agg cs=>cs.flatMap Zdi
 |v=>Zdi v
def ownT:PV->List Nat
 | .tuple cs=>cs.flatMap ownV
 |v=>ownV v
def PH.freeze (h:PH):List Nat->PH
 | []=>h
 |i::r=>match h.get i with
  |some (Zc,.row g _ xs)=>(h.put i Zc (.row g false xs)).freeze r
  | _=>h.freeze r
def refs:Nat->PV->List Nat
 | _,.own i _ _ _ _ | _,.ptr i _ _ | _,.eptr i _ _ _ _ | _,.map i _ | _,.yield i _=>[i]
 |n+1,.fn _ a c=>a.flatMap (refs n)++c.flatMap (refs n)
 |n+1,.iface _ v=>refs n v
 |n+1,.agg cs=>cs.flatMap (refs n)
 |n+1,.tuple cs=>cs.flatMap (refs n)
 | _,_=>[]
def below (m:Nat):Nat->PV->Bool
 | _,.own i _ _ _ _ | _,.ptr i _ _ | _,.eptr i _ _ _ _ | _,.map i _ | _,.yield i _=>Nat.blt i m
 |n+1,.fn _ a c=>a.all (below m n)&&c.all (below m n)
 |n+1,.iface _ v=>below m n v
 |n+1,.agg cs=>cs.all (below m n)
 |n+1,.tuple cs=>cs.all (below m n)
 | _,.fn _ _ _ | _,.iface _ _ | _,.agg _ | _,.tuple _=>false
 | _,_=>true
def refsO:PO->List Nat
 | .cells cs=>cs.flatMap (refs 3)
 | .map es=>es.flatMap fun e=>refs 3 e.2
 | _=>[]
def Wj (m:Nat):PO->Bool
 | .cells cs=>cs.all (below m 3)
 | .map es=>es.all fun e=>below m 3 e.1&&below m 3 e.2
 | .row _ _ _ | .gone=>true
 | .loop _ _ _ _ _=>false
def PH.belowAt (h:PH)(m i:Nat):Bool:=match h.get i with | some (_,o)=>Wj m o | none=>true
def reach (h:PH):Nat->List Nat->List Nat
 | 0,l=>l
 | _,[]=>[]
 |n+1,l=>l++reach h n (l.flatMap fun i=>match h.get i with | some (_,o)=>refsO o | none=>[])
def Yu (g:Nat):Nat->PV->Bool
 |n+1,.lst g' xs=>!(Nat.beq g' g)&&xs.all (Yu g n)
 | _,.rptr _=>false
 |n+1,.agg cs=>cs.all (Yu g n)
 |n+1,.tuple cs=>cs.all (Yu g n)
 |n+1,.iface _ v=>Yu g n v
 |n+1,.fn _ a c=>a.all (Yu g n)&&c.all (Yu g n)
 | _,.lst _ _ | _,.agg _ | _,.tuple _ | _,.iface _ _ | _,.fn _ _ _=>false
 | _,_=>true
def Zgh (g:Nat):PO->Bool
 | .cells cs=>cs.all (Yu g 12)
 | .map es=>es.all fun e=>Yu g 12 e.1&&Yu g 12 e.2
 | .row g' _ xs=>xs.all (Yu g 12)
 | .gone=>true
 | .loop _ _ _ _ _=>false
def ltL:List Nat->List Nat->Bool
 | _,[]=>false
 | [],_::_=>true
 |a::l,b::m=>bif Nat.blt a b then true else bif Nat.blt b a then false else ltL l m
def Zlq (C:Ctx)(u:Nat)(x y:PV):Option Bool:=
 match C.T u with
 |none=>none
 |some ty=>
  match ty.k,x,y with
  | .bool,.bool a,.bool b=>some (a==b)
  | .int _,.int k a,.int k' b=>if k=k' then some (a==b) else none
  | .str,.str a,.str b=>some (a==b)
  | _,_,_=>none
def Zn1 (C:Ctx):Nat->List (Nat×Nat)->List PV->List PV->Option Bool
 | _,[],[],[]=>some true
 |k,(o,u)::r,x::l,y::m=>if o=k then (Zlq C u x y).bind fun a=>(Zn1 C (k+1) r l m).map fun b=>a&&b else none
 | _,_,_,_=>none
def Zo0:PV->Option Bool
 | .nils=>some true
 | .lst _ _ | .own _ _ _ _ _=>some false
 | _=>none
def Zrm:PV->Option Bool
 | .nilp=>some true
 | .ptr _ _ _ | .eptr _ _ _ _ _ | .rptr _=>some false
 | _=>none
def Zye:PV->Option Bool
 | .nilm=>some true
 | .map _ _=>some false
 | _=>none
def Zqn:Option Bool->Option Bool->Option Bool
 |some true,some b=>some b
 |some false,some true=>some false
 | _,_=>none
def eqP (C:Ctx)(t:Nat)(x y:PV):Option Bool:=
 match C.T t with
 |none=>none
 |some ty=>
  match ty.k with
  | .bool=>match x,y with | .bool a,.bool b=>some (a==b) | _,_=>none
  | .slice _=>Zqn (Zo0 x) (Zo0 y)
  | .ptr _=>Zqn (Zrm x) (Zrm y)
  | .map _ _=>Zqn (Zye x) (Zye y)
  | .struct fs=>match x,y with | .agg xs,.agg ys=>(if C.cmp t then Zn1 C 0 fs xs ys else none) | _,_=>none
  | _=>none
def Ra (op:BinOp)(k k':IntKind)(a b:Int):Option PV:=
 match op with
 | .shl=>if b < 0 then none else some (.int k (k.wrap (a*2^min b.toNat k.bits)))
 | .shr=>if b < 0 then none else some (.int k (a.fdiv (2^min b.toNat k.bits)))
 | _=>
   if k=k' then
    match op with
    | .add=>some (.int k (k.wrap (a+b)))
    | .sub=>some (.int k (k.wrap (a - b)))
    | .mul=>some (.int k (k.wrap (a*b)))
    | .quo=>if b=0 then none else some (.int k (k.wrap (a.tdiv b)))
    | .rem=>if b=0 then none else some (.int k (a.tmod b))
    | .and=>some (.int k (k.wrap (BitVec.ofInt k.bits a&&&BitVec.ofInt k.bits b).toNat))
    | .or=>some (.int k (k.wrap (BitVec.ofInt k.bits a|||BitVec.ofInt k.bits b).toNat))
    | .xor=>some (.int k (k.wrap (BitVec.ofInt k.bits a^^^BitVec.ofInt k.bits b).toNat))
    | .eql=>some (.bool (a==b))
    | .neq=>some (.bool (a !=b))
    | .lss=>some (.bool (a < b))
    | .leq=>some (.bool (a<=b))
    | .gtr=>some (.bool (a > b))
    | .geq=>some (.bool (a ≥ b))
    | _=>none
   else none
def Zow (op:BinOp)(a b:List Nat):Option PV:=
 match op with
 | .add=>if a.length+b.length<=2^62 then some (.str (a++b)) else none
 | .eql=>some (.bool (a==b))
 | .neq=>some (.bool (!(a==b)))
 | .lss=>some (.bool (ltL a b))
 | .gtr=>some (.bool (!(ltL a b||a==b)))
 | _=>none
def Za6 (C:Ctx)(op:BinOp)(t:Nat)(x y:PV):Option PV:=
 match x,y with
 | .int k a,.int k' b=>Ra op k k' a b
 | .str a,.str b=>Zow op a b
 |x,y=>
  match op with
  | .eql=>(eqP C t x y).map .bool
  | .neq=>(eqP C t x y).map fun b=>.bool (!b)
  | _=>none
def Zu6 (C:Ctx)(op:BinOp)(t:Nat)(ox oy:Operand)(x y:PV):Option PV:=
 if Virt.litNil ox||Virt.litNil oy then (match op,x,y with
  | .eql,.nili,.nili=>if Virt.ifaceK C t then some (.bool true) else none
  | .neq,.nili,.nili=>if Virt.ifaceK C t then some (.bool false) else none
  | _,_,_=>none) else none
def unP (op:UnOp)(x:PV):Option PV:=
 match op,x with
 | .neg,.int k n=>some (.int k (k.wrap (0 - n)))
 | .not,.bool b=>some (.bool !b)
 | _,_=>none
def Zrp (k:TK):PV->Bool
 | .int _ _=>match k with | .int _=>true | _=>false
 | .str _=>match k with | .str=>true | _=>false
 | .bool _=>match k with | .bool=>true | _=>false
 | _=>false
def R3:PV->PV->Option Bool
 | .int k a,.int k' b=>if k=k' then some (a==b) else none
 | .str a,.str b=>some (a==b)
 | .bool a,.bool b=>some (a==b)
 | _,_=>none
def Sz:List (PV×PV)->PV->Option (Option PV)
 | [],_=>some none
 | (k,v)::r,x=>match R3 x k with
   |some true=>some (some v)
   |some false=>Sz r x
   |none=>none
def Rx:List (PV×PV)->PV->PV->Option (List (PV×PV))
 | [],x,u=>some [(x,u)]
 | (k,v)::r,x,u=>match R3 x k with
   |some true=>some ((x,u)::r)
   |some false=>(Rx r x u).map ((k,v)::·)
   |none=>none
def Zcx:List (PV×PV)->PV->Option (List (PV×PV))
 | [],_=>some []
 | (k,v)::r,x=>match R3 x k with
   |some true=>some r
   |some false=>(Zcx r x).map ((k,v)::·)
   |none=>none
def Zk3:PV->Option Nat
 | .int _ n=>if 0<=n then some n.toNat else none
 | _=>none
def Xv (len:Nat)(lo hi:Option PV):Option (Nat×Nat):=
 match (match hi with | some v=>Zk3 v | none=>some len),(match lo with | some v=>Zk3 v | none=>some 0) with
 |some h,some l=>if l<=h/\h<=len then some (l,h) else none
 | _,_=>none
def Zf0 (place:Nat->Option (Nat×Nat))(cells:List PV):List (Nat×PV)->Option (List PV)
 | []=>some cells
 | (i,v)::rest=>
   match place i with
   |none=>none
   |some (off,size)=>
    if (Zd v).length=size/\off+size<=cells.length/\(Zd v).all Wv=true then
     match Yn cells off (Zd v) with
     |some Wx=>Zf0 place Wx rest
     |none=>none
    else none
def Zql (size:Nat)(xs:List PV):List (Nat×PV)->Option (List PV)
 | []=>some xs
 | (i,v)::rest=>
   if (Zd v).length=size/\i < xs.length/\(Zd v).all Wv=true/\plain 4 v=true then Zql size (xs.set i v) rest else none
def Q8 (ty:Ty):Option PV:=(Zbf ty.zero).bind (toP ty.k.agg)
section
variable (C:Ctx)
def Yx (sl:Yt):Operand->Option PV
 | .tmp t=>sl t
 | .const v=>Zz 3 v
 | .global _=>none
 | .func f=>some (.fn f [] [])
def W8 (sl:Yt):List Operand->Option (List PV)
 | []=>some []
 |x::r=>match Yx sl x,W8 sl r with | some v,some vs=>some (v::vs) | _,_=>none
def U1 (sl:Yt):List (Nat×Operand)->Option (List (Nat×PV))
 | []=>some []
 | (i,x)::r=>match Yx sl x,U1 sl r with | some v,some vs=>some ((i,v)::vs) | _,_=>none
def Sx (sl:Yt):Option Operand->Option (Option PV)
 |some l=>(Yx sl l).map some
 |none=>some none
def Yi (sl:Yt)(o:Oper):Option PV:=
 let E:=Yx sl
 match o.op with
 | .move x | .assign x=>E x
 | .pick c a b=>
   match E c with
   |some (.bool true)=>E a
   |some (.bool false)=>E b
   | _=>none
 | .build t ps=>
   match C.T t,U1 sl ps.toList with
   |some ty,some vs=>
    match ty.k with
    | .struct fs=>if fs.all (fun f=>(C.T f.2).isSome) then
       (Zbf ty.zero).bind fun z=>(Zf0 (fun i=>(fs[i]?).bind fun (off,u)=>(C.T u).map fun tu=>(off,tu.size)) z vs).map .agg else none
    | .array _ e=>match C.T e with
      |some te=>(Zbf ty.zero).bind fun z=>(Zf0 (fun i=>some (i*te.size,te.size)) z vs).map .agg
      |none=>none
    | _=>none
   | _,_=>none
 | .load t a=>
   match C.T t,E a with
   |some ty,some (.rptr cs)=>(X1 cs 0 ty.size).bind (toP ty.k.agg)
   | _,_=>none
 | .nilCheck x=>
   match E x with
   |some (.ptr i v o)=>some (.ptr i v o)
   |some (.eptr i v g ix o)=>some (.eptr i v g ix o)
   |some (.rptr cs)=>some (.rptr cs)
   |some (.fn f a b)=>some (.fn f a b)
   |some (.yield i v)=>some (.yield i v)
   | _=>none
 | .binOp op t x y _=>
   match E x,E y with
   |some a,some b=>(Zu6 C op t x y a b).or (Za6 C op t a b)
   | _,_=>none
 | .unOp op _ x=>(E x).bind (unP op)
 | .convert src dst x=>
   match C.T src,C.T dst,E x with
   |some ts,some td,some v=>
    match ts.k,td.k,v with
    | _,.int k,.int _ n=>some (.int k (k.wrap n))
    | _,.str,.str s=>some (.str s)
    | _,_,_=>none
   | _,_,_=>none
 | .makeInterface t x=>
   match C.T t with
   |some ty=>match ty.k with
    | .iface=>none
    | _=>(E x).map fun v=>.iface t v
   |none=>none
 | .makeFunc f first captured=>
   match f,W8 sl first.toList,W8 sl captured.toList with
   | .func g,some a,some b=>some (.fn g a b)
   | _,_,_=>none
 | .slice t x lo hi none=>
   match C.T t,E x with
   |some ty,some v=>
    match Sx sl lo,Sx sl hi with
    |some lo,some hi=>
     match ty.k,v with
     | .str,.str s=>(Xv s.length lo hi).map fun (l,u)=>.str ((s.drop l).take (u - l))
     | .slice e,.nils=>
       match C.T e,Xv 0 lo hi with
       |some _,some _=>some .nils
       | _,_=>none
     | .slice e,.lst g xs=>
       match C.T e,Xv xs.length lo hi with
       |some te,some (l,u)=>if e=g then some (.lst g ((xs.drop l).take (u - l))) else none
       | _,_=>none
     | _,_=>none
    | _,_=>none
   | _,_=>none
 | .fieldAddr s x f=>
   match C.T s,E x with
   |some ty,some a=>
    match ty.k with
    | .struct fs=>match fs[f]? with
      |some (off,u)=>match C.T u with
       |some tu=>if tu.size=0 then none else
        match a with
        | .ptr i v o=>some (.ptr i v (o+off))
        | .eptr i v g ix o=>some (.eptr i v g ix (o+off))
        | .rptr cs=>if off+tu.size<=cs.length then some (.rptr (cs.drop off)) else none
        | _=>none
       |none=>none
      |none=>none
    | _=>none
   | _,_=>none
 | .field t x f=>
   match C.T t,E x with
   |some ty,some (.agg cs)=>
    match ty.k with
    | .struct fs=>match fs[f]? with
      |some (off,u)=>match C.T u with
       |some tu=>(X1 cs off tu.size).bind (toP tu.k.agg)
       |none=>none
      |none=>none
    | _=>none
   | _,_=>none
 | .indexAddr t x ix=>
   match C.T t,E x,E ix with
   |some ty,some v,some (.int _ i)=>
    match ty.k,v with
    | .slice e,.lst g xs=>
      match C.T e with
      |some te=>if e=g/\0<=i/\i < xs.length then (xs[i.toNat]?).map fun x=>.rptr (Zd x) else none
      |none=>none
    | .array n e,.ptr b v o=>
      match C.T e with
      |some te=>if 0<=i/\i < n then some (.ptr b v (o+i.toNat*te.size)) else none
      |none=>none
    | .array n e,.rptr cs=>
      match C.T e with
      |some te=>if 0<=i/\i < n/\i.toNat*te.size+te.size<=cs.length then some (.rptr (cs.drop (i.toNat*te.size))) else none
      |none=>none
    | _,_=>none
   | _,_,_=>none
 | .index t x ix=>
   match C.T t,E x,E ix with
   |some ty,some v,some (.int _ i)=>
    match ty.k,v with
    | .array n e,.agg cs=>
      match C.T e with
      |some te=>if 0<=i/\i < n then (X1 cs (i.toNat*te.size) te.size).bind (toP te.k.agg) else none
      |none=>none
    | .str,.str s=>if 0<=i then (s[i.toNat]?).map fun (b:Nat)=>.int .u8 (b:Int) else none
    | _,_=>none
   | _,_,_=>none
 | .lookup t x ix ok=>
   match C.T t,E x,E ix with
   |some ty,some .nilm,some k=>
    match ty.k with
    | .map kt et=>match C.T kt,C.T et with
      |some kty,some ety=>if Zrp kty.k k then (Q8 ety).map fun z=>if ok then .tuple [z,.bool false] else z else none
      | _,_=>none
    | _=>none
   | _,_,_=>none
 | .extract t ix=>match E t with
   |some (.tuple vs)=>vs[ix]?
   | _=>none
 | .call c=>
   match W8 sl c.args.toList with
   |none=>none
   |some args=>
    match c.callee with
    | .builtin b=>
      match b,args with
      | .len,[x]=>
        match (c.argTypes[0]?).bind C.T with
        |some ty=>match ty.k,x with
         | .str,.str s=>some (.int .i64 s.length)
         | .slice _,.nils=>some (.int .i64 0)
         | .slice _,.lst _ xs=>some (.int .i64 xs.length)
         | .slice _,.own _ _ _ _ n=>some (.int .i64 n)
         | .map _ _,.nilm=>some (.int .i64 0)
         | _,_=>none
        |none=>none
      | .cap,[.nils]=>
        match (c.argTypes[0]?).bind C.T with
        |some ty=>match ty.k with
         | .slice _=>some (.int .i64 0)
         | _=>none
        |none=>none
      | .min,[.int k a,.int _ b]=>some (.int k (if b < a then b else a))
      | .max,[.int k a,.int _ b]=>some (.int k (if b > a then b else a))
      | _,_=>none
    | _=>none
 | _=>none
def Zmz (all:List Oper)(d:Nat):Bool:=
 let isD:Operand->Bool:=fun | .tmp t=>Nat.beq t d | _=>false
 all.any fun o=>match o.op with
  | .call c=>match c.callee with
    | .builtin .append=>match c.args[1]? with | some x=>isD x | none=>false
    | .builtin _=>false
    | _=>c.args.any isD
  | .build _ ps | .buildSlice _ _ ps=>ps.any fun p=>isD p.2
  | .indexAddr _ x _=>isD x
  | _=>false
def Z27 (all:List Oper)(d:Nat):Bool:=
 all.any fun o=>match o.op with
  | .build _ ps | .buildSlice _ _ ps=>ps.any fun p=>match p.2 with | .tmp t=>Nat.beq t d | _=>false
  | _=>false
def Zm1 (all:List Oper)(x:Operand)(d:Nat):Bool:=match x with
 | .const (.slice none _ _)=>Z27 all d
 | _=>false
inductive Mk where
 |lit (v:PV)
 |ptr (o:PO) | slice (g n:Nat) (o:PO) | map
def Mk.val (i Zc:Nat):Mk->PV
 | .lit v=>v
 | .ptr _=>.ptr i Zc 0
 | .slice g n _=>.own i Zc g 0 n
 | .map=>.map i Zc
def Mk.obj:Mk->Option PO
 | .lit _=>none
 | .ptr o=>some o
 | .slice _ _ o=>some o
 | .map=>some (.map [])
def V5 (all:List Oper)(sl:Yt)(o:Oper):Option Mk:=
 match o.op with
 | .alloc t=>match C.T t with
   |some ty=>(Zbf ty.zero).map fun z=>.ptr (.cells z)
   |none=>none
 | .box _ x=>match Yx sl x with
   |some v=>if (Zd v).all Wv then some (.ptr (.cells (Zd v))) else none
   |none=>none
 | .buildSlice t len ps=>
   match C.T t,U1 sl ps.toList with
   |some ty,some vs=>
    match ty.k with
    | .slice e=>match C.T e with
      |some te=>if len*te.size<=2^20/\te.zero.length=te.size then
        match Q8 te with
        |some z=>if (Zd z).length=te.size/\(Zd z).all Wv=true/\plain 4 z=true then
         match Zql te.size (List.replicate len z) vs with
         |some xs=>match o.dst with
          |some d=>if Zmz all d then some (.lit (.lst e xs)) else some (.slice e len (.row e true xs))
          |none=>none
         |none=>none
         else none
        |none=>none
       else none
      |none=>none
    | _=>none
   | _,_=>none
 | .makeSlice t l c=>
   match C.T t,Yx sl l,Yx sl c with
   |some ty,some (.int _ n),some (.int _ m)=>
    match ty.k with
    | .slice e=>match C.T e with
      |some te=>if 0<=n/\n<=m/\m<=maxLenV/\te.bytes<=2^16 then
        match Q8 te with
        |some z=>if (Zd z).length=te.size/\(Zd z).all Wv=true/\plain 4 z=true then some (.slice e n.toNat (.row e true (List.replicate n.toNat z))) else none
        |none=>none
       else none
      |none=>none
    | _=>none
   | _,_,_=>none
 | .makeMap _ none=>some .map
 | _=>none
def Xk (K:Loc)(h:PH)(d:Nat)(g:Nat)(ty:Ty)(n:Nat)(ys:List PV):PV->Option (PV×PH)
 | .nils=>
   if n<=maxLenV/\ty.bytes<=2^16/\0 < ty.size then
    if n=0 then some (.nils,h) else
     let i:=K.base+d
     let Zc:=h.stamp i
     some (.own i Zc g 0 n,h.put i Zc (.row g true ys))
   else none
 | .own i Zc g' off len=>
   if len+n<=maxLenV/\ty.bytes<=2^16/\0 < ty.size/\g'=g/\can K i=true then
    match h.row i Zc g with
    |some (true,xs)=>if off+len<=xs.length then some (.own i (Zc+1) g 0 (len+n),h.put i (Zc+1) (.row g true ((xs.drop off).take len++ys))) else none
    | _=>none
   else none
 | _=>none
def Zkv (h:PH)(g:Nat)(ty:Ty)(ys:List PV):PV->Option (PV×PH)
 | .nils=>if ys.length<=maxLenV/\ty.bytes<=2^16/\0 < ty.size then (if ys.length=0 then some (.nils,h) else some (.lst g ys,h)) else none
 | _=>none
def Ss (x:PV)(off:Nat)(vs:List PV):Option PV:=
 match x with
 | .agg cs=>(Yn cs off vs).map .agg
 | _=>match off,vs with | 0,[v]=>some v | _,_=>none
def Zh (cf:Loc->Nat->List PV->PH->Option (PV×PH))(yf:Loc->Nat->Nat->List PV->PH->Option (PV×PH))(all:List Oper)(K:Loc)(sl:Yt)(h:PH)(o:Oper):Option (PV×PH):=
 let E:=Yx sl
 let undef:PV:=.tuple []
 match o.op with
 | .load t a=>
   match C.T t,E a with
   |some ty,some (.ptr i Zc off)=>
    match h.get i with
    |some (v,.cells cs)=>if v=Zc then ((X1 cs off ty.size).bind (toP ty.k.agg)).map (·,h) else none
    | _=>none
   |some ty,some (.eptr i Zc g ix off)=>
    match h.row i Zc g with
    |some (_,xs)=>match xs[ix]? with
     |some x=>((X1 (Zd x) off ty.size).bind (toP ty.k.agg)).map (·,h)
     |none=>none
    |none=>none
   | _,_=>none
 | .store t a x=>
   match C.T t,E a,E x with
   |some ty,some (.ptr i Zc off),some v=>
    if (Zd v).length=ty.size/\(Zd v).all Wv=true/\can K i=true then
     match h.get i with
     |some (w,.cells cs)=>if w=Zc then (Yn cs off (Zd v)).map fun cs=>(undef,h.put i Zc (.cells cs)) else none
     | _=>none
    else none
   |some ty,some (.eptr i Zc g ix off),some v0=>
    match inlV h v0 with
    |none=>none
    |some v=>
     if (Zd v).length=ty.size/\(Zd v).all Wv=true/\(Zd v).all (plain 3)=true/\can K i=true/\(ownV v0).all (can K)=true then
      match (h.freeze (ownV v0)).row i Zc g with
      |some (true,xs)=>match xs[ix]? with
       |some x=>(Ss x off (Zd v)).map fun x=>(undef,(h.freeze (ownV v0)).put i Zc (.row g true (xs.set ix x)))
       |none=>none
      | _=>none
     else none
   | _,_,_=>none
 | .convert src dst x=>
   match C.T src,C.T dst,E x with
   |some ts,some td,some v=>
    match ts.k,td.k,v with
    | .str,.slice e,.str s=>
      match C.T e,o.dst with
      |some te,some d=>match te.k with
       | .int .u8=>if s.length<=maxLenV/\te.size=1 then some (.own (K.base+d) (h.stamp (K.base+d)) e 0 s.length,h.put (K.base+d) (h.stamp (K.base+d)) (.row e true (s.map fun (b:Nat)=>.int .u8 (b:Int)))) else none
       | _=>none
      | _,_=>none
    | .slice e,.str,v=>
      match C.T e with
      |some te=>match te.k with
       | .int .u8=>if te.size=1 then ((h.elems e v).bind bytesP).map fun b=>(.str b,h) else none
       | _=>none
      |none=>none
    | _,_,_=>none
   | _,_,_=>none
 | .slice t x lo hi none=>
   match C.T t,E x with
   |some ty,some (.own i Zc g off len)=>
    match Sx sl lo,Sx sl hi with
    |some lo,some hi=>
     match ty.k with
     | .slice e=>
       match C.T e,Xv len lo hi,h.row i Zc g with
       |some te,some (l,u),some _=>if e=g then some (.own i Zc g (off+l) (u - l),h) else none
       | _,_,_=>none
     | _=>none
    | _,_=>none
   | _,_=>none
 | .indexAddr t x ix=>
   match C.T t,E x,E ix with
   |some ty,some (.own b Zc g off len),some (.int _ i)=>
    match ty.k with
    | .slice e=>
      match C.T e,h.row b Zc g with
      |some te,some (_,xs)=>if e=g/\0<=i/\i < len/\off+len<=xs.length then some (.eptr b Zc g (off+i.toNat) 0,h) else none
      | _,_=>none
    | _=>none
   | _,_,_=>none
 | .lookup t x ix ok=>
   match C.T t,E x,E ix with
   |some ty,some (.map i Zc),some k=>
    match ty.k with
    | .map kt et=>match C.T kt,C.T et with
      |some kty,some ety=>
       if Zrp kty.k k then
        match h.get i with
        |some (w,.map es)=>
         if w=Zc then
          match Sz es k with
          |some (some v)=>some (if ok then .tuple [v,.bool true] else v,h)
          |some none=>(Q8 ety).map fun z=>(if ok then .tuple [z,.bool false] else z,h)
          |none=>none
         else none
        | _=>none
       else none
      | _,_=>none
    | _=>none
   | _,_,_=>none
 | .mapUpdate t m k x | .insert t m k x=>
   match C.T t,E m,E k,E x with
   |some ty,some (.map i Zc),some kv,some v=>
    match ty.k with
    | .map kt _=>match C.T kt,h.get i with
      |some kty,some (w,.map es)=>if w=Zc/\Zrp kty.k kv=true/\can K i=true then (Rx es kv v).map fun es=>(undef,h.put i Zc (.map es)) else none
      | _,_=>none
    | _=>none
   | _,_,_,_=>none
 | .call c=>
   match W8 sl c.args.toList with
   |none=>none
   |some args=>
    match c.callee with
    | .value f=>
      match E f with
      |some (.fn g first captured)=>cf K g (first++args++captured) h
      |some (.yield l Zc)=>yf K l Zc args h
      | _=>none
    | .invoke _ _=>none
    | .builtin b=>
      match b,args with
      | .len,[.map i Zc]=>
        match (c.argTypes[0]?).bind C.T with
        |some ty=>match ty.k with
         | .map _ _=>match h.get i with | some (w,.map es)=>if w=Zc then some (.int .i64 es.length,h) else none | _=>none
         | _=>none
        |none=>none
      | .append,[s,x]=>
        match (c.argTypes[0]?).bind C.T,(c.argTypes[1]?).bind C.T,o.dst with
        |some ts,some tx,some d=>
         match ts.k with
         | .slice e=>match C.T e with
           |some ty=>
            match tx.k with
            | .int _=>
              match s,x with
              | .nils,.int _ n=>
                if 0<=n/\n<=maxLenV/\ty.bytes<=2^16/\0 < ty.size then
                 if n=0 then some (.nils,h) else
                 match Q8 ty with
                 |some z=>if (Zd z).length=ty.size/\(Zd z).all Wv=true/\plain 4 z=true then some (.own (K.base+d) (h.stamp (K.base+d)) e 0 n.toNat,h.put (K.base+d) (h.stamp (K.base+d)) (.row e true (List.replicate n.toNat z))) else none
                 |none=>none
                else none
              | _,_=>none
            | _=>
              match x with
              | .str b=>if ty.size=1 then Xk K h d e ty b.length (b.map fun (b:Nat)=>.int .u8 (b:Int)) s else none
              | _=>match h.elems e x with
                |some ys=>if ((c.args[0]?).any fun a=>Zm1 all a d)=true then Zkv h e ty ys s else Xk K h d e ty ys.length ys s
                |none=>none
           |none=>none
         | _=>none
        | _,_,_=>none
      | .delete,[.map i Zc,k]=>
        match (c.argTypes[0]?).bind C.T with
        |some ts=>match ts.k with
         | .map kt _=>
           match C.T kt,h.get i with
           |some kty,some (w,.map es)=>if w=Zc/\Zrp kty.k k=true/\can K i=true then (Zcx es k).map fun es=>(.tuple [],h.put i Zc (.map es)) else none
           | _,_=>none
         | _=>none
        |none=>none
      | _,_=>none
 | _=>none
where
 bytesP:List PV->Option (List Nat)
  | []=>some []
  | .int .u8 n::r=>(bytesP r).map fun b=>(n.toNat % 256::b)
  | _=>none
def opP (cf:Loc->Nat->List PV->PH->Option (PV×PH))(yf:Loc->Nat->Nat->List PV->PH->Option (PV×PH))(all:List Oper)(K:Loc)(sl:Yt)(h:PH)(o:Oper):Option (PV×PH):=
 match Yi C sl o with
 |some v=>some (v,h)
 |none=>
  match V5 C all sl o with
  |some m=>match m.obj,o.dst with
   |none,_=>some (m.val 0 0,h)
   |some ob,some d=>some (m.val (K.base+d) (h.stamp (K.base+d)),h.put (K.base+d) (h.stamp (K.base+d)) ob)
   |some _,none=>none
  |none=>Zh C cf yf all K sl h o
def Vy (ops:List Oper)(sl:Yt)(o:Oper):Option Bool:=
 match o.guard with
 |none=>some true
 |some (j,want)=>
  match (ops[j]?).bind (·.dst) with
  |some d=>match sl d with
   |some (.bool b)=>some (b==want)
   |some _=>some false
   |none=>none
  |none=>some false
def putP (sl:Yt)(dst:Option Nat)(v:PV):Yt:=match dst with | some d=>sl.put d v | none=>sl
def Za4 (cf:Loc->Nat->List PV->PH->Option (PV×PH))(yf:Loc->Nat->Nat->List PV->PH->Option (PV×PH))(K:Loc)(all:List Oper):List Oper->Yt->PH->Option (Yt×PH)
 | [],sl,h=>some (sl,h)
 |o::r,sl,h=>
  match Vy all sl o with
  |some true=>match opP C cf yf all K sl h o with
   |some (v,h')=>Za4 cf yf K all r (putP sl o.dst v) h'
   |none=>none
  |some false=>Za4 cf yf K all r (putP sl o.dst (.tuple [])) h
  |none=>none
def U8 (o:Oper):Bool:=
 match o.op with
 | .load _ _ | .slice _ _ _ _ _ | .indexAddr _ _ _ | .lookup _ _ _ _=>false
 | .call c=>match c.callee with | .builtin .len=>false | _=>true
 | _=>true
def W2:Nat->PV->Bool
 |n+1,.agg cs | n+1,.tuple cs=>cs.all (W2 n)
 |n+1,.iface _ v=>W2 n v
 |n+1,.fn _ a c=>a.all (W2 n)&&c.all (W2 n)
 | _+1,.yield _ _=>true
 | _,.agg _ | _,.tuple _ | _,.iface _ _ | _,.fn _ _ _ | _,.yield _ _=>false
 | _,_=>true
def Zsj (ops:Array Oper):Bool:=
 let masks:=Region.before ops
 Sq ops.toList masks&&(List.range ops.size).all fun i=>Nat.blt (masks.getD i 0) (2^i)&&(List.range i).all fun j=>!(masks.getD i 0).testBit j||Nat.beq (masks.getD j 0|||masks.getD i 0) (masks.getD i 0)
def Xy:Nat->PV->Bool
 | _,.bool _ | _,.int _ _ | _,.str _ | _,.nilp | _,.nils | _,.nilm | _,.nilf | _,.nili=>true
 |n+1,.agg cs | n+1,.tuple cs=>cs.all (Xy n)
 |n+1,.iface _ v=>Xy n v
 | _,_=>false
def Rf (sl:Yt)(o:Oper)(v:PV):Bool:=
 match o.op with
 | .call c=>match c.callee with
   | .value f=>match Yx sl f with
     |some (.fn g first captured)=>match W8 sl c.args.toList with
      |some args=>!C.raw g&&((first++args++captured).flatMap ownV).isEmpty&&((first++args++captured).flatMap (refs 3)).isEmpty&&Xy 4 v
      |none=>false
     | _=>false
   | _=>false
 | _=>false
def Qo (sl:Yt)(o:Oper)(v:PV):Bool:=U8 o&&!Rf C sl o v
def X3 (K:Loc)(sl:Yt)(h:PH)(o:Oper):Option (List Nat×Nat):=
 match o.op with
 | .store _ a x=>match Yx sl a,Yx sl x with
   |some (.ptr i _ _),_=>some ([i],h.next)
   |some (.eptr i _ _ _ _),some v=>some (i::ownV v,h.next)
   | _,_=>none
 | .call c=>match c.callee with
   | .builtin .append=>match c.args.toList,o.dst with
     |x::_,some d=>match Yx sl x with
      |some .nils=>some ([],K.base+d)
      |some (.own i _ _ _ _)=>some ([i],K.base+d)
      | _=>none
     | _,_=>none
   | .value f=>match Yx sl f,W8 sl c.args.toList with
     |some (.fn g first captured),some args=>
      if C.raw g then none else match Vi (inlV h) (first++args++captured) with
       |some args'=>some (reach h 4 (args'.flatMap (refs 3))++(first++args++captured).flatMap ownV,h.next)
       |none=>none
     | _,_=>none
   | _=>none
 | _=>none
def Wk (t:Option (List Nat×Nat))(u:Nat):Bool:=match t with
 |some (l,m)=>!(l.any (Nat.beq u))&&Nat.blt u m
 |none=>false
def Zhx (sl:Yt)(o:Oper):Option (Nat×Nat):=
 match o.op with
 | .load _ a=>match Yx sl a with
   |some (.ptr i Zc _)=>some (i,Zc)
   |some (.eptr i Zc _ _ _)=>some (i,Zc)
   | _=>none
 | _=>none
structure PD where
 sl:Yt
 h:PH
 st:List (Nat×Bool)
 made:List Nat
 old:Nat->Option Nat
 rb:List (Nat×Nat)
 wt:List (Nat×Option (List Nat×Nat))
def PD.cur (s:PD)(u:Nat):Bool:=match s.h.get u,s.old u with
 |some (v,_),some w=>Nat.beq v w
 | _,_=>false
def PD.clear (s:PD)(u:Nat):Bool:=s.wt.all (fun (_,t)=>Wk t u)&&(match s.h.get u with | some (_,.cells _)=>true | some (_,.row _ true _)=>true | _=>false)
def Zod (s:PD)(pk:Yt)(o:Oper)(v:PV):Option Nat:=match Zhx pk o with
 |some (u,Zc)=>match s.old u with
  |some w=>if Nat.beq w Zc&&(Xy 4 v||s.clear u)&&W2 3 v then some u else none
  |none=>none
 |none=>none
def Z0p (K:Loc)(masks:Array Nat)(o:Oper)(i:Nat)(s:PD)(pk:Yt)(v:PV)(h':PH):Option PD:=
 match Zod s pk o v with
 |some u=>
  if s.wt.all (fun (j,t)=>(masks.getD i 0).testBit j||Wk t u) then some {s with sl:=putP s.sl o.dst v,h:=h',rb:=(i,u)::s.rb} else none
 |none=>
  if s.st.all (fun (j,w)=>(!w&&!Qo C pk o v)||(masks.getD i 0).testBit j)&&s.made.all (fun j=>(masks.getD i 0).testBit j)
    && (!Qo C pk o v||s.rb.all (fun (c,u)=>(masks.getD i 0).testBit c||(Wk (X3 C K pk s.h o) u&&s.cur u))) then
   some {s with sl:=putP s.sl o.dst v,h:=h',st:=(i,Qo C pk o v)::s.st,wt:=if Qo C pk o v then (i,X3 C K pk s.h o)::s.wt else s.wt}
  else none
def Zc9 (cf:Loc->Nat->List PV->PH->Option (PV×PH))(yf:Loc->Nat->Nat->List PV->PH->Option (PV×PH))(K:Loc)(all:List Oper)(masks:Array Nat)(o:Oper)(i:Nat)(s:PD):Option PD:=
 let looks:=Yc all o
 let pk:Yt:=fun t=>if looks.contains t then s.sl t else none
 match Vy all pk o with
 |none=>none
 |some false=>some {s with sl:=putP s.sl o.dst (.tuple [])}
 |some true=>
  match Yi C pk o with
  |some v=>if W2 3 v then some {s with sl:=putP s.sl o.dst v} else none
  |none=>
   match V5 C all pk o with
   |some m=>match m.obj,o.dst with
    |none,_=>some {s with sl:=putP s.sl o.dst (m.val 0 0)}
    |some ob,some d=>some {s with sl:=s.sl.put d (m.val (K.base+d) (s.h.stamp (K.base+d))),h:=s.h.put (K.base+d) (s.h.stamp (K.base+d)) ob,made:=i::s.made}
    |some _,none=>none
   |none=>
    match Zh C cf yf all K pk s.h o with
    |some (v,h')=>Z0p C K masks o i s pk v h'
    |none=>none
def Qm (cf:Loc->Nat->List PV->PH->Option (PV×PH))(yf:Loc->Nat->Nat->List PV->PH->Option (PV×PH))(K:Loc)(all:List Oper)(masks:Array Nat):List Oper->Nat->PD->Option PD
 | [],_,s=>some s
 |o::r,i,s=>match Zc9 C cf yf K all masks o i s with
  |some s'=>Qm cf yf K all masks r (i+1) s'
  |none=>none
def Zcj (cf:Loc->Nat->List PV->PH->Option (PV×PH))(yf:Loc->Nat->Nat->List PV->PH->Option (PV×PH))(K:Loc)(ops:Array Oper)(sl:Yt)(h:PH):Option (Yt×PH):=
 (Qm C cf yf K ops.toList (Region.before ops) ops.toList 0 {sl,h,st:=[],made:=[],old:=fun u=>(h.get u).map (·.1),rb:=[],wt:=[]}).map fun s=>(s.sl,s.h)
def Ut (sl:Yt)(h:PH):List ResultVar->Option (List PV)
 | []=>some []
 | .tmp t::r=>match sl t,Ut sl h r with | some v,some vs=>some (v::vs) | _,_=>none
 | .cell a t::r=>
   match sl a,C.T t,Ut sl h r with
   |some (.ptr i Zc off),some ty,some vs=>
    match h.get i with
    |some (w,.cells cs)=>if w=Zc then ((X1 cs off ty.size).bind (toP ty.k.agg)).map (·::vs) else none
    | _=>none
   | _,_,_=>none
def Vh:List PV->PV
 | [v]=>v
 |vs=>.tuple vs
def R1 (i:Nat)(args:List PV):Yt:=fun t=>if i<=t then args[t - i]? else none
def Yf (h3:PH):List Nat->PH->PH
 | [],h=>h
 |i::r,h=>match h3.get i with
  |some (Zc,o)=>Yf h3 r (h.put i Zc o)
  |none=>Yf h3 r h
def Zid (h:PH)(a b:Nat):Bool:=(List.range (b - a)).all fun k=>(h.get (a+k)).isNone
def Wq (h h2:PH)(ok ids:List Nat)(v:PV):Option (PV×PH):=
 match inlT h2 v with
 |none=>none
 |some v'=>
  let h3:=h2.freeze (ownT v)
  if (ownT v).all (fun i=>Nat.ble h.next i||ok.any (Nat.beq i)) then
   if below h.next 4 v'&&ok.all (fun i=>h3.belowAt h.next i) then
    let hr:=Yf h3 ok h
    if ids.all (fun i=>!(ok.any (Nat.beq i))&&(match h.get i with
      |some (_,.row g true _)=>Yu g 14 v'&&ok.all (fun j=>match h3.get j with | some (_,o)=>Zgh g o | none=>true)
      |some (_,.row _ false _)=>true
      | _=>false)) then some (v',hr)
    else some (v',Yf h3 ok (h.freeze ids))
   else if !(Xy 5 v')||ok.any (fun i=>!(h3.belowAt h.next i)&&h.belowAt h.next i) then some (v',h3) else none
  else none
def Zit (s:List Nat):ByteArray:=⟨(s.map Nat.toUInt8).toArray⟩
def extP (f:Nat):List PV->Option PV
 | []=>(C.ext f []).bind (Zz 0)
 | [.str s,.int k c]=>if C.raw f then (C.ext f [.string (Zit s),.int k c]).bind (Zz 0) else none
 | _=>none
def callF (ex:Loc->Code->Yt->PH->Option (Ex×Yt×PH))(K:Loc)(f:Nat)(args:List PV)(h:PH):Option (PV×PH):=
 match extP C f args with
 |some v=>some (v,h)
 |none=>
 match C.F f with
 |none=>none
 |some fn=>match fn.body with
  |none=>none
  |some c=>
   if C.raw f then
    match ex {base:=h.next,lo:=K.lo,ok:=K.ok} c (R1 0 args) {h with next:=h.next+fn.ntmps} with
    |some (.normal,Y6,h2) | some (.ret,Y6,h2)=>
     match Ut C Y6 h2 fn.results.toList with
     |none=>none
     |some vs=>
      if h2.next=h.next+fn.ntmps/\Zid h2 h.next h2.next=true then some (Vh vs,{h2 with next:=h.next}) else some (Vh vs,h2)
    | _=>none
   else
    let ids:=args.flatMap ownV
    match Vi (inlV h) args with
    |none=>none
    |some args'=>
     let ok:=reach h 4 (args'.flatMap (refs 3))
     if ok.all (fun i=>can K i&&(h.get i).isSome)&&ids.all (can K) then
      match ex {base:=h.next,lo:=h.next,ok:=ok} c (R1 0 args') {h.freeze ids with next:=h.next+fn.ntmps} with
      |some (.normal,Y6,h2) | some (.ret,Y6,h2)=>
       match Ut C Y6 h2 fn.results.toList with
       |none=>none
       |some vs=>Wq h h2 ok ids (Vh vs)
      | _=>none
     else none
def Zd1:Yt->List (Nat×PV)->Yt
 |s,[]=>s
 |s,(p,v)::r=>Zd1 (s.put p v) r
def yieldF (ex:Loc->Code->Yt->PH->Option (Ex×Yt×PH))(K:Loc)(l Zc:Nat)(args:List PV)(h:PH):Option (PV×PH):=
 match h.get l with
 |some (w,.loop K0 Uc ps assign body)=>
  if w=Zc/\ps.length=args.length/\Nat.ble K.lo K0.lo=true/\K0.ok.all (can K)=true then
   match ex K0 assign (Zd1 Uc (ps.zip args)) (h.put l Zc .gone) with
   |some (.normal,Qr,h1)=>
    match ex K0 body Qr h1 with
    |some (.normal,_,h2)=>
     match h2.get l with
     |some (w2,.gone)=>if w2=Zc then some (.bool true,h2.put l Zc (.loop K0 Uc ps assign body)) else none
     | _=>none
    | _=>none
   | _=>none
  else none
 | _=>none
def Zdc (Uc sl:Yt):Yt:=fun t=>match Uc t with | some _=>sl t | none=>none
def exec:Nat->Loc->Bool->Code->Yt->PH->Option (Ex×Yt×PH)
 | 0,_,_,_,_,_=>none
 |n+1,K,Xs,code,sl,h=>
  let cf:=callF C (fun K'=>exec n K' true)
  let yf:=yieldF (fun K'=>exec n K' false)
  match code with
  | .skip=>some (.normal,sl,h)
  | .region _ ops draw=>(if draw then Zcj C cf yf K ops sl h else Za4 C cf yf K ops.toList ops.toList sl h).map fun (Y6,h')=>(.normal,Y6,h')
  | .seq a b=>
    match exec n K Xs a sl h with
    |some (.normal,Y6,h')=>exec n K Xs b Y6 h'
    |r=>r
  | .cond c a b=>
    match Yx sl c with
    |some (.bool true)=>exec n K Xs a sl h
    |some (.bool false)=>exec n K Xs b sl h
    | _=>none
  | .block id b=>
    match exec n K Xs b sl h with
    |some (.exit id',Y6,h')=>if id'=id then some (.normal,Y6,h') else some (.exit id',Y6,h')
    |r=>r
  | .loop b=>
    match exec n K Xs b sl h with
    |some (.normal,Y6,h')=>exec n K Xs (.loop b) (Zdc sl Y6) h'
    |r=>r
  | .exit id=>some (.exit id,sl,h)
  | .ret=>some (.ret,sl,h)
  | .rangeFunc f ps assign body=>
    if Xs then
     match Yx sl f with
     |some (.fn g first captured)=>
      if C.raw g then
       match cf K g (first++[.yield h.next 0]++captured) {h.put h.next 0 (.loop K sl ps.toList assign body) with next:=h.next+1} with
       |some (_,h')=>match h'.get h.next with
        |some (0,.loop _ _ _ _ _)=>some (.normal,sl,h'.put h.next 0 .gone)
        | _=>none
       |none=>none
      else none
     | _=>none
    else none
  | _=>none
def call (n:Nat)(K:Loc):Nat->List PV->PH->Option (PV×PH):=callF C (fun K'=>exec C n K' true) K
end
theorem X4:∀(ids:List Nat) (h:PH),(h.freeze ids).next=h.next
 | [],h=>rfl
 |i::r,h=>by
  simp only[PH.freeze];split
  .rw [X4 r];rfl
  .exact X4 r h
theorem Xc:∀(ids:List Nat) (h:PH) (j:Nat),(h.freeze ids).get j=(match h.get j with
  |some (Zc,.row g own xs)=>if j∈ids then some (Zc,.row g false xs) else some (Zc,.row g own xs)
  |o=>o)
 | [],h,j=>by
   simp only[PH.freeze,List.not_mem_nil,if_false];split<;>simp_all
 |i::r,h,j=>by
  simp only[PH.freeze];split
  .rename_i Zc g own xs hi;rw[Xc r];by_cases e:j=i
   .subst e;simp only[PH.put,if_true,hi,List.mem_cons,true_or];split<;>rfl
   .simp only [PH.put,e,if_false,List.mem_cons,false_or]
  .rename_i Yp;rw[Xc r];by_cases e:j=i
   .subst e;split
    .rename_i Zc g own xs hj;exact absurd hj (Yp _ _ _ _)
    .rfl
   .simp only [List.mem_cons,e,false_or]
abbrev CF:=Loc->Nat->List PV->PH->Option (PV×PH)
abbrev YF:=Loc->Nat->Nat->List PV->PH->Option (PV×PH)
abbrev EX:=Loc->Code->Yt->PH->Option (Ex×Yt×PH)
def Le4 {α β γ δ ε:Type}(f g:α->β->γ->δ->Option ε):Prop:=∀a b c d r,f a b c d=some r->g a b c d=some r
def Le5 {α β γ δ ε ζ:Type}(f g:α->β->γ->δ->ε->Option ζ):Prop:=∀a b c d e r,f a b c d e=some r->g a b c d e=some r
section
variable {C:Ctx}{cf cf':CF}{yf yf':YF}
theorem Zdw (hc:Le4 cf cf')(hy:Le5 yf yf'){all:List Oper}{K:Loc}{sl:Yt}{h:PH}{o:Oper}{r:PV×PH}(he:Zh C cf yf all K sl h o=some r):Zh C cf' yf' all K sl h o=some r:=by
 cases X6:o.op with
 |slice t x lo hi mx=>cases mx<;>simp only[Zh,X6]at he ⊢<;>exact he
 |call c=>
  simp only[Zh,X6]at he ⊢;split at he
  .cases he
  .rename_i args Xt;cases Ws:c.callee with
   |builtin b=>simp only[Ws]at he ⊢;exact he
   |invoke a b=>simp only[Ws]at he;cases he
   |value f=>
    simp only[Ws]at he ⊢;split at he
    .exact hc _ _ _ _ _ he
    .exact hy _ _ _ _ _ _ he
    .cases he
 | _=>simp only[Zh,X6]at he ⊢<;>exact he
theorem Zuz (hc:Le4 cf cf')(hy:Le5 yf yf'){all:List Oper}{K:Loc}{sl:Yt}{h:PH}{o:Oper}{r:PV×PH}(he:opP C cf yf all K sl h o=some r):opP C cf' yf' all K sl h o=some r:=by
 unfold opP at he ⊢;split at he
 .exact he
 .split at he
  .exact he
  .exact Zdw hc hy he
theorem Zb4 (hc:Le4 cf cf')(hy:Le5 yf yf'){all:List Oper}{K:Loc}:∀ {l:List Oper} {sl:Yt} {h:PH} {r:Yt×PH},Za4 C cf yf K all l sl h=some r->Za4 C cf' yf' K all l sl h=some r
 | [],sl,h,r,he=>he
 |o::l,sl,h,r,he=>by
  simp only[Za4]at he ⊢;split at he
  .split at he
   .rename_i v h1 ho;rw[Zuz hc hy ho];exact Zb4 hc hy he
   .cases he
  .exact Zb4 hc hy he
  .cases he
theorem Zl6 (hc:Le4 cf cf')(hy:Le5 yf yf'){K:Loc}{all:List Oper}{masks:Array Nat}{o:Oper}{i:Nat}{s s':PD}(he:Zc9 C cf yf K all masks o i s=some s'):Zc9 C cf' yf' K all masks o i s=some s':=by
 unfold Zc9 at he ⊢
 try dsimp only at he ⊢
 split at he
 .cases he
 .exact he
 .split at he
  .exact he
  .split at he
   .exact he
   .split at he
    .rename_i v h' Xr;rw[Zdw hc hy Xr];exact he
    .cases he
theorem Zge (hc:Le4 cf cf')(hy:Le5 yf yf'){K:Loc}{all:List Oper}{masks:Array Nat}:∀ {l:List Oper} {i:Nat} {s s':PD},Qm C cf yf K all masks l i s=some s'->Qm C cf' yf' K all masks l i s=some s'
 | [],i,s,s',he=>he
 |o::l,i,s,s',he=>by
  simp only[Qm]at he ⊢;split at he
  .rename_i st1 h1;rw[Zl6 hc hy h1];exact Zge hc hy he
  .cases he
theorem Zn3 (hc:Le4 cf cf')(hy:Le5 yf yf'){K:Loc}{ops:Array Oper}{sl:Yt}{h:PH}{r:Yt×PH}(he:Zcj C cf yf K ops sl h=some r):Zcj C cf' yf' K ops sl h=some r:=by
 unfold Zcj at he ⊢;rw[Option.map_eq_some_iff]at he ⊢;obtain⟨s,hp,e⟩:=he;exact⟨s,Zge hc hy hp,e⟩
theorem Zax {ex ex':EX}(h:Le4 ex ex'):Le4 (callF C ex) (callF C ex'):=by
 intro K f args hp r he;unfold callF at he ⊢;split at he
 .exact he
 split at he
 .cases he
 .split at he
  .cases he
  .split at he
   .rename_i Xb;rw[if_pos Xb];split at he
    .rename_i Y6 h2 hx;rw[h _ _ _ _ _ hx];exact he
    .rename_i Y6 h2 hx;rw[h _ _ _ _ _ hx];exact he
    .cases he
   .rename_i Xb;rw[if_neg Xb]
    try dsimp only at he ⊢
    split at he
    .cases he
    .split at he
     .rename_i hok;rw[if_pos hok];split at he
      .rename_i Y6 h2 hx;rw[h _ _ _ _ _ hx];exact he
      .rename_i Y6 h2 hx;rw[h _ _ _ _ _ hx];exact he
      .cases he
     .cases he
theorem Za9 {ex ex':EX}(h:Le4 ex ex'):Le5 (yieldF ex) (yieldF ex'):=by
 intro K l Zc args hp r he;unfold yieldF at he ⊢;split at he
 .split at he
  .rename_i hl;rw[if_pos hl];split at he
   .rename_i Qr h1 hx;rw[h _ _ _ _ _ hx]
    try dsimp only
    split at he
    .rename_i sl2 h2 hx2;rw[h _ _ _ _ _ hx2];exact he
    .cases he
   .cases he
  .cases he
 .cases he
theorem Z4k:∀(n:Nat) (K:Loc) (Xs:Bool) (code:Code) (sl:Yt) (h:PH) (r),exec C n K Xs code sl h=some r->exec C (n+1) K Xs code sl h=some r:=by
 intro n
 induction n with
 |zero=>intro K Xs code sl h r he;simp only[exec]at he;cases he
 |succ n ih=>
  intro K Xs code sl h r he;have hc:Le4 (callF C (fun K'=>exec C n K' true)) (callF C (fun K'=>exec C (n+1) K' true)):=Zax fun a b c d r h=>ih a true b c d r h
  have hy:Le5 (yieldF (fun K'=>exec C n K' false)) (yieldF (fun K'=>exec C (n+1) K' false)):=Za9 fun a b c d r h=>ih a false b c d r h
  have hi:=ih K Xs;cases code with
  |region id ops draw=>
   rw[exec]at he ⊢
   try dsimp only at he ⊢
   rw[Option.map_eq_some_iff]at he ⊢;obtain⟨x,hx,e⟩:=he;refine⟨x,?_,e⟩;cases draw with
   |true=>simp only[if_true]at hx ⊢;exact Zn3 hc hy hx
   |false=>simp only[Bool.false_eq_true,if_false]at hx ⊢;exact Zb4 hc hy hx
  |seq a b=>
   rw[exec]at he ⊢
   try dsimp only at he ⊢
   split at he
   .rename_i Qr h1 hx;rw[hi _ _ _ _ hx];exact hi _ _ _ _ he
   .rename_i Yp;have:=hi _ _ _ _ he;rw[this];split
    .rename_i Qr h1 hx;exact absurd (he.trans (by rw[<- hx])) (Yp _ _)
    .rfl
  |cond c a b=>
   rw[exec]at he ⊢
   try dsimp only at he ⊢
   split at he
   .exact hi _ _ _ _ he
   .exact hi _ _ _ _ he
   .cases he
  |block id b=>
   rw[exec]at he ⊢
   try dsimp only at he ⊢
   split at he
   .rename_i id' Qr h1 hx;rw[hi _ _ _ _ hx];exact he
   .rename_i Yp;have:=hi _ _ _ _ he;rw[this];split
    .rename_i id' Qr h1 hx;exact absurd (he.trans (by rw[<- hx])) (Yp _ _ _)
    .rfl
  |loop b=>
   rw[exec]at he ⊢
   try dsimp only at he ⊢
   split at he
   .rename_i Qr h1 hx;rw[hi _ _ _ _ hx];exact hi _ _ _ _ he
   .rename_i Yp;have:=hi _ _ _ _ he;rw[this];split
    .rename_i Qr h1 hx;exact absurd (he.trans (by rw[<- hx])) (Yp _ _)
    .rfl
  |rangeFunc f ps as bd=>
   rw[exec]at he ⊢
   try dsimp only at he ⊢
   split at he
   .rename_i hr;rw[if_pos hr];split at he
    .split at he
     .rename_i Xb;rw[if_pos Xb];split at he
      .rename_i u h2 hx;rw[hc _ _ _ _ _ hx];exact he
      .cases he
     .cases he
    .cases he
   .cases he
  | _=>simp only[exec]at he ⊢<;>exact he
theorem Tu {n m:Nat}(h:n<=m){K:Loc}{Xs:Bool}{code:Code}{sl:Yt}{hp:PH}{r}(he:exec C n K Xs code sl hp=some r):exec C m K Xs code sl hp=some r:=by
 induction h with
 |refl=>exact he
 |step _ ih=>exact Z4k _ _ _ _ _ _ _ ih
theorem Zaee {n m:Nat}(h:n<=m){K:Loc}{f:Nat}{args:List PV}{hp:PH}{r}(he:call C n K f args hp=some r):call C m K f args hp=some r:=
 Zax (fun _ _ _ _ _ h'=>Tu h h') _ _ _ _ _ he
end
end Go.Pure
end
