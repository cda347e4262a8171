/- A run over plain values: slices that nobody writes any more are lists; what is written lies in a small heap whose places are the slots of the code. -/
import Derived.Test.YtabcdhcpilpojaaGreatDoorVA
set_option linter.unusedSimpArgs false
set_option linter.unusedVariables false
section
namespace Go.Pure
open Go Go.Virt
inductive PV where
 |bool (b:Bool)
 |int (k:IntKind) (n:Int)
 |str (s:List Nat)
 |nilp | nils | nilm | nilf | nili
 |lst (g:Nat) (xs:List PV)
 |own (i ver g off len:Nat)
 |ptr (i ver off:Nat)
 |eptr (i ver g ix off:Nat)
 |rptr (cs:List PV)
 |map (i ver:Nat)
 |fn (f:Nat) (first captured:List PV)
 |yield (i ver:Nat)
 |iface (t:Nat) (v:PV)
 |agg (cs:List PV)
 |tuple (cs:List PV)
 deriving Inhabited
abbrev Yt:=Nat->Option PV
def Yt.put (sl:Yt)(d:Nat)(v:PV):Yt:=fun t=>if t=d then some v else sl t
structure Loc where
 base:Nat
 lo:Nat
 ok:List Nat
inductive PO where
 |cells (cs:List PV)
 |row (g:Nat) (own:Bool) (xs:List PV)
 |map (es:List (PV×PV))
 |loop (K:Loc) (sl:Yt) (params:List Nat) (assign body:Code)
 |gone
structure PH where
 next:Nat
 get:Nat->Option (Nat×PO)
def PH.put (h:PH)(i ver:Nat)(o:PO):PH:={h with get:=fun j=>if j=i then some (ver,o) else h.get j}
def PH.stamp (h:PH)(i:Nat):Nat:=match h.get i with | some (v,_)=>v+1 | none=>0
def can (K:Loc)(i:Nat):Bool:=Nat.ble K.lo i||K.ok.any (Nat.beq i)
def Zy:Nat->Value->Option PV
 | _,.bool b=>some (.bool b)
 | _,.int k n=>some (.int k n)
 | _,.string s=>some (.str (s.data.toList.map UInt8.toNat))
 | _,.pointer none=>some .nilp
 | _,.slice none 0 0=>some .nils
 | _,.map none=>some .nilm
 | _,.nilFunc=>some .nilf
 | _,.nilIface=>some .nili
 |n+1,.agg cs=>(go n cs.toList).map .agg
 | _,_=>none
where
 go:Nat->List Value->Option (List PV)
  | _,[]=>some []
  |n,v::r=>match Zy n v,go n r with | some p,some ps=>some (p::ps) | _,_=>none
def Zbh (cs:List Value):Option (List PV):=Zy.go 0 cs
def Zc:PV->List PV
 | .agg cs=>cs
 |v=>[v]
def Wx:PV->Bool
 | .agg _ | .tuple _=>false
 | _=>true
def toP (agg:Bool)(cs:List PV):Option PV:=
 if agg then some (.agg cs) else match cs with | [v]=>some v | _=>none
def X3 (cells:List PV)(off n:Nat):Option (List PV):=
 if off+n<=cells.length then some ((cells.drop off).take n) else none
def Yp:List PV->Nat->List PV->Option (List PV)
 |cs,_,[]=>some cs
 | [],_,_::_=>none
 | _::cs,0,v::vs=>(Yp cs 0 vs).map (v::·)
 |c::cs,i+1,vs=>(Yp cs i vs).map (c::·)
def plain:Nat->PV->Bool
 | _,.bool _ | _,.int _ _ | _,.str _ | _,.nilp | _,.nils | _,.nilm | _,.nilf | _,.nili | _,.lst _ _=>true
 |n+1,.agg cs=>cs.all (plain n)
 |n+1,.iface _ v=>plain n v
 | _,_=>false
def PH.row (h:PH)(i ver g:Nat):Option (Bool×List PV):=
 match h.get i with
 |some (v,.row g' own xs)=>if v=ver/\g'=g then some (own,xs) else none
 | _=>none
def PH.elems (h:PH)(g:Nat):PV->Option (List PV)
 | .nils=>some []
 | .lst g' xs=>if g'=g then some xs else none
 | .own i ver g' off len=>
   if g'=g then
    match h.row i ver g with
    |some (_,xs)=>if off+len<=xs.length then some ((xs.drop off).take len) else none
    |none=>none
   else none
 | _=>none
def Z3y:PV->Option Nat
 | .nils=>some 0
 | .lst _ xs=>some xs.length
 | .own _ _ _ _ len=>some len
 | .str s=>some s.length
 | _=>none
def Zc9 (h:PH):PV->Option PV
 | .own i ver g off len=>(h.elems g (.own i ver g off len)).map (.lst g)
 |v=>some v
def W2 {α β:Type}(f:α->Option β):List α->Option (List β)
 | []=>some []
 |x::r=>match f x,W2 f r with | some y,some ys=>some (y::ys) | _,_=>none
def inlV (h:PH):PV->Option PV
 | .agg cs=>(W2 (Zc9 h) cs).map .agg
 |v=>Zc9 h v
def inlT (h:PH):PV->Option PV
 | .tuple cs=>(W2 (inlV h) cs).map .tuple
 |v=>inlV h v
def Zc7:PV->List Nat
 | .own i _ _ _ _=>[i]
 | _=>[]
def ownV:PV->List Nat
 | .agg cs=>cs.flatMap Zc7
 |v=>Zc7 v
def ownT:PV->List Nat
 | .tuple cs=>cs.flatMap ownV
 |v=>ownV v
def PH.freeze (h:PH):List Nat->PH
 | []=>h
 |i::r=>match h.get i with
  |some (ver,.row g _ xs)=>(h.put i ver (.row g false xs)).freeze r
  | _=>h.freeze r
def refs:Nat->PV->List Nat
 | _,.own i _ _ _ _ | _,.ptr i _ _ | _,.eptr i _ _ _ _ | _,.map i _ | _,.yield i _=>[i]
 |n+1,.fn _ a c=>a.flatMap (refs n)++c.flatMap (refs n)
 |n+1,.iface _ v=>refs n v
 |n+1,.agg cs=>cs.flatMap (refs n)
 |n+1,.tuple cs=>cs.flatMap (refs n)
 | _,_=>[]
def below (m:Nat):Nat->PV->Bool
 | _,.own i _ _ _ _ | _,.ptr i _ _ | _,.eptr i _ _ _ _ | _,.map i _ | _,.yield i _=>Nat.blt i m
 |n+1,.fn _ a c=>a.all (below m n)&&c.all (below m n)
 |n+1,.iface _ v=>below m n v
 |n+1,.agg cs=>cs.all (below m n)
 |n+1,.tuple cs=>cs.all (below m n)
 | _,.fn _ _ _ | _,.iface _ _ | _,.agg _ | _,.tuple _=>false
 | _,_=>true
def refsO:PO->List Nat
 | .cells cs=>cs.flatMap (refs 3)
 | .map es=>es.flatMap fun e=>refs 3 e.2
 | _=>[]
def Xr (m:Nat):PO->Bool
 | .cells cs=>cs.all (below m 3)
 | .map es=>es.all fun e=>below m 3 e.1&&below m 3 e.2
 | .row _ _ _ | .gone=>true
 | .loop _ _ _ _ _=>false
def PH.belowAt (h:PH)(m i:Nat):Bool:=match h.get i with | some (_,o)=>Xr m o | none=>true
def reach (h:PH):Nat->List Nat->List Nat
 | 0,l=>l
 | _,[]=>[]
 |n+1,l=>l++reach h n (l.flatMap fun i=>match h.get i with | some (_,o)=>refsO o | none=>[])
def Yo (g:Nat):Nat->PV->Bool
 |n+1,.lst g' xs=>!(Nat.beq g' g)&&xs.all (Yo g n)
 | _,.rptr _=>false
 |n+1,.agg cs=>cs.all (Yo g n)
 |n+1,.tuple cs=>cs.all (Yo g n)
 |n+1,.iface _ v=>Yo g n v
 |n+1,.fn _ a c=>a.all (Yo g n)&&c.all (Yo g n)
 | _,.lst _ _ | _,.agg _ | _,.tuple _ | _,.iface _ _ | _,.fn _ _ _=>false
 | _,_=>true
def Ry (g:Nat):PO->Bool
 | .cells cs=>cs.all (Yo g 12)
 | .map es=>es.all fun e=>Yo g 12 e.1&&Yo g 12 e.2
 | .row g' _ xs=>xs.all (Yo g 12)
 | .gone=>true
 | .loop _ _ _ _ _=>false
def ltL:List Nat->List Nat->Bool
 | _,[]=>false
 | [],_::_=>true
 |a::l,b::m=>bif Nat.blt a b then true else bif Nat.blt b a then false else ltL l m
def Ztb:List PV->List PV->Option Bool
 | [],[]=>some true
 | .int k a::l,.int k' b::m=>if k=k' then (Ztb l m).map fun r=>(a==b)&&r else none
 | .str a::l,.str b::m=>(Ztb l m).map fun r=>(a==b)&&r
 | .bool a::l,.bool b::m=>(Ztb l m).map fun r=>(a==b)&&r
 | _,_=>none
def Zph:PV->Option Bool
 | .nils=>some true
 | .lst _ _ | .own _ _ _ _ _=>some false
 | _=>none
def Zsi:PV->Option Bool
 | .nilp=>some true
 | .ptr _ _ _ | .eptr _ _ _ _ _ | .rptr _=>some false
 | _=>none
def Zy6:PV->Option Bool
 | .nilm=>some true
 | .map _ _=>some false
 | _=>none
def Zri:Option Bool->Option Bool->Option Bool
 |some true,some b=>some b
 |some false,some true=>some false
 | _,_=>none
def eqP (C:Ctx)(t:Nat)(x y:PV):Option Bool:=
 match C.T t with
 |none=>none
 |some ty=>
  match ty.k with
  | .bool=>match x,y with | .bool a,.bool b=>some (a==b) | _,_=>none
  | .slice _=>Zri (Zph x) (Zph y)
  | .ptr _=>Zri (Zsi x) (Zsi y)
  | .map _ _=>Zri (Zy6 x) (Zy6 y)
  | _=>none
def Ri (op:BinOp)(k k':IntKind)(a b:Int):Option PV:=
 match op with
 | .shl=>if b < 0 then none else some (.int k (k.wrap (a*2^min b.toNat k.bits)))
 | .shr=>if b < 0 then none else some (.int k (a.fdiv (2^min b.toNat k.bits)))
 | _=>
   if k=k' then
    match op with
    | .add=>some (.int k (k.wrap (a+b)))
    | .sub=>some (.int k (k.wrap (a - b)))
    | .mul=>some (.int k (k.wrap (a*b)))
    | .quo=>if b=0 then none else some (.int k (k.wrap (a.tdiv b)))
    | .rem=>if b=0 then none else some (.int k (a.tmod b))
    | .and=>some (.int k (k.wrap (BitVec.ofInt k.bits a&&&BitVec.ofInt k.bits b).toNat))
    | .or=>some (.int k (k.wrap (BitVec.ofInt k.bits a|||BitVec.ofInt k.bits b).toNat))
    | .xor=>some (.int k (k.wrap (BitVec.ofInt k.bits a^^^BitVec.ofInt k.bits b).toNat))
    | .eql=>some (.bool (a==b))
    | .neq=>some (.bool (a !=b))
    | .lss=>some (.bool (a < b))
    | .leq=>some (.bool (a<=b))
    | .gtr=>some (.bool (a > b))
    | .geq=>some (.bool (a ≥ b))
    | _=>none
   else none
def Zpd (op:BinOp)(a b:List Nat):Option PV:=
 match op with
 | .add=>if a.length+b.length<=2^62 then some (.str (a++b)) else none
 | .eql=>some (.bool (a==b))
 | .neq=>some (.bool (!(a==b)))
 | .lss=>some (.bool (ltL a b))
 | .gtr=>some (.bool (!(ltL a b||a==b)))
 | _=>none
def Zcx (C:Ctx)(op:BinOp)(t:Nat)(x y:PV):Option PV:=
 match x,y with
 | .int k a,.int k' b=>Ri op k k' a b
 | .str a,.str b=>Zpd op a b
 |x,y=>
  match op with
  | .eql=>(eqP C t x y).map .bool
  | .neq=>(eqP C t x y).map fun b=>.bool (!b)
  | _=>none
def Zvu (C:Ctx)(op:BinOp)(t:Nat)(ox oy:Operand)(x y:PV):Option PV:=
 if Virt.litNil ox||Virt.litNil oy then (match op,x,y with
  | .eql,.nili,.nili=>if Virt.ifaceK C t then some (.bool true) else none
  | .neq,.nili,.nili=>if Virt.ifaceK C t then some (.bool false) else none
  | _,_,_=>none) else none
def unP (op:UnOp)(x:PV):Option PV:=
 match op,x with
 | .neg,.int k n=>some (.int k (k.wrap (0 - n)))
 | .not,.bool b=>some (.bool !b)
 | _,_=>none
def Zsl (k:TK):PV->Bool
 | .int _ _=>match k with | .int _=>true | _=>false
 | .str _=>match k with | .str=>true | _=>false
 | .bool _=>match k with | .bool=>true | _=>false
 | _=>false
def Vp:PV->PV->Option Bool
 | .int k a,.int k' b=>if k=k' then some (a==b) else none
 | .str a,.str b=>some (a==b)
 | .bool a,.bool b=>some (a==b)
 | _,_=>none
def Vb:List (PV×PV)->PV->Option (Option PV)
 | [],_=>some none
 | (k,v)::r,x=>match Vp x k with
   |some true=>some (some v)
   |some false=>Vb r x
   |none=>none
def Ur:List (PV×PV)->PV->PV->Option (List (PV×PV))
 | [],x,u=>some [(x,u)]
 | (k,v)::r,x,u=>match Vp x k with
   |some true=>some ((x,u)::r)
   |some false=>(Ur r x u).map ((k,v)::·)
   |none=>none
def Q6:List (PV×PV)->PV->Option (List (PV×PV))
 | [],_=>some []
 | (k,v)::r,x=>match Vp x k with
   |some true=>some r
   |some false=>(Q6 r x).map ((k,v)::·)
   |none=>none
def Zll:PV->Option Nat
 | .int _ n=>if 0<=n then some n.toNat else none
 | _=>none
def Xw (len:Nat)(lo hi:Option PV):Option (Nat×Nat):=
 match (match hi with | some v=>Zll v | none=>some len),(match lo with | some v=>Zll v | none=>some 0) with
 |some h,some l=>if l<=h/\h<=len then some (l,h) else none
 | _,_=>none
def Zgf (place:Nat->Option (Nat×Nat))(cells:List PV):List (Nat×PV)->Option (List PV)
 | []=>some cells
 | (i,v)::rest=>
   match place i with
   |none=>none
   |some (off,size)=>
    if (Zc v).length=size/\off+size<=cells.length/\(Zc v).all Wx=true then
     match Yp cells off (Zc v) with
     |some Wz=>Zgf place Wz rest
     |none=>none
    else none
def Zrh (size:Nat)(xs:List PV):List (Nat×PV)->Option (List PV)
 | []=>some xs
 | (i,v)::rest=>
   if (Zc v).length=size/\i < xs.length/\(Zc v).all Wx=true/\plain 4 v=true then Zrh size (xs.set i v) rest else none
def Zah (ty:Ty):Option PV:=(Zbh ty.zero).bind (toP ty.k.agg)
section
variable (C:Ctx)
def Yu (sl:Yt):Operand->Option PV
 | .tmp t=>sl t
 | .const v=>Zy 3 v
 | .global _=>none
 | .func f=>some (.fn f [] [])
def W9 (sl:Yt):List Operand->Option (List PV)
 | []=>some []
 |x::r=>match Yu sl x,W9 sl r with | some v,some vs=>some (v::vs) | _,_=>none
def U1 (sl:Yt):List (Nat×Operand)->Option (List (Nat×PV))
 | []=>some []
 | (i,x)::r=>match Yu sl x,U1 sl r with | some v,some vs=>some ((i,v)::vs) | _,_=>none
def S8 (sl:Yt):Option Operand->Option (Option PV)
 |some l=>(Yu sl l).map some
 |none=>some none
def Yk (sl:Yt)(o:Oper):Option PV:=
 let E:=Yu sl
 match o.op with
 | .move x | .assign x=>E x
 | .pick c a b=>
   match E c with
   |some (.bool true)=>E a
   |some (.bool false)=>E b
   | _=>none
 | .build t ps=>
   match C.T t,U1 sl ps.toList with
   |some ty,some vs=>
    match ty.k with
    | .struct fs=>if fs.all (fun f=>(C.T f.2).isSome) then
       (Zbh ty.zero).bind fun z=>(Zgf (fun i=>(fs[i]?).bind fun (off,u)=>(C.T u).map fun tu=>(off,tu.size)) z vs).map .agg else none
    | .array _ e=>match C.T e with
      |some te=>(Zbh ty.zero).bind fun z=>(Zgf (fun i=>some (i*te.size,te.size)) z vs).map .agg
      |none=>none
    | _=>none
   | _,_=>none
 | .load t a=>
   match C.T t,E a with
   |some ty,some (.rptr cs)=>(X3 cs 0 ty.size).bind (toP ty.k.agg)
   | _,_=>none
 | .nilCheck x=>
   match E x with
   |some (.ptr i v o)=>some (.ptr i v o)
   |some (.eptr i v g ix o)=>some (.eptr i v g ix o)
   |some (.rptr cs)=>some (.rptr cs)
   |some (.fn f a b)=>some (.fn f a b)
   |some (.yield i v)=>some (.yield i v)
   | _=>none
 | .binOp op t x y _=>
   match E x,E y with
   |some a,some b=>(Zvu C op t x y a b).or (Zcx C op t a b)
   | _,_=>none
 | .unOp op _ x=>(E x).bind (unP op)
 | .convert src dst x=>
   match C.T src,C.T dst,E x with
   |some ts,some td,some v=>
    match ts.k,td.k,v with
    | _,.int k,.int _ n=>some (.int k (k.wrap n))
    | _,.str,.str s=>some (.str s)
    | _,_,_=>none
   | _,_,_=>none
 | .makeInterface t x=>
   match C.T t with
   |some ty=>match ty.k with
    | .iface=>none
    | _=>(E x).map fun v=>.iface t v
   |none=>none
 | .makeFunc f first captured=>
   match f,W9 sl first.toList,W9 sl captured.toList with
   | .func g,some a,some b=>some (.fn g a b)
   | _,_,_=>none
 | .slice t x lo hi none=>
   match C.T t,E x with
   |some ty,some v=>
    match S8 sl lo,S8 sl hi with
    |some lo,some hi=>
     match ty.k,v with
     | .str,.str s=>(Xw s.length lo hi).map fun (l,u)=>.str ((s.drop l).take (u - l))
     | .slice e,.nils=>
       match C.T e,Xw 0 lo hi with
       |some _,some _=>some .nils
       | _,_=>none
     | .slice e,.lst g xs=>
       match C.T e,Xw xs.length lo hi with
       |some te,some (l,u)=>if e=g then some (.lst g ((xs.drop l).take (u - l))) else none
       | _,_=>none
     | _,_=>none
    | _,_=>none
   | _,_=>none
 | .fieldAddr s x f=>
   match C.T s,E x with
   |some ty,some a=>
    match ty.k with
    | .struct fs=>match fs[f]? with
      |some (off,u)=>match C.T u with
       |some tu=>if tu.size=0 then none else
        match a with
        | .ptr i v o=>some (.ptr i v (o+off))
        | .eptr i v g ix o=>some (.eptr i v g ix (o+off))
        | .rptr cs=>if off+tu.size<=cs.length then some (.rptr (cs.drop off)) else none
        | _=>none
       |none=>none
      |none=>none
    | _=>none
   | _,_=>none
 | .field t x f=>
   match C.T t,E x with
   |some ty,some (.agg cs)=>
    match ty.k with
    | .struct fs=>match fs[f]? with
      |some (off,u)=>match C.T u with
       |some tu=>(X3 cs off tu.size).bind (toP tu.k.agg)
       |none=>none
      |none=>none
    | _=>none
   | _,_=>none
 | .indexAddr t x ix=>
   match C.T t,E x,E ix with
   |some ty,some v,some (.int _ i)=>
    match ty.k,v with
    | .slice e,.lst g xs=>
      match C.T e with
      |some te=>if e=g/\0<=i/\i < xs.length then (xs[i.toNat]?).map fun x=>.rptr (Zc x) else none
      |none=>none
    | .array n e,.ptr b v o=>
      match C.T e with
      |some te=>if 0<=i/\i < n then some (.ptr b v (o+i.toNat*te.size)) else none
      |none=>none
    | .array n e,.rptr cs=>
      match C.T e with
      |some te=>if 0<=i/\i < n/\i.toNat*te.size+te.size<=cs.length then some (.rptr (cs.drop (i.toNat*te.size))) else none
      |none=>none
    | _,_=>none
   | _,_,_=>none
 | .index t x ix=>
   match C.T t,E x,E ix with
   |some ty,some v,some (.int _ i)=>
    match ty.k,v with
    | .array n e,.agg cs=>
      match C.T e with
      |some te=>if 0<=i/\i < n then (X3 cs (i.toNat*te.size) te.size).bind (toP te.k.agg) else none
      |none=>none
    | .str,.str s=>if 0<=i then (s[i.toNat]?).map fun (b:Nat)=>.int .u8 (b:Int) else none
    | _,_=>none
   | _,_,_=>none
 | .lookup t x ix ok=>
   match C.T t,E x,E ix with
   |some ty,some .nilm,some k=>
    match ty.k with
    | .map kt et=>match C.T kt,C.T et with
      |some kty,some ety=>if Zsl kty.k k then (Zah ety).map fun z=>if ok then .tuple [z,.bool false] else z else none
      | _,_=>none
    | _=>none
   | _,_,_=>none
 | .extract t ix=>match E t with
   |some (.tuple vs)=>vs[ix]?
   | _=>none
 | .call c=>
   match W9 sl c.args.toList with
   |none=>none
   |some args=>
    match c.callee with
    | .builtin b=>
      match b,args with
      | .len,[x]=>
        match (c.argTypes[0]?).bind C.T with
        |some ty=>match ty.k,x with
         | .str,.str s=>some (.int .i64 s.length)
         | .slice _,.nils=>some (.int .i64 0)
         | .slice _,.lst _ xs=>some (.int .i64 xs.length)
         | .slice _,.own _ _ _ _ n=>some (.int .i64 n)
         | .map _ _,.nilm=>some (.int .i64 0)
         | _,_=>none
        |none=>none
      | .cap,[.nils]=>
        match (c.argTypes[0]?).bind C.T with
        |some ty=>match ty.k with
         | .slice _=>some (.int .i64 0)
         | _=>none
        |none=>none
      | .min,[.int k a,.int _ b]=>some (.int k (if b < a then b else a))
      | .max,[.int k a,.int _ b]=>some (.int k (if b > a then b else a))
      | _,_=>none
    | _=>none
 | _=>none
def Znj (all:List Oper)(d:Nat):Bool:=
 let isD:Operand->Bool:=fun | .tmp t=>Nat.beq t d | _=>false
 all.any fun o=>match o.op with
  | .call c=>match c.callee with
    | .builtin .append=>match c.args[1]? with | some x=>isD x | none=>false
    | .builtin _=>false
    | _=>c.args.any isD
  | .build _ ps | .buildSlice _ _ ps=>ps.any fun p=>isD p.2
  | .indexAddr _ x _=>isD x
  | _=>false
def Z3w (all:List Oper)(d:Nat):Bool:=
 all.any fun o=>match o.op with
  | .build _ ps=>ps.any fun p=>match p.2 with | .tmp t=>Nat.beq t d | _=>false
  | _=>false
def Znl (all:List Oper)(x:Operand)(d:Nat):Bool:=match x with
 | .const (.slice none _ _)=>Z3w all d
 | _=>false
inductive Mk where
 |lit (v:PV)
 |ptr (o:PO) | slice (g n:Nat) (o:PO) | map
def Mk.val (i ver:Nat):Mk->PV
 | .lit v=>v
 | .ptr _=>.ptr i ver 0
 | .slice g n _=>.own i ver g 0 n
 | .map=>.map i ver
def Mk.obj:Mk->Option PO
 | .lit _=>none
 | .ptr o=>some o
 | .slice _ _ o=>some o
 | .map=>some (.map [])
def V5 (all:List Oper)(sl:Yt)(o:Oper):Option Mk:=
 match o.op with
 | .alloc t=>match C.T t with
   |some ty=>(Zbh ty.zero).map fun z=>.ptr (.cells z)
   |none=>none
 | .box _ x=>match Yu sl x with
   |some v=>if (Zc v).all Wx then some (.ptr (.cells (Zc v))) else none
   |none=>none
 | .buildSlice t len ps=>
   match C.T t,U1 sl ps.toList with
   |some ty,some vs=>
    match ty.k with
    | .slice e=>match C.T e with
      |some te=>if len*te.size<=2^20/\te.zero.length=te.size then
        match Zah te with
        |some z=>if (Zc z).length=te.size/\(Zc z).all Wx=true/\plain 4 z=true then
         match Zrh te.size (List.replicate len z) vs with
         |some xs=>match o.dst with
          |some d=>if Znj all d then some (.lit (.lst e xs)) else some (.slice e len (.row e true xs))
          |none=>none
         |none=>none
         else none
        |none=>none
       else none
      |none=>none
    | _=>none
   | _,_=>none
 | .makeSlice t l c=>
   match C.T t,Yu sl l,Yu sl c with
   |some ty,some (.int _ n),some (.int _ m)=>
    match ty.k with
    | .slice e=>match C.T e with
      |some te=>if 0<=n/\n<=m/\m<=maxLenV/\te.bytes<=2^16 then
        match Zah te with
        |some z=>if (Zc z).length=te.size/\(Zc z).all Wx=true/\plain 4 z=true then some (.slice e n.toNat (.row e true (List.replicate n.toNat z))) else none
        |none=>none
       else none
      |none=>none
    | _=>none
   | _,_,_=>none
 | .makeMap _ none=>some .map
 | _=>none
def Xl (K:Loc)(h:PH)(d:Nat)(g:Nat)(ty:Ty)(n:Nat)(ys:List PV):PV->Option (PV×PH)
 | .nils=>
   if n<=maxLenV/\ty.bytes<=2^16/\0 < ty.size then
    if n=0 then some (.nils,h) else
     let i:=K.base+d
     let ver:=h.stamp i
     some (.own i ver g 0 n,h.put i ver (.row g true ys))
   else none
 | .own i ver g' off len=>
   if len+n<=maxLenV/\ty.bytes<=2^16/\0 < ty.size/\g'=g/\can K i=true then
    match h.row i ver g with
    |some (true,xs)=>if off+len<=xs.length then some (.own i (ver+1) g 0 (len+n),h.put i (ver+1) (.row g true ((xs.drop off).take len++ys))) else none
    | _=>none
   else none
 | _=>none
def Zld (h:PH)(g:Nat)(ty:Ty)(ys:List PV):PV->Option (PV×PH)
 | .nils=>if ys.length<=maxLenV/\ty.bytes<=2^16/\0 < ty.size then (if ys.length=0 then some (.nils,h) else some (.lst g ys,h)) else none
 | _=>none
def S5 (x:PV)(off:Nat)(vs:List PV):Option PV:=
 match x with
 | .agg cs=>(Yp cs off vs).map .agg
 | _=>match off,vs with | 0,[v]=>some v | _,_=>none
def Zf (cf:Loc->Nat->List PV->PH->Option (PV×PH))(yf:Loc->Nat->Nat->List PV->PH->Option (PV×PH))(all:List Oper)(K:Loc)(sl:Yt)(h:PH)(o:Oper):Option (PV×PH):=
 let E:=Yu sl
 let undef:PV:=.tuple []
 match o.op with
 | .load t a=>
   match C.T t,E a with
   |some ty,some (.ptr i ver off)=>
    match h.get i with
    |some (v,.cells cs)=>if v=ver then ((X3 cs off ty.size).bind (toP ty.k.agg)).map (·,h) else none
    | _=>none
   |some ty,some (.eptr i ver g ix off)=>
    match h.row i ver g with
    |some (_,xs)=>match xs[ix]? with
     |some x=>((X3 (Zc x) off ty.size).bind (toP ty.k.agg)).map (·,h)
     |none=>none
    |none=>none
   | _,_=>none
 | .store t a x=>
   match C.T t,E a,E x with
   |some ty,some (.ptr i ver off),some v=>
    if (Zc v).length=ty.size/\(Zc v).all Wx=true/\can K i=true then
     match h.get i with
     |some (w,.cells cs)=>if w=ver then (Yp cs off (Zc v)).map fun cs=>(undef,h.put i ver (.cells cs)) else none
     | _=>none
    else none
   |some ty,some (.eptr i ver g ix off),some v0=>
    match inlV h v0 with
    |none=>none
    |some v=>
     if (Zc v).length=ty.size/\(Zc v).all Wx=true/\(Zc v).all (plain 3)=true/\can K i=true/\(ownV v0).all (can K)=true then
      match (h.freeze (ownV v0)).row i ver g with
      |some (true,xs)=>match xs[ix]? with
       |some x=>(S5 x off (Zc v)).map fun x=>(undef,(h.freeze (ownV v0)).put i ver (.row g true (xs.set ix x)))
       |none=>none
      | _=>none
     else none
   | _,_,_=>none
 | .convert src dst x=>
   match C.T src,C.T dst,E x with
   |some ts,some td,some v=>
    match ts.k,td.k,v with
    | .str,.slice e,.str s=>
      match C.T e,o.dst with
      |some te,some d=>match te.k with
       | .int .u8=>if s.length<=maxLenV/\te.size=1 then some (.own (K.base+d) (h.stamp (K.base+d)) e 0 s.length,h.put (K.base+d) (h.stamp (K.base+d)) (.row e true (s.map fun (b:Nat)=>.int .u8 (b:Int)))) else none
       | _=>none
      | _,_=>none
    | .slice e,.str,v=>
      match C.T e with
      |some te=>match te.k with
       | .int .u8=>if te.size=1 then ((h.elems e v).bind bytesP).map fun b=>(.str b,h) else none
       | _=>none
      |none=>none
    | _,_,_=>none
   | _,_,_=>none
 | .slice t x lo hi none=>
   match C.T t,E x with
   |some ty,some (.own i ver g off len)=>
    match S8 sl lo,S8 sl hi with
    |some lo,some hi=>
     match ty.k with
     | .slice e=>
       match C.T e,Xw len lo hi,h.row i ver g with
       |some te,some (l,u),some _=>if e=g then some (.own i ver g (off+l) (u - l),h) else none
       | _,_,_=>none
     | _=>none
    | _,_=>none
   | _,_=>none
 | .indexAddr t x ix=>
   match C.T t,E x,E ix with
   |some ty,some (.own b ver g off len),some (.int _ i)=>
    match ty.k with
    | .slice e=>
      match C.T e,h.row b ver g with
      |some te,some (_,xs)=>if e=g/\0<=i/\i < len/\off+len<=xs.length then some (.eptr b ver g (off+i.toNat) 0,h) else none
      | _,_=>none
    | _=>none
   | _,_,_=>none
 | .lookup t x ix ok=>
   match C.T t,E x,E ix with
   |some ty,some (.map i ver),some k=>
    match ty.k with
    | .map kt et=>match C.T kt,C.T et with
      |some kty,some ety=>
       if Zsl kty.k k then
        match h.get i with
        |some (w,.map es)=>
         if w=ver then
          match Vb es k with
          |some (some v)=>some (if ok then .tuple [v,.bool true] else v,h)
          |some none=>(Zah ety).map fun z=>(if ok then .tuple [z,.bool false] else z,h)
          |none=>none
         else none
        | _=>none
       else none
      | _,_=>none
    | _=>none
   | _,_,_=>none
 | .mapUpdate t m k x | .insert t m k x=>
   match C.T t,E m,E k,E x with
   |some ty,some (.map i ver),some kv,some v=>
    match ty.k with
    | .map kt _=>match C.T kt,h.get i with
      |some kty,some (w,.map es)=>if w=ver/\Zsl kty.k kv=true/\can K i=true then (Ur es kv v).map fun es=>(undef,h.put i ver (.map es)) else none
      | _,_=>none
    | _=>none
   | _,_,_,_=>none
 | .call c=>
   match W9 sl c.args.toList with
   |none=>none
   |some args=>
    match c.callee with
    | .value f=>
      match E f with
      |some (.fn g first captured)=>cf K g (first++args++captured) h
      |some (.yield l ver)=>yf K l ver args h
      | _=>none
    | .invoke _ _=>none
    | .builtin b=>
      match b,args with
      | .len,[.map i ver]=>
        match (c.argTypes[0]?).bind C.T with
        |some ty=>match ty.k with
         | .map _ _=>match h.get i with | some (w,.map es)=>if w=ver then some (.int .i64 es.length,h) else none | _=>none
         | _=>none
        |none=>none
      | .append,[s,x]=>
        match (c.argTypes[0]?).bind C.T,(c.argTypes[1]?).bind C.T,o.dst with
        |some ts,some tx,some d=>
         match ts.k with
         | .slice e=>match C.T e with
           |some ty=>
            match tx.k with
            | .int _=>
              match s,x with
              | .nils,.int _ n=>
                if 0<=n/\n<=maxLenV/\ty.bytes<=2^16/\0 < ty.size then
                 if n=0 then some (.nils,h) else
                 match Zah ty with
                 |some z=>if (Zc z).length=ty.size/\(Zc z).all Wx=true/\plain 4 z=true then some (.own (K.base+d) (h.stamp (K.base+d)) e 0 n.toNat,h.put (K.base+d) (h.stamp (K.base+d)) (.row e true (List.replicate n.toNat z))) else none
                 |none=>none
                else none
              | _,_=>none
            | _=>
              match x with
              | .str b=>if ty.size=1 then Xl K h d e ty b.length (b.map fun (b:Nat)=>.int .u8 (b:Int)) s else none
              | _=>match h.elems e x with
                |some ys=>if ((c.args[0]?).any fun a=>Znl all a d)=true then Zld h e ty ys s else Xl K h d e ty ys.length ys s
                |none=>none
           |none=>none
         | _=>none
        | _,_,_=>none
      | .delete,[.map i ver,k]=>
        match (c.argTypes[0]?).bind C.T with
        |some ts=>match ts.k with
         | .map kt _=>
           match C.T kt,h.get i with
           |some kty,some (w,.map es)=>if w=ver/\Zsl kty.k k=true/\can K i=true then (Q6 es k).map fun es=>(.tuple [],h.put i ver (.map es)) else none
           | _,_=>none
         | _=>none
        |none=>none
      | _,_=>none
 | _=>none
where
 bytesP:List PV->Option (List Nat)
  | []=>some []
  | .int .u8 n::r=>(bytesP r).map fun b=>(n.toNat % 256::b)
  | _=>none
def opP (cf:Loc->Nat->List PV->PH->Option (PV×PH))(yf:Loc->Nat->Nat->List PV->PH->Option (PV×PH))(all:List Oper)(K:Loc)(sl:Yt)(h:PH)(o:Oper):Option (PV×PH):=
 match Yk C sl o with
 |some v=>some (v,h)
 |none=>
  match V5 C all sl o with
  |some m=>match m.obj,o.dst with
   |none,_=>some (m.val 0 0,h)
   |some ob,some d=>some (m.val (K.base+d) (h.stamp (K.base+d)),h.put (K.base+d) (h.stamp (K.base+d)) ob)
   |some _,none=>none
  |none=>Zf C cf yf all K sl h o
def Vx (ops:List Oper)(sl:Yt)(o:Oper):Option Bool:=
 match o.guard with
 |none=>some true
 |some (j,want)=>
  match (ops[j]?).bind (·.dst) with
  |some d=>match sl d with
   |some (.bool b)=>some (b==want)
   |some _=>some false
   |none=>none
  |none=>some false
def putP (sl:Yt)(dst:Option Nat)(v:PV):Yt:=match dst with | some d=>sl.put d v | none=>sl
def Za7 (cf:Loc->Nat->List PV->PH->Option (PV×PH))(yf:Loc->Nat->Nat->List PV->PH->Option (PV×PH))(K:Loc)(all:List Oper):List Oper->Yt->PH->Option (Yt×PH)
 | [],sl,h=>some (sl,h)
 |o::r,sl,h=>
  match Vx all sl o with
  |some true=>match opP C cf yf all K sl h o with
   |some (v,h')=>Za7 cf yf K all r (putP sl o.dst v) h'
   |none=>none
  |some false=>Za7 cf yf K all r (putP sl o.dst (.tuple [])) h
  |none=>none
def Tb (o:Oper):Bool:=
 match o.op with
 | .load _ _ | .slice _ _ _ _ _ | .indexAddr _ _ _ | .lookup _ _ _ _=>false
 | .call c=>match c.callee with | .builtin .len=>false | _=>true
 | _=>true
def W5:Nat->PV->Bool
 |n+1,.agg cs | n+1,.tuple cs=>cs.all (W5 n)
 |n+1,.iface _ v=>W5 n v
 |n+1,.fn _ a c=>a.all (W5 n)&&c.all (W5 n)
 | _+1,.yield _ _=>true
 | _,.agg _ | _,.tuple _ | _,.iface _ _ | _,.fn _ _ _ | _,.yield _ _=>false
 | _,_=>true
def Zte (ops:Array Oper):Bool:=
 let masks:=Region.before ops
 Sz ops.toList masks&&(List.range ops.size).all fun i=>Nat.blt (masks.getD i 0) (2^i)&&(List.range i).all fun j=>!(masks.getD i 0).testBit j||Nat.beq (masks.getD j 0|||masks.getD i 0) (masks.getD i 0)
def Xz:Nat->PV->Bool
 | _,.bool _ | _,.int _ _ | _,.str _ | _,.nilp | _,.nils | _,.nilm | _,.nilf | _,.nili=>true
 |n+1,.agg cs | n+1,.tuple cs=>cs.all (Xz n)
 |n+1,.iface _ v=>Xz n v
 | _,_=>false
def Rq (sl:Yt)(o:Oper)(v:PV):Bool:=
 match o.op with
 | .call c=>match c.callee with
   | .value f=>match Yu sl f with
     |some (.fn g first captured)=>match W9 sl c.args.toList with
      |some args=>!C.raw g&&((first++args++captured).flatMap ownV).isEmpty&&((first++args++captured).flatMap (refs 3)).isEmpty&&Xz 4 v
      |none=>false
     | _=>false
   | _=>false
 | _=>false
def Qw (sl:Yt)(o:Oper)(v:PV):Bool:=Tb o&&!Rq C sl o v
def X5 (K:Loc)(sl:Yt)(h:PH)(o:Oper):Option (List Nat×Nat):=
 match o.op with
 | .store _ a x=>match Yu sl a,Yu sl x with
   |some (.ptr i _ _),_=>some ([i],h.next)
   |some (.eptr i _ _ _ _),some v=>some (i::ownV v,h.next)
   | _,_=>none
 | .call c=>match c.callee with
   | .builtin .append=>match c.args.toList,o.dst with
     |x::_,some d=>match Yu sl x with
      |some .nils=>some ([],K.base+d)
      |some (.own i _ _ _ _)=>some ([i],K.base+d)
      | _=>none
     | _,_=>none
   | .value f=>match Yu sl f,W9 sl c.args.toList with
     |some (.fn g first captured),some args=>
      if C.raw g then none else match W2 (inlV h) (first++args++captured) with
       |some args'=>some (reach h 4 (args'.flatMap (refs 3))++(first++args++captured).flatMap ownV,h.next)
       |none=>none
     | _,_=>none
   | _=>none
 | _=>none
def Wk (t:Option (List Nat×Nat))(u:Nat):Bool:=match t with
 |some (l,m)=>!(l.any (Nat.beq u))&&Nat.blt u m
 |none=>false
def Zid (sl:Yt)(o:Oper):Option (Nat×Nat):=
 match o.op with
 | .load _ a=>match Yu sl a with
   |some (.ptr i ver _)=>some (i,ver)
   |some (.eptr i ver _ _ _)=>some (i,ver)
   | _=>none
 | _=>none
structure PD where
 sl:Yt
 h:PH
 st:List (Nat×Bool)
 made:List Nat
 old:Nat->Option Nat
 rb:List (Nat×Nat)
 wt:List (Nat×Option (List Nat×Nat))
def PD.cur (s:PD)(u:Nat):Bool:=match s.h.get u,s.old u with
 |some (v,_),some w=>Nat.beq v w
 | _,_=>false
def PD.clear (s:PD)(u:Nat):Bool:=s.wt.all (fun (_,t)=>Wk t u)&&(match s.h.get u with | some (_,.cells _)=>true | some (_,.row _ true _)=>true | _=>false)
def Zot (s:PD)(pk:Yt)(o:Oper)(v:PV):Option Nat:=match Zid pk o with
 |some (u,ver)=>match s.old u with
  |some w=>if Nat.beq w ver&&(Xz 4 v||s.clear u)&&W5 3 v then some u else none
  |none=>none
 |none=>none
def Z1f (K:Loc)(masks:Array Nat)(o:Oper)(i:Nat)(s:PD)(pk:Yt)(v:PV)(h':PH):Option PD:=
 match Zot s pk o v with
 |some u=>
  if s.wt.all (fun (j,t)=>(masks.getD i 0).testBit j||Wk t u) then some {s with sl:=putP s.sl o.dst v,h:=h',rb:=(i,u)::s.rb} else none
 |none=>
  if s.st.all (fun (j,w)=>(!w&&!Qw C pk o v)||(masks.getD i 0).testBit j)&&s.made.all (fun j=>(masks.getD i 0).testBit j)
    && (!Qw C pk o v||s.rb.all (fun (c,u)=>(masks.getD i 0).testBit c||(Wk (X5 C K pk s.h o) u&&s.cur u))) then
   some {s with sl:=putP s.sl o.dst v,h:=h',st:=(i,Qw C pk o v)::s.st,wt:=if Qw C pk o v then (i,X5 C K pk s.h o)::s.wt else s.wt}
  else none
def Zdl (cf:Loc->Nat->List PV->PH->Option (PV×PH))(yf:Loc->Nat->Nat->List PV->PH->Option (PV×PH))(K:Loc)(all:List Oper)(masks:Array Nat)(o:Oper)(i:Nat)(s:PD):Option PD:=
 let looks:=Yc all o
 let pk:Yt:=fun t=>if looks.contains t then s.sl t else none
 match Vx all pk o with
 |none=>none
 |some false=>some {s with sl:=putP s.sl o.dst (.tuple [])}
 |some true=>
  match Yk C pk o with
  |some v=>if W5 3 v then some {s with sl:=putP s.sl o.dst v} else none
  |none=>
   match V5 C all pk o with
   |some m=>match m.obj,o.dst with
    |none,_=>some {s with sl:=putP s.sl o.dst (m.val 0 0)}
    |some ob,some d=>some {s with sl:=s.sl.put d (m.val (K.base+d) (s.h.stamp (K.base+d))),h:=s.h.put (K.base+d) (s.h.stamp (K.base+d)) ob,made:=i::s.made}
    |some _,none=>none
   |none=>
    match Zf C cf yf all K pk s.h o with
    |some (v,h')=>Z1f C K masks o i s pk v h'
    |none=>none
def Qt (cf:Loc->Nat->List PV->PH->Option (PV×PH))(yf:Loc->Nat->Nat->List PV->PH->Option (PV×PH))(K:Loc)(all:List Oper)(masks:Array Nat):List Oper->Nat->PD->Option PD
 | [],_,s=>some s
 |o::r,i,s=>match Zdl C cf yf K all masks o i s with
  |some s'=>Qt cf yf K all masks r (i+1) s'
  |none=>none
def Zct (cf:Loc->Nat->List PV->PH->Option (PV×PH))(yf:Loc->Nat->Nat->List PV->PH->Option (PV×PH))(K:Loc)(ops:Array Oper)(sl:Yt)(h:PH):Option (Yt×PH):=
 (Qt C cf yf K ops.toList (Region.before ops) ops.toList 0 {sl,h,st:=[],made:=[],old:=fun u=>(h.get u).map (·.1),rb:=[],wt:=[]}).map fun s=>(s.sl,s.h)
def Uz (sl:Yt)(h:PH):List ResultVar->Option (List PV)
 | []=>some []
 | .tmp t::r=>match sl t,Uz sl h r with | some v,some vs=>some (v::vs) | _,_=>none
 | .cell a t::r=>
   match sl a,C.T t,Uz sl h r with
   |some (.ptr i ver off),some ty,some vs=>
    match h.get i with
    |some (w,.cells cs)=>if w=ver then ((X3 cs off ty.size).bind (toP ty.k.agg)).map (·::vs) else none
    | _=>none
   | _,_,_=>none
def Vq:List PV->PV
 | [v]=>v
 |vs=>.tuple vs
def Qn (i:Nat)(args:List PV):Yt:=fun t=>if i<=t then args[t - i]? else none
def Yd (h3:PH):List Nat->PH->PH
 | [],h=>h
 |i::r,h=>match h3.get i with
  |some (ver,o)=>Yd h3 r (h.put i ver o)
  |none=>Yd h3 r h
def Zfl (h:PH)(a b:Nat):Bool:=(List.range (b - a)).all fun k=>(h.get (a+k)).isNone
def Wo (h h2:PH)(ok ids:List Nat)(v:PV):Option (PV×PH):=
 match inlT h2 v with
 |none=>none
 |some v'=>
  let h3:=h2.freeze (ownT v)
  if (ownT v).all (fun i=>Nat.ble h.next i||ok.any (Nat.beq i)) then
   if below h.next 4 v'&&ok.all (fun i=>h3.belowAt h.next i) then
    let hr:=Yd h3 ok h
    if ids.all (fun i=>!(ok.any (Nat.beq i))&&(match h.get i with
      |some (_,.row g true _)=>Yo g 14 v'&&ok.all (fun j=>match h3.get j with | some (_,o)=>Ry g o | none=>true)
      |some (_,.row _ false _)=>true
      | _=>false)) then some (v',hr)
    else some (v',Yd h3 ok (h.freeze ids))
   else if !(Xz 5 v')||ok.any (fun i=>!(h3.belowAt h.next i)&&h.belowAt h.next i) then some (v',h3) else none
  else none
def Zja (s:List Nat):ByteArray:=⟨(s.map Nat.toUInt8).toArray⟩
def extP (f:Nat):List PV->Option PV
 | []=>(C.ext f []).bind (Zy 0)
 | [.str s,.int k c]=>if C.raw f then (C.ext f [.string (Zja s),.int k c]).bind (Zy 0) else none
 | _=>none
def callF (ex:Loc->Code->Yt->PH->Option (Ex×Yt×PH))(K:Loc)(f:Nat)(args:List PV)(h:PH):Option (PV×PH):=
 match extP C f args with
 |some v=>some (v,h)
 |none=>
 match C.F f with
 |none=>none
 |some fn=>match fn.body with
  |none=>none
  |some c=>
   if C.raw f then
    match ex {base:=h.next,lo:=K.lo,ok:=K.ok} c (Qn 0 args) {h with next:=h.next+fn.ntmps} with
    |some (.normal,Yv,h2) | some (.ret,Yv,h2)=>
     match Uz C Yv h2 fn.results.toList with
     |none=>none
     |some vs=>
      if h2.next=h.next+fn.ntmps/\Zfl h2 h.next h2.next=true then some (Vq vs,{h2 with next:=h.next}) else some (Vq vs,h2)
    | _=>none
   else
    let ids:=args.flatMap ownV
    match W2 (inlV h) args with
    |none=>none
    |some args'=>
     let ok:=reach h 4 (args'.flatMap (refs 3))
     if ok.all (fun i=>can K i&&(h.get i).isSome)&&ids.all (can K) then
      match ex {base:=h.next,lo:=h.next,ok:=ok} c (Qn 0 args') {h.freeze ids with next:=h.next+fn.ntmps} with
      |some (.normal,Yv,h2) | some (.ret,Yv,h2)=>
       match Uz C Yv h2 fn.results.toList with
       |none=>none
       |some vs=>Wo h h2 ok ids (Vq vs)
      | _=>none
     else none
def Zeb:Yt->List (Nat×PV)->Yt
 |s,[]=>s
 |s,(p,v)::r=>Zeb (s.put p v) r
def yieldF (ex:Loc->Code->Yt->PH->Option (Ex×Yt×PH))(K:Loc)(l ver:Nat)(args:List PV)(h:PH):Option (PV×PH):=
 match h.get l with
 |some (w,.loop K0 Uc ps assign body)=>
  if w=ver/\ps.length=args.length/\Nat.ble K.lo K0.lo=true/\K0.ok.all (can K)=true then
   match ex K0 assign (Zeb Uc (ps.zip args)) (h.put l ver .gone) with
   |some (.normal,Qz,h1)=>
    match ex K0 body Qz h1 with
    |some (.normal,_,h2)=>
     match h2.get l with
     |some (w2,.gone)=>if w2=ver then some (.bool true,h2.put l ver (.loop K0 Uc ps assign body)) else none
     | _=>none
    | _=>none
   | _=>none
  else none
 | _=>none
def Zdp (Uc sl:Yt):Yt:=fun t=>match Uc t with | some _=>sl t | none=>none
def exec:Nat->Loc->Bool->Code->Yt->PH->Option (Ex×Yt×PH)
 | 0,_,_,_,_,_=>none
 |n+1,K,Xt,code,sl,h=>
  let cf:=callF C (fun K'=>exec n K' true)
  let yf:=yieldF (fun K'=>exec n K' false)
  match code with
  | .skip=>some (.normal,sl,h)
  | .region _ ops draw=>(if draw then Zct C cf yf K ops sl h else Za7 C cf yf K ops.toList ops.toList sl h).map fun (Yv,h')=>(.normal,Yv,h')
  | .seq a b=>
    match exec n K Xt a sl h with
    |some (.normal,Yv,h')=>exec n K Xt b Yv h'
    |r=>r
  | .cond c a b=>
    match Yu sl c with
    |some (.bool true)=>exec n K Xt a sl h
    |some (.bool false)=>exec n K Xt b sl h
    | _=>none
  | .block id b=>
    match exec n K Xt b sl h with
    |some (.exit id',Yv,h')=>if id'=id then some (.normal,Yv,h') else some (.exit id',Yv,h')
    |r=>r
  | .loop b=>
    match exec n K Xt b sl h with
    |some (.normal,Yv,h')=>exec n K Xt (.loop b) (Zdp sl Yv) h'
    |r=>r
  | .exit id=>some (.exit id,sl,h)
  | .ret=>some (.ret,sl,h)
  | .rangeFunc f ps assign body=>
    if Xt then
     match Yu sl f with
     |some (.fn g first captured)=>
      if C.raw g then
       match cf K g (first++[.yield h.next 0]++captured) {h.put h.next 0 (.loop K sl ps.toList assign body) with next:=h.next+1} with
       |some (_,h')=>match h'.get h.next with
        |some (0,.loop _ _ _ _ _)=>some (.normal,sl,h'.put h.next 0 .gone)
        | _=>none
       |none=>none
      else none
     | _=>none
    else none
  | _=>none
def call (n:Nat)(K:Loc):Nat->List PV->PH->Option (PV×PH):=callF C (fun K'=>exec C n K' true) K
end
theorem Xm:∀(ids:List Nat) (h:PH),(h.freeze ids).next=h.next
 | [],h=>rfl
 |i::r,h=>by
  simp only[PH.freeze];split
  .rw [Xm r];rfl
  .exact Xm r h
theorem Y7:∀(ids:List Nat) (h:PH) (j:Nat),(h.freeze ids).get j=(match h.get j with
  |some (ver,.row g own xs)=>if j∈ids then some (ver,.row g false xs) else some (ver,.row g own xs)
  |o=>o)
 | [],h,j=>by
   simp only[PH.freeze,List.not_mem_nil,if_false];split<;>simp_all
 |i::r,h,j=>by
  simp only[PH.freeze];split
  .rename_i ver g own xs hi;rw[Y7 r];by_cases e:j=i
   .subst e;simp only[PH.put,if_true,hi,List.mem_cons,true_or];split<;>rfl
   .simp only [PH.put,e,if_false,List.mem_cons,false_or]
  .rename_i Yn;rw[Y7 r];by_cases e:j=i
   .subst e;split
    .rename_i ver g own xs hj;exact absurd hj (Yn _ _ _ _)
    .rfl
   .simp only [List.mem_cons,e,false_or]
abbrev CF:=Loc->Nat->List PV->PH->Option (PV×PH)
abbrev YF:=Loc->Nat->Nat->List PV->PH->Option (PV×PH)
abbrev EX:=Loc->Code->Yt->PH->Option (Ex×Yt×PH)
def Le4 {α β γ δ ε:Type}(f g:α->β->γ->δ->Option ε):Prop:=∀a b c d r,f a b c d=some r->g a b c d=some r
def Le5 {α β γ δ ε ζ:Type}(f g:α->β->γ->δ->ε->Option ζ):Prop:=∀a b c d e r,f a b c d e=some r->g a b c d e=some r
section
variable {C:Ctx}{cf cf':CF}{yf yf':YF}
theorem Zd5 (hc:Le4 cf cf')(hy:Le5 yf yf'){all:List Oper}{K:Loc}{sl:Yt}{h:PH}{o:Oper}{r:PV×PH}(he:Zf C cf yf all K sl h o=some r):Zf C cf' yf' all K sl h o=some r:=by
 cases Xy:o.op with
 |slice t x lo hi mx=>cases mx<;>simp only[Zf,Xy]at he ⊢<;>exact he
 |call c=>
  simp only[Zf,Xy]at he ⊢;split at he
  .cases he
  .rename_i args Xu;cases Wt:c.callee with
   |builtin b=>simp only[Wt]at he ⊢;exact he
   |invoke a b=>simp only[Wt]at he;cases he
   |value f=>
    simp only[Wt]at he ⊢;split at he
    .exact hc _ _ _ _ _ he
    .exact hy _ _ _ _ _ _ he
    .cases he
 | _=>simp only[Zf,Xy]at he ⊢<;>exact he
theorem Zvn (hc:Le4 cf cf')(hy:Le5 yf yf'){all:List Oper}{K:Loc}{sl:Yt}{h:PH}{o:Oper}{r:PV×PH}(he:opP C cf yf all K sl h o=some r):opP C cf' yf' all K sl h o=some r:=by
 unfold opP at he ⊢;split at he
 .exact he
 .split at he
  .exact he
  .exact Zd5 hc hy he
theorem Zcb (hc:Le4 cf cf')(hy:Le5 yf yf'){all:List Oper}{K:Loc}:∀ {l:List Oper} {sl:Yt} {h:PH} {r:Yt×PH},Za7 C cf yf K all l sl h=some r->Za7 C cf' yf' K all l sl h=some r
 | [],sl,h,r,he=>he
 |o::l,sl,h,r,he=>by
  simp only[Za7]at he ⊢;split at he
  .split at he
   .rename_i v h1 ho;rw[Zvn hc hy ho];exact Zcb hc hy he
   .cases he
  .exact Zcb hc hy he
  .cases he
theorem Zms (hc:Le4 cf cf')(hy:Le5 yf yf'){K:Loc}{all:List Oper}{masks:Array Nat}{o:Oper}{i:Nat}{s s':PD}(he:Zdl C cf yf K all masks o i s=some s'):Zdl C cf' yf' K all masks o i s=some s':=by
 unfold Zdl at he ⊢
 try dsimp only at he ⊢
 split at he
 .cases he
 .exact he
 .split at he
  .exact he
  .split at he
   .exact he
   .split at he
    .rename_i v h' Xj;rw[Zd5 hc hy Xj];exact he
    .cases he
theorem Zgu (hc:Le4 cf cf')(hy:Le5 yf yf'){K:Loc}{all:List Oper}{masks:Array Nat}:∀ {l:List Oper} {i:Nat} {s s':PD},Qt C cf yf K all masks l i s=some s'->Qt C cf' yf' K all masks l i s=some s'
 | [],i,s,s',he=>he
 |o::l,i,s,s',he=>by
  simp only[Qt]at he ⊢;split at he
  .rename_i st1 h1;rw[Zms hc hy h1];exact Zgu hc hy he
  .cases he
theorem Zoi (hc:Le4 cf cf')(hy:Le5 yf yf'){K:Loc}{ops:Array Oper}{sl:Yt}{h:PH}{r:Yt×PH}(he:Zct C cf yf K ops sl h=some r):Zct C cf' yf' K ops sl h=some r:=by
 unfold Zct at he ⊢;rw[Option.map_eq_some_iff]at he ⊢;obtain⟨s,hp,e⟩:=he;exact⟨s,Zgu hc hy hp,e⟩
theorem Za2 {ex ex':EX}(h:Le4 ex ex'):Le4 (callF C ex) (callF C ex'):=by
 intro K f args hp r he;unfold callF at he ⊢;split at he
 .exact he
 split at he
 .cases he
 .split at he
  .cases he
  .split at he
   .rename_i Y4;rw[if_pos Y4];split at he
    .rename_i Yv h2 hx;rw[h _ _ _ _ _ hx];exact he
    .rename_i Yv h2 hx;rw[h _ _ _ _ _ hx];exact he
    .cases he
   .rename_i Y4;rw[if_neg Y4]
    try dsimp only at he ⊢
    split at he
    .cases he
    .split at he
     .rename_i hok;rw[if_pos hok];split at he
      .rename_i Yv h2 hx;rw[h _ _ _ _ _ hx];exact he
      .rename_i Yv h2 hx;rw[h _ _ _ _ _ hx];exact he
      .cases he
     .cases he
theorem Zbb {ex ex':EX}(h:Le4 ex ex'):Le5 (yieldF ex) (yieldF ex'):=by
 intro K l ver args hp r he;unfold yieldF at he ⊢;split at he
 .split at he
  .rename_i hl;rw[if_pos hl];split at he
   .rename_i Qz h1 hx;rw[h _ _ _ _ _ hx]
    try dsimp only
    split at he
    .rename_i sl2 h2 hx2;rw[h _ _ _ _ _ hx2];exact he
    .cases he
   .cases he
  .cases he
 .cases he
theorem Z47:∀(n:Nat) (K:Loc) (Xt:Bool) (code:Code) (sl:Yt) (h:PH) (r),exec C n K Xt code sl h=some r->exec C (n+1) K Xt code sl h=some r:=by
 intro n
 induction n with
 |zero=>intro K Xt code sl h r he;simp only[exec]at he;cases he
 |succ n ih=>
  intro K Xt code sl h r he;have hc:Le4 (callF C (fun K'=>exec C n K' true)) (callF C (fun K'=>exec C (n+1) K' true)):=Za2 fun a b c d r h=>ih a true b c d r h
  have hy:Le5 (yieldF (fun K'=>exec C n K' false)) (yieldF (fun K'=>exec C (n+1) K' false)):=Zbb fun a b c d r h=>ih a false b c d r h
  have hi:=ih K Xt;cases code with
  |region id ops draw=>
   rw[exec]at he ⊢
   try dsimp only at he ⊢
   rw[Option.map_eq_some_iff]at he ⊢;obtain⟨x,hx,e⟩:=he;refine⟨x,?_,e⟩;cases draw with
   |true=>simp only[if_true]at hx ⊢;exact Zoi hc hy hx
   |false=>simp only[Bool.false_eq_true,if_false]at hx ⊢;exact Zcb hc hy hx
  |seq a b=>
   rw[exec]at he ⊢
   try dsimp only at he ⊢
   split at he
   .rename_i Qz h1 hx;rw[hi _ _ _ _ hx];exact hi _ _ _ _ he
   .rename_i Yn;have:=hi _ _ _ _ he;rw[this];split
    .rename_i Qz h1 hx;exact absurd (he.trans (by rw[<- hx])) (Yn _ _)
    .rfl
  |cond c a b=>
   rw[exec]at he ⊢
   try dsimp only at he ⊢
   split at he
   .exact hi _ _ _ _ he
   .exact hi _ _ _ _ he
   .cases he
  |block id b=>
   rw[exec]at he ⊢
   try dsimp only at he ⊢
   split at he
   .rename_i id' Qz h1 hx;rw[hi _ _ _ _ hx];exact he
   .rename_i Yn;have:=hi _ _ _ _ he;rw[this];split
    .rename_i id' Qz h1 hx;exact absurd (he.trans (by rw[<- hx])) (Yn _ _ _)
    .rfl
  |loop b=>
   rw[exec]at he ⊢
   try dsimp only at he ⊢
   split at he
   .rename_i Qz h1 hx;rw[hi _ _ _ _ hx];exact hi _ _ _ _ he
   .rename_i Yn;have:=hi _ _ _ _ he;rw[this];split
    .rename_i Qz h1 hx;exact absurd (he.trans (by rw[<- hx])) (Yn _ _)
    .rfl
  |rangeFunc f ps as bd=>
   rw[exec]at he ⊢
   try dsimp only at he ⊢
   split at he
   .rename_i hr;rw[if_pos hr];split at he
    .split at he
     .rename_i Y4;rw[if_pos Y4];split at he
      .rename_i u h2 hx;rw[hc _ _ _ _ _ hx];exact he
      .cases he
     .cases he
    .cases he
   .cases he
  | _=>simp only[exec]at he ⊢<;>exact he
theorem T8 {n m:Nat}(h:n<=m){K:Loc}{Xt:Bool}{code:Code}{sl:Yt}{hp:PH}{r}(he:exec C n K Xt code sl hp=some r):exec C m K Xt code sl hp=some r:=by
 induction h with
 |refl=>exact he
 |step _ ih=>exact Z47 _ _ _ _ _ _ _ ih
theorem Zafp {n m:Nat}(h:n<=m){K:Loc}{f:Nat}{args:List PV}{hp:PH}{r}(he:call C n K f args hp=some r):call C m K f args hp=some r:=
 Za2 (fun _ _ _ _ _ h'=>T8 h h') _ _ _ _ _ he
end
end Go.Pure
end
