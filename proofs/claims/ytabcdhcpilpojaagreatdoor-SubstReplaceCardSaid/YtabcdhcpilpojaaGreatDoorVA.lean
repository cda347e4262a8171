/- A virtual run of the model's code: own blocks, no capacities, no draws. -/
import GoSem.Dispatch
import Derived.AtR
import Derived.RangeFuncIn
import Derived.RangeFuncRecord
import Derived.RangeFuncLeaves
import Derived.Laws.Sem
import Derived.Laws.Cells
import Derived.Below
import Derived.Lib.Strings
import Derived.Lib.Explode
import Derived.MapKept
import Derived.Laws.StructEq
import Derived.Laws.Tables
import Derived.Lib.ConvBytes
import Derived.Laws.BytesString
set_option linter.unusedSimpArgs false
set_option linter.unusedVariables false
section
namespace Go.Virt
open Go
abbrev SL:=List (Nat×Value)
def Xf:SL->Nat->Option Value
 | [],_=>none
 | (k,v)::r,t=>bif Nat.beq k t then some v else Xf r t
def Zb0:SL->Nat->Value->SL
 | [],t,v=>[(t,v)]
 | (k,u)::r,t,v=>bif Nat.beq k t then (k,v)::r else (k,u)::Zb0 r t v
inductive VO where
 |row (cells:List Value) (e:Nat) (own:Bool)
 |map (es:List (Value×Value))
 |loop (sl:SL) (params:List Nat) (assign body:Code)
structure VH where
 next:Nat
 get:Nat->Option VO
 wr:Nat
def VH.put (h:VH)(i:Nat)(o:Option VO):VH:={h with get:=fun j=>bif Nat.beq j i then o else h.get j}
def VH.note (h:VH)(i:Nat):VH:={h with wr:=min h.wr i}
def VH.new (h:VH)(o:VO):VH:={next:=h.next+1,get:=fun j=>bif Nat.beq j h.next then some o else h.get j,wr:=h.wr}
inductive TK where
 |bool | int (k:IntKind) | str | ptr (e:Nat) | slice (e:Nat) | array (n e:Nat) | map (k e:Nat)
 |struct (fs:List (Nat×Nat)) | iface | func | other
structure Ty where
 k:TK
 size:Nat
 bytes:Nat
 zero:List Value
def TK.agg:TK->Bool
 | .struct _ | .array _ _=>true
 | _=>false
structure Ctx where
 G:Nat
 T:Nat->Option Ty
 F:Nat->Option Func
 ext:Nat->List Value->Option Value
 raw:Nat->Bool:=fun _=>false
 cmp:Nat->Bool:=fun _=>false
def flat:Nat->Value->Bool
 | _,.bool _ | _,.int _ _ | _,.float _ _ | _,.complex _ _ _ | _,.string _ | _,.pointer none | _,.slice none 0 0 | _,.map none | _,.chan none | _,.nilFunc | _,.nilIface=>true
 |n+1,.agg cs | n+1,.tuple cs=>cs.toList.all (flat n)
 |n+1,.iface _ v=>flat n v
 | _,_=>false
def cellB:Value->Bool
 | .agg _ | .tuple _=>false
 | _=>true
def toV (agg:Bool)(cs:List Value):Option Value:=
 if agg then some (.agg cs.toArray) else match cs with | [v]=>some v | _=>none
def readN (cells:List Value)(off n:Nat):Option (List Value):=
 let r:=(cells.drop off).take n
 if r.length=n then some r else none
def We:List Value->Nat->List Value->Option (List Value)
 |cs,_,[]=>some cs
 | [],_,_::_=>none
 | _::cs,0,v::vs=>(We cs 0 vs).map (v::·)
 |c::cs,i+1,vs=>(We cs i vs).map (c::·)
def VH.load (h:VH)(a:Addr)(n:Nat):Option (List Value):=
 match h.get a.block with
 |some (.row cs _ _)=>if a.spot.isSome then none else readN cs a.off n
 | _=>none
def VH.store (h:VH)(a:Addr)(vs:List Value):Option VH:=
 match h.get a.block with
 |some (.row cs e true)=>
  if vs.all cellB&&a.spot.isNone then
   match We cs a.off vs with
   |some cs'=>some ((h.put a.block (some (.row cs' e true))).note a.block)
   |none=>none
  else none
 | _=>none
def VH.elems (h:VH)(size:Nat):Value->Option (List Value)
 | .slice none _ _=>some []
 | .slice (some a) len _=>h.load a (len*size)
 | .string s=>some (s.data.toList.map fun b=>.int .u8 b.toNat)
 | _=>none
def Zro:Value->Option Nat
 | .slice _ n _=>some n
 | .string s=>some s.size
 | _=>none
def maxLenV:Nat:=2^30
def Ry (C:Ctx)(u:Nat)(x y:Value):Option Bool:=
 match C.T u with
 |none=>none
 |some ty=>
  match ty.k,x,y with
  | .bool,.bool a,.bool b=>some (a==b)
  | .int _,.int k a,.int k' b=>if k=k' then some (a==b) else none
  | .str,.string a,.string b=>some (a.data.toList==b.data.toList)
  | _,_,_=>none
def Zat (C:Ctx):Nat->List (Nat×Nat)->List Value->List Value->Option Bool
 | _,[],[],[]=>some true
 |k,(o,u)::r,x::l,y::m=>if o=k then (Ry C u x y).bind fun a=>(Zat C (k+1) r l m).map fun b=>a&&b else none
 | _,_,_,_=>none
def eqV (C:Ctx)(t:Nat)(x y:Value):Option Bool:=
 match C.T t with
 |none=>none
 |some ty=>
  match ty.k,x,y with
  | .bool,.bool a,.bool b=>some (a==b)
  | .slice _,.slice none _ _,.slice b _ _=>some b.isNone
  | .slice _,.slice (some _) _ _,.slice none _ _=>some false
  | .ptr _,.pointer none,.pointer b=>some b.isNone
  | .ptr _,.pointer (some _),.pointer none=>some false
  | .map _ _,.map none,.map b=>some b.isNone
  | .map _ _,.map (some _),.map none=>some false
  | .struct fs,.agg xs,.agg ys=>if C.cmp t then Zat C 0 fs xs.toList ys.toList else none
  | _,_,_=>none
def litNil:Operand->Bool
 | .const .nilIface=>true
 | _=>false
def ifaceK (C:Ctx)(t:Nat):Bool:=match C.T t with
 |some ty=>match ty.k with | .iface=>true | _=>false
 |none=>false
def nilE (C:Ctx)(op:BinOp)(t:Nat)(ox oy:Operand)(x y:Value):Option Value:=
 if litNil ox||litNil oy then (match op,x,y with
  | .eql,.nilIface,.nilIface=>if ifaceK C t then some (.bool true) else none
  | .neq,.nilIface,.nilIface=>if ifaceK C t then some (.bool false) else none
  | _,_,_=>none) else none
def Qj (C:Ctx)(op:BinOp)(t:Nat)(x y:Value):Option Value:=
 match op,x,y with
 | .shl,.int k a,.int _ b=>if b < 0 then none else some (.int k (k.wrap (a*2^min b.toNat k.bits)))
 | .shr,.int k a,.int _ b=>if b < 0 then none else some (.int k (a.fdiv (2^min b.toNat k.bits)))
 |op,.int k a,.int k' b=>
  if k=k' then
   match op with
   | .add=>some (.int k (k.wrap (a+b)))
   | .sub=>some (.int k (k.wrap (a - b)))
   | .mul=>some (.int k (k.wrap (a*b)))
   | .quo=>if b=0 then none else some (.int k (k.wrap (a.tdiv b)))
   | .rem=>if b=0 then none else some (.int k (a.tmod b))
   | .and=>some (.int k (k.wrap (BitVec.ofInt k.bits a&&&BitVec.ofInt k.bits b).toNat))
   | .or=>some (.int k (k.wrap (BitVec.ofInt k.bits a|||BitVec.ofInt k.bits b).toNat))
   | .xor=>some (.int k (k.wrap (BitVec.ofInt k.bits a^^^BitVec.ofInt k.bits b).toNat))
   | .eql=>some (.bool (a==b))
   | .neq=>some (.bool (a !=b))
   | .lss=>some (.bool (a < b))
   | .leq=>some (.bool (a<=b))
   | .gtr=>some (.bool (a > b))
   | .geq=>some (.bool (a ≥ b))
   | _=>none
  else none
 |op,.string a,.string b=>
  match op with
  | .add=>if a.size+b.size<=2^62 then some (.string (a++b)) else none
  | .eql=>some (.bool (a.data.toList==b.data.toList))
  | .neq=>some (.bool (!(a.data.toList==b.data.toList)))
  | .lss=>some (.bool (Op.bytesLess a.data.toList b.data.toList))
  | .gtr=>some (.bool (!(Op.bytesLess a.data.toList b.data.toList||a.data.toList==b.data.toList)))
  | _=>none
 | .eql,x,y=>(eqV C t x y).map .bool
 | .neq,x,y=>(eqV C t x y).map fun b=>.bool (!b)
 | _,_,_=>none
def unV (op:UnOp)(x:Value):Option Value:=
 match op,x with
 | .neg,.int k n=>some (.int k (k.wrap (0 - n)))
 | .not,.bool b=>some (.bool !b)
 | _,_=>none
def Zb7 (k:TK):Value->Bool
 | .int _ _=>match k with | .int _=>true | _=>false
 | .string _=>match k with | .str=>true | _=>false
 | .bool _=>match k with | .bool=>true | _=>false
 | _=>false
def Su:Value->Value->Option Bool
 | .int k a,.int k' b=>if k=k' then some (a==b) else none
 | .string a,.string b=>some (a==b)
 | .bool a,.bool b=>some (a==b)
 | _,_=>none
def Qx:List (Value×Value)->Value->Option (Option Value)
 | [],_=>some none
 | (k,v)::r,x=>match Su x k with
   |some true=>some (some v)
   |some false=>Qx r x
   |none=>none
def Zd6:List (Value×Value)->Value->Value->Option (List (Value×Value))
 | [],x,u=>some [(x,u)]
 | (k,v)::r,x,u=>match Su x k with
   |some true=>some ((x,u)::r)
   |some false=>(Zd6 r x u).map ((k,v)::·)
   |none=>none
def Zd7:List (Value×Value)->Value->Option (List (Value×Value))
 | [],_=>some []
 | (k,v)::r,x=>match Su x k with
   |some true=>some r
   |some false=>(Zd7 r x).map ((k,v)::·)
   |none=>none
def Zht:Value->Option Nat
 | .int _ n=>if 0<=n then some n.toNat else none
 | _=>none
def Ve (len:Nat)(lo hi:Option Value):Option (Nat×Nat):=
 match (match hi with | some v=>Zht v | none=>some len),(match lo with | some v=>Zht v | none=>some 0) with
 |some h,some l=>if l<=h/\h<=len then some (l,h) else none
 | _,_=>none
def Qn (place:Nat->Option (Nat×Nat))(cells:List Value):List (Nat×Value)->Option (List Value)
 | []=>some cells
 | (i,v)::rest=>
   match place i with
   |none=>none
   |some (off,size)=>
    let cs:=v.cells.toList
    if cs.length=size/\off+cs.length<=cells.length/\cs.all cellB=true then
     match We cells off cs with
     |some Wx=>Qn place Wx rest
     |none=>none
    else none
def Zc4:List Value->Option ByteArray
 | []=>some ⟨#[]⟩
 | .int .u8 n::r=>(Zc4 r).map fun b=>⟨(UInt8.ofNat n.toNat::b.data.toList).toArray⟩
 | _=>none
def Vv (n:Nat)(zero:List Value):List Value:=(List.range n).flatMap fun _=>zero
section
variable (C:Ctx)(cf:Nat->List Value->VH->Option (Value×VH))(yf:Nat->List Value->VH->Option (Value×VH))
def opd (C:Ctx)(sl:SL):Operand->Option Value
 | .tmp t=>Xf sl t
 | .const v=>if flat 4 v then some v else none
 | .global g=>if g < C.G then some (.pointer (some ⟨g,0,none⟩)) else none
 | .func f=>some (.func (.func f) #[] #[])
def opds (C:Ctx)(sl:SL):List Operand->Option (List Value)
 | []=>some []
 |x::r=>match opd C sl x,opds C sl r with | some v,some vs=>some (v::vs) | _,_=>none
def parts (C:Ctx)(sl:SL):List (Nat×Operand)->Option (List (Nat×Value))
 | []=>some []
 | (i,x)::r=>match opd C sl x,parts C sl r with | some v,some vs=>some ((i,v)::vs) | _,_=>none
def Us (h:VH)(ty:Ty)(s x:Value):Option (Value×VH):=
 match s,Zro x,h.elems ty.size x,h.elems ty.size s with
 | .slice base sl _,some n,some xs,some old=>
   if sl+n<=maxLenV/\ty.bytes<=2^16/\0 < ty.size then
    match base with
    |none=>if n=0 then some (.slice none 0 0,h) else some (.slice (some ⟨h.next,0,none⟩) n n,h.new (.row xs ty.size true))
    |some a=>
     match h.get a.block with
     |some (.row _ e true)=>
      if e=ty.size then some (.slice (some ⟨h.next,0,none⟩) (sl+n) (sl+n),((h.put a.block none).note a.block).new (.row (old++xs) ty.size true)) else none
     | _=>none
   else none
 | _,_,_,_=>none
def U7 (h:VH)(ty tx:Ty)(s x:Value):Option (Value×VH):=
 match tx.k with
 | .int _=>
   match s,x with
   | .slice none _ _,.int _ n=>
     if 0<=n/\n<=maxLenV/\ty.bytes<=2^16/\0 < ty.size then
      if n=0 then some (.slice none 0 0,h)
      else some (.slice (some ⟨h.next,0,none⟩) n.toNat n.toNat,h.new (.row (Vv n.toNat ty.zero) ty.size true))
     else none
   | _,_=>none
 | _=>if (match x with | .string _=>ty.size==1 | _=>true) then Us h ty s x else none
def U6 (sl:SL)(h:VH)(c:Call):Option (Value×VH):=
 match opds C sl c.args.toList with
 |none=>none
 |some args=>
  match c.callee with
  | .value f=>
    match opd C sl f with
    |some (.func (.func g) first captured)=>cf g (first.toList++args++captured.toList) h
    |some (.func (.yield l) _ _)=>yf l args h
    | _=>none
  | .invoke _ _=>none
  | .builtin b=>
    match b,args with
    | .len,[x]=>
      match (c.argTypes[0]?).bind C.T with
      |some ty=>match ty.k,x with
       | .str,.string s=>some (.int .i64 s.size,h)
       | .slice _,.slice _ n _=>some (.int .i64 n,h)
       | .map _ _,.map none=>some (.int .i64 0,h)
       | .map _ _,.map (some r)=>match h.get r with | some (.map es)=>some (.int .i64 es.length,h) | _=>none
       | _,_=>none
      |none=>none
    | .cap,[.slice none _ _]=>
      match (c.argTypes[0]?).bind C.T with
      |some ty=>match ty.k with
       | .slice _=>some (.int .i64 0,h)
       | _=>none
      |none=>none
    | .min,[.int k a,.int _ b]=>some (.int k (if b < a then b else a),h)
    | .max,[.int k a,.int _ b]=>some (.int k (if b > a then b else a),h)
    | .append,[s,x]=>
      match (c.argTypes[0]?).bind C.T,(c.argTypes[1]?).bind C.T with
      |some ts,some tx=>
       match ts.k with
       | .slice e=>match C.T e with
         |some ty=>U7 h ty tx s x
         |none=>none
       | _=>none
      | _,_=>none
    | .delete,[.map (some r),k]=>
      match (c.argTypes[0]?).bind C.T with
      |some ts=>match ts.k with
       | .map kt _=>
         match C.T kt,h.get r with
         |some kty,some (.map es)=>if Zb7 kty.k k then (Zd7 es k).map fun es=>(.tuple #[],(h.put r (some (.map es))).note r) else none
         | _,_=>none
       | _=>none
      |none=>none
    | _,_=>none
def Xn (sl:SL)(h:VH)(o:Oper):Option (Value×VH):=
 let E:=opd C sl
 let undef:Value:=.tuple #[]
 match o.op with
 | .move x | .assign x=>(E x).map (·,h)
 | .pick c a b=>
   match E c with
   |some (.bool true)=>(E a).map (·,h)
   |some (.bool false)=>(E b).map (·,h)
   | _=>none
 | .alloc t=>match C.T t with
   |some ty=>some (.pointer (some ⟨h.next,0,none⟩),h.new (.row ty.zero ty.size true))
   |none=>none
 | .box _ x=>match E x with
   |some v=>let cs:=v.cells.toList;if cs.all cellB then some (.pointer (some ⟨h.next,0,none⟩),h.new (.row cs cs.length true)) else none
   |none=>none
 | .build t ps=>
   match C.T t,parts C sl ps.toList with
   |some ty,some vs=>
    match ty.k with
    | .struct fs=>if fs.all (fun f=>(C.T f.2).isSome) then (Qn (fun i=>(fs[i]?).bind fun (off,u)=>(C.T u).map fun tu=>(off,tu.size)) ty.zero vs).map fun cs=>(.agg cs.toArray,h) else none
    | .array _ e=>match C.T e with
      |some te=>(Qn (fun i=>some (i*te.size,te.size)) ty.zero vs).map fun cs=>(.agg cs.toArray,h)
      |none=>none
    | _=>none
   | _,_=>none
 | .buildSlice t len ps=>
   match C.T t,parts C sl ps.toList with
   |some ty,some vs=>
    match ty.k with
    | .slice e=>match C.T e with
      |some te=>if len*te.size<=2^20/\te.zero.length=te.size/\te.zero.all cellB then
        (Qn (fun i=>some (i*te.size,te.size)) (Vv len te.zero) vs).map fun cs=>(.slice (some ⟨h.next,0,none⟩) len len,h.new (.row cs te.size true))
       else none
      |none=>none
    | _=>none
   | _,_=>none
 | .load t a=>
   match C.T t,E a with
   |some ty,some (.pointer (some ad))=>if ad.spot.isSome then none else ((h.load ad ty.size).bind (toV ty.k.agg)).map (·,h)
   | _,_=>none
 | .store t a x=>
   match C.T t,E a,E x with
   |some ty,some (.pointer (some ad)),some v=>
    if ad.spot.isSome then none else
    if v.cells.size=ty.size then (h.store ad v.cells.toList).map (undef,·) else none
   | _,_,_=>none
 | .nilCheck x=>
   match E x with
   |some (.pointer (some a))=>some (.pointer (some a),h)
   |some (.func f a b)=>match f with | .method _=>none | _=>some (.func f a b,h)
   | _=>none
 | .binOp op t x y _=>
   match E x,E y with
   |some a,some b=>((nilE C op t x y a b).or (Qj C op t a b)).map (·,h)
   | _,_=>none
 | .unOp op _ x=>((E x).bind (unV op)).map (·,h)
 | .convert src dst x=>
   match C.T src,C.T dst,E x with
   |some ts,some td,some v=>
    match ts.k,td.k,v with
    | _,.int k,.int _ n=>some (.int k (k.wrap n),h)
    | _,.str,.string s=>some (.string s,h)
    | .str,.slice e,.string s=>
      match C.T e with
      |some te=>match te.k with
       | .int .u8=>if s.size<=maxLenV then some (.slice (some ⟨h.next,0,none⟩) s.size s.size,h.new (.row (s.data.toList.map fun b=>.int .u8 b.toNat) 1 true)) else none
       | _=>none
      |none=>none
    | .slice e,.str,.slice a len c=>
      match C.T e with
      |some te=>match te.k with
       | .int .u8=>if te.size=1 then ((h.elems 1 (.slice a len c)).bind Zc4).map fun b=>(.string b,h) else none
       | _=>none
      |none=>none
    | _,_,_=>none
   | _,_,_=>none
 | .makeInterface t x=>
   match C.T t with
   |some ty=>match ty.k with
    | .iface=>none
    | _=>(E x).map fun v=>(.iface t v,h)
   |none=>none
 | .makeFunc fn first captured=>
   match fn,opds C sl first.toList,opds C sl captured.toList with
   | .func g,some a,some b=>some (.func (.func g) a.toArray b.toArray,h)
   | _,_,_=>none
 | .makeMap _ none=>some (.map (some h.next),h.new (.map []))
 | .makeSlice t l c=>
   match C.T t,E l,E c with
   |some ty,some (.int _ n),some (.int _ m)=>
    match ty.k with
    | .slice e=>match C.T e with
      |some te=>if 0<=n/\n<=m/\m<=maxLenV then
        if te.bytes<=2^16 then some (.slice (some ⟨h.next,0,none⟩) n.toNat n.toNat,h.new (.row (Vv n.toNat te.zero) te.size true)) else none
       else none
      |none=>none
    | _=>none
   | _,_,_=>none
 | .slice t x lo hi none=>
   match C.T t,E x with
   |some ty,some v=>
    match (match lo with | some l=>(E l).map some | none=>some none),(match hi with | some l=>(E l).map some | none=>some none) with
    |some lo,some hi=>
     match ty.k,v with
     | .str,.string s=>(Ve s.size lo hi).map fun (l,u)=>(.string (s.extract l u),h)
     | .slice e,.slice none len _=>
       match C.T e,Ve len lo hi with
       |some _,some (l,u)=>some (.slice none (u - l) (u - l),h)
       | _,_=>none
     | .slice e,.slice (some a) len _=>
       match C.T e,Ve len lo hi,h.get a.block with
       |some te,some (l,u),some (.row _ e' _)=>if e'=te.size then some (.slice (some ⟨a.block,a.off+l*te.size,none⟩) (u - l) (u - l),h) else none
       | _,_,_=>none
     | _,_=>none
    | _,_=>none
   | _,_=>none
 | .fieldAddr s x f=>
   match C.T s,E x with
   |some ty,some (.pointer (some a))=>
    match ty.k with
    | .struct fs=>match fs[f]? with
      |some (off,u)=>match C.T u with
       |some tu=>if tu.size=0\/a.spot.isSome then none else some (.pointer (some ⟨a.block,a.off+off,none⟩),h)
       |none=>none
      |none=>none
    | _=>none
   | _,_=>none
 | .field t x f=>
   match C.T t,E x with
   |some ty,some (.agg cs)=>
    match ty.k with
    | .struct fs=>match fs[f]? with
      |some (off,u)=>match C.T u with
       |some tu=>((readN cs.toList off tu.size).bind (toV tu.k.agg)).map (·,h)
       |none=>none
      |none=>none
    | _=>none
   | _,_=>none
 | .indexAddr t x ix=>
   match C.T t,E x,E ix with
   |some ty,some v,some (.int _ i)=>
    match ty.k,v with
    | .slice e,.slice (some a) len _=>
      match C.T e with
      |some te=>if 0<=i/\i < len then (if a.spot.isSome then none else some (.pointer (some ⟨a.block,a.off+i.toNat*te.size,none⟩),h)) else none
      |none=>none
    | .array n e,.pointer (some a)=>
      match C.T e with
      |some te=>if 0<=i/\i < n then (if a.spot.isSome then none else some (.pointer (some ⟨a.block,a.off+i.toNat*te.size,none⟩),h)) else none
      |none=>none
    | _,_=>none
   | _,_,_=>none
 | .index t x ix=>
   match C.T t,E x,E ix with
   |some ty,some v,some (.int _ i)=>
    match ty.k,v with
    | .array n e,.agg cs=>
      match C.T e with
      |some te=>if 0<=i/\i < n then ((readN cs.toList (i.toNat*te.size) te.size).bind (toV te.k.agg)).map (·,h) else none
      |none=>none
    | .str,.string s=>if 0<=i then (s.data.toList[i.toNat]?).map fun b=>(.int .u8 b.toNat,h) else none
    | _,_=>none
   | _,_,_=>none
 | .lookup t x ix ok=>
   match C.T t,E x,E ix with
   |some ty,some m,some k=>
    match ty.k with
    | .map kt et=>match C.T kt,C.T et with
      |some kty,some ety=>
       if Zb7 kty.k k then
        let es:Option (List (Value×Value)):=match m with
         | .map none=>some []
         | .map (some r)=>match h.get r with | some (.map es)=>some es | _=>none
         | _=>none
        match es with
        |none=>none
        |some es=>
         match Qx es k with
         |some (some v)=>some (if ok then .tuple #[v,.bool true] else v,h)
         |some none=>(toV ety.k.agg ety.zero).map fun z=>(if ok then .tuple #[z,.bool false] else z,h)
         |none=>none
       else none
      | _,_=>none
    | _=>none
   | _,_,_=>none
 | .mapUpdate t m k x | .insert t m k x=>
   match C.T t,E m,E k,E x with
   |some ty,some (.map (some r)),some kv,some v=>
    match ty.k with
    | .map kt _=>match C.T kt,h.get r with
      |some kty,some (.map es)=>if Zb7 kty.k kv then (Zd6 es kv v).map fun es=>(undef,(h.put r (some (.map es))).note r) else none
      | _,_=>none
    | _=>none
   | _,_,_,_=>none
 | .extract t ix=>match E t with
   |some (.tuple vs)=>(vs.toList[ix]?).map (·,h)
   | _=>none
 | .call c=>U6 C cf yf sl h c
 | _=>none
def Qp (ops:List Oper)(sl:SL)(o:Oper):Option Bool:=
 match o.guard with
 |none=>some true
 |some (j,want)=>
  match (ops[j]?).bind (·.dst) with
  |some d=>match Xf sl d with
   |some (.bool b)=>some (b==want)
   |some _=>some false
   |none=>none
  |none=>some false
def putV (sl:SL)(dst:Option Nat)(v:Value):SL:=match dst with | some d=>Zb0 sl d v | none=>sl
def Zhm (all:List Oper):List Oper->SL->VH->Option (SL×VH)
 | [],sl,h=>some (sl,h)
 |o::r,sl,h=>
  match Qp all sl o with
  |some true=>match Xn C cf yf sl h o with
   |some (v,h')=>Zhm all r (putV sl o.dst v) h'
   |none=>none
  |some false=>Zhm all r (putV sl o.dst (.tuple #[])) h
  |none=>none
inductive Shape where
 |ptr | slice (n:Nat) | map
def Shape.val (id:Nat):Shape->Value
 | .ptr=>.pointer (some ⟨id,0,none⟩)
 | .slice n=>.slice (some ⟨id,0,none⟩) n n
 | .map=>.map (some id)
def Qa (C:Ctx)(sl:SL)(o:Oper):Option (Shape×VO):=
 match o.op with
 | .alloc t=>match C.T t with
   |some ty=>some (.ptr,.row ty.zero ty.size true)
   |none=>none
 | .box _ x=>match opd C sl x with
   |some v=>if v.cells.toList.all cellB then some (.ptr,.row v.cells.toList v.cells.toList.length true) else none
   |none=>none
 | .buildSlice t len ps=>
   match C.T t,parts C sl ps.toList with
   |some ty,some vs=>
    match ty.k with
    | .slice e=>match C.T e with
      |some te=>if len*te.size<=2^20 then
        (Qn (fun i=>some (i*te.size,te.size)) (Vv len te.zero) vs).map fun cs=>(.slice len,.row cs te.size true)
       else none
      |none=>none
    | _=>none
   | _,_=>none
 | .makeSlice t l c=>
   match C.T t,opd C sl l,opd C sl c with
   |some ty,some (.int _ n),some (.int _ m)=>
    match ty.k with
    | .slice e=>match C.T e with
      |some te=>if 0<=n/\n<=m/\m<=maxLenV/\te.bytes<=2^16 then some (.slice n.toNat,.row (Vv n.toNat te.zero) te.size true) else none
      |none=>none
    | _=>none
   | _,_,_=>none
 | .makeMap _ none=>some (.map,.map [])
 | _=>none
structure Rec where
 o:Oper
 pk:SL
 v:Value
 kind:Nat
 k:Nat
 vis:Nat
structure DSt where
 sl:SL
 recs:List Rec
 hs:List VH
 k:Nat
 made:Nat
def Yc (ops:List Oper)(o:Oper):List Nat:=
 (o.op.operands.toList.filterMap fun | .tmp t=>some t | _=>none) ++
 (match o.guard with
  |some (g,_)=>((ops[g]?).bind (·.dst)).toList
  |none=>[])
def pick (sl:SL):List Nat->SL
 | []=>[]
 |d::r=>match Xf sl d with
  |some v=>(d,v)::pick sl r
  |none=>pick sl r
def X0 (B M:Nat)(p:Nat->Bool)(S:VH):VH:={S with get:=fun j=>bif Nat.ble B j&&Nat.blt j M then (bif p (j - B) then S.get j else none) else S.get j}
def view (B M vis:Nat)(S:VH):VH:={X0 B M vis.testBit S with wr:=S.next}
def over (B M vis:Nat)(S h':VH):VH:={next:=h'.next,wr:=min S.wr h'.wr,get:=fun j=>bif Nat.ble B j&&Nat.blt j M&&!vis.testBit (j - B) then S.get j else h'.get j}
def Zda (B M:Nat)(all:List Oper)(masks:Array Nat)(o:Oper)(i:Nat)(st:DSt):Option DSt:=
 let pk:=pick st.sl (Yc all o)
 match Qp all pk o with
 |none=>none
 |some false=>some {st with sl:=putV st.sl o.dst (.tuple #[]),recs:=⟨o,pk,.tuple #[],0,st.k,0⟩::st.recs}
 |some true=>
  match Qa C pk o with
  |some (sh,obj)=>some {sl:=putV st.sl o.dst (sh.val (B+i)),recs:=⟨o,pk,sh.val (B+i),1,st.k,0⟩::st.recs,hs:=st.hs.map (·.put (B+i) (some obj)),k:=st.k,made:=st.made|||2^i}
  |none=>
   match st.hs with
   | []=>none
   |S::r=>
    let vis:=masks.getD i 0&&&st.made
    match Xn C cf yf pk (view B M vis S) o with
    |none=>none
    |some (v,h')=>
     if Nat.beq h'.next S.next&&Nat.beq h'.wr S.next then some {st with sl:=putV st.sl o.dst v,recs:=⟨o,pk,v,2,st.k,vis⟩::st.recs}
     else some {sl:=putV st.sl o.dst v,recs:=⟨o,pk,v,3,st.k,vis⟩::st.recs,hs:=over B M vis S h'::S::r,k:=st.k+1,made:=st.made}
def Zb3 (B M:Nat)(all:List Oper)(masks:Array Nat):List Oper->Nat->DSt->Option DSt
 | [],_,st=>some st
 |o::r,i,st=>match Zda C cf yf B M all masks o i st with
  |some st'=>Zb3 B M all masks r (i+1) st'
  |none=>none
def Xg:Nat->Value->Value->Bool
 | _,.bool a,.bool b=>a==b
 | _,.int j a,.int k b=>j==k&&a==b
 | _,.string a,.string b=>a.data.toList==b.data.toList
 | _,.pointer a,.pointer b=>a==b
 | _,.slice a n m,.slice b n' m'=>a==b&&n==n'&&m==m'
 | _,.map a,.map b=>a==b
 | _,.nilFunc,.nilFunc=>true
 | _,.nilIface,.nilIface=>true
 |n+1,.iface t a,.iface t' b=>t==t'&&Xg n a b
 |n+1,.agg a,.agg b=>sames n a.toList b.toList
 |n+1,.tuple a,.tuple b=>sames n a.toList b.toList
 |n+1,.func f a c,.func g b d=>f==g&&sames n a.toList b.toList&&sames n c.toList d.toList
 | _,_,_=>false
where
 sames:Nat->List Value->List Value->Bool
  | _,[],[]=>true
  |n,a::l,b::m=>Xg n a b&&sames n l m
  | _,_,_=>false
def Zhc (n:Nat)(v:Value):Option (Value×VH)->Bool
 |some (u,h)=>Xg 3 v u&&Nat.beq h.next n&&Nat.beq h.wr n
 |none=>false
def Sq (all:List Oper)(masks:Array Nat):Bool:=
 (all.zipIdx.all fun (o,i)=>o.after.all (fun e=>!Region.binds .any e||Nat.blt e.on i) &&
   (let ls:=Yc all o
    all.zipIdx.all fun (p,j)=>Nat.beq i j ||
     (match p.dst with
      |some d=>(match o.dst with | some d'=>!Nat.beq d d' | none=>true)&&(!(ls.contains d)||(bif Nat.blt j i then (masks.getD i 0).testBit j else (masks.getD j 0).testBit i))
      |none=>true)))
def Zbw (masks:Array Nat)(recs:List (Rec×Nat)):Bool:=
 recs.all fun (r,i)=>!Nat.beq r.kind 3||recs.all fun (q,j)=>!Nat.beq q.kind 3||Nat.beq i j||(Nat.blt r.k q.k&&(masks.getD j 0).testBit i)||(Nat.blt q.k r.k&&(masks.getD i 0).testBit j)
def Zix (masks:Array Nat)(recs:List (Rec×Nat))(i k:Nat):Bool:=
 recs.all fun (q,c)=>!Nat.beq q.kind 3||(!((masks.getD i 0).testBit c&&Nat.ble k q.k)&&!((masks.getD c 0).testBit i&&Nat.blt q.k k))
def Zhg (B M:Nat)(masks:Array Nat)(recs:List (Rec×Nat))(hs:List (VH×Nat)):Bool:=
 recs.all fun (r,i)=>!Nat.beq r.kind 2||hs.all fun (S,k)=>Nat.beq k r.k||!Zix masks recs i k||Zhc S.next r.v (Xn C cf yf r.pk (view B M r.vis S) r.o)
def Zil (ops:Array Oper)(sl:SL)(h:VH):Option (SL×VH):=
 let all:=ops.toList
 let masks:=Region.before ops
 let M:=h.next+all.length
 match Zb3 C cf yf h.next M all masks all 0 {sl,recs:=[],hs:=[{h with next:=M}],k:=0,made:=0} with
 |none=>none
 |some st=>
  match st.hs with
  | []=>none
  |S::_=>
   let recs:=st.recs.reverse.zipIdx
   if Nat.ble h.wr h.next&&Sq all masks&&Zbw masks recs&&Zhg C cf yf h.next M masks recs st.hs.reverse.zipIdx then some (st.sl,S) else none
end
inductive Ex where
 |normal
 |exit (id:Nat)
 |ret
def Zhe (C:Ctx)(sl:SL)(h:VH):List ResultVar->Option (List Value)
 | []=>some []
 | .tmp t::r=>match Xf sl t,Zhe C sl h r with | some v,some vs=>some (v::vs) | _,_=>none
 | .cell a t::r=>
   match Xf sl a,C.T t,Zhe C sl h r with
   |some (.pointer (some ad)),some ty,some vs=>((h.load ad ty.size).bind (toV ty.k.agg)).map (·::vs)
   | _,_,_=>none
def Zoz:List Value->Value
 | [v]=>v
 |vs=>.tuple vs.toArray
def Ub:Nat->List Value->SL
 | _,[]=>[]
 |i,v::r=>(i,v)::Ub (i+1) r
def settle (raw:Bool)(h:VH)(v:Value)(h':VH):Value×VH:=
 if !raw&&flat 4 v&&Nat.ble h.next h'.wr then (v,h) else (v,{h' with wr:=min h.wr h'.wr})
def callF (C:Ctx)(ex:Code->SL->VH->Option (Ex×SL×VH))(f:Nat)(args:List Value)(h:VH):Option (Value×VH):=
 match C.ext f args with
 |some v=>some (v,h)
 |none=>
  match C.F f with
  |none=>none
  |some fn=>match fn.body with
   |none=>none
   |some c=>
    match ex c (Ub 0 args) {h with wr:=h.next} with
    |some (.normal,Y6,h') | some (.ret,Y6,h')=>(Zhe C Y6 h' fn.results.toList).map fun vs=>settle (C.raw f) h (Zoz vs) h'
    | _=>none
def Zd3:SL->List (Nat×Value)->SL
 |s,[]=>s
 |s,(p,v)::r=>Zd3 (Zb0 s p v) r
def yieldF (ex:Code->SL->VH->Option (Ex×SL×VH))(l:Nat)(args:List Value)(h:VH):Option (Value×VH):=
 match h.get l with
 |some (.loop Uc ps assign body)=>
  if ps.length=args.length then
   match ex assign (Zd3 Uc (ps.zip args)) (h.put l none) with
   |some (.normal,Qr,h1)=>
    match ex body Qr h1 with
    |some (.normal,_,h2)=>some (.bool true,h2.put l (some (.loop Uc ps assign body)))
    | _=>none
   | _=>none
  else none
 | _=>none
def exec (C:Ctx):Nat->Bool->Code->SL->VH->Option (Ex×SL×VH)
 | 0,_,_,_,_=>none
 |n+1,Xs,code,sl,h=>
  let cf:=callF C (exec C n true)
  let yf:=yieldF (exec C n false)
  match code with
  | .skip=>some (.normal,sl,h)
  | .region _ ops draw=>(if draw then Zil C cf yf ops sl h else Zhm C cf yf ops.toList ops.toList sl h).map fun (Y6,h')=>(.normal,Y6,h')
  | .seq a b=>
    match exec C n Xs a sl h with
    |some (.normal,Y6,h')=>exec C n Xs b Y6 h'
    |r=>r
  | .cond c a b=>
    match opd C sl c with
    |some (.bool true)=>exec C n Xs a sl h
    |some (.bool false)=>exec C n Xs b sl h
    | _=>none
  | .block id b=>
    match exec C n Xs b sl h with
    |some (.exit id',Y6,h')=>if id'=id then some (.normal,Y6,h') else some (.exit id',Y6,h')
    |r=>r
  | .loop b=>
    match exec C n Xs b sl h with
    |some (.normal,Y6,h')=>exec C n Xs (.loop b) (Y6.take sl.length) h'
    |r=>r
  | .exit id=>some (.exit id,sl,h)
  | .ret=>some (.ret,sl,h)
  | .rangeFunc f ps assign body=>
    if Xs then
     match opd C sl f with
     |some (.func (.func g) first captured)=>
      match cf g (first.toList++[.func (.yield h.next) #[] #[]]++captured.toList) (h.new (.loop sl ps.toList assign body)) with
      |some (_,h')=>match h'.get h.next with
       |some (.loop _ _ _ _)=>some (.normal,sl,h'.put h.next none)
       | _=>none
      |none=>none
     | _=>none
    else none
  | _=>none
def call (C:Ctx)(n:Nat):Nat->List Value->VH->Option (Value×VH):=callF C (exec C n true)
section
variable {C:Ctx}{cf cf' yf yf':Nat->List Value->VH->Option (Value×VH)}
end
end Go.Virt
end
section
namespace Go.Virt
open Go Go.RowKit
structure Blk where
 b:Nat
 d:Nat
 N:Nat
 e:Nat
 own:Bool
 live:Bool
def Lv (Y:Nat->Blk)(n i:Nat):Prop:=i < n/\(Y i).live=true
mutual
inductive VR (Y:Nat->Blk)(n:Nat):Value->Value->Prop
 |bool (b:Bool):VR Y n (.bool b) (.bool b)
 |int (k:IntKind) (i:Int):VR Y n (.int k i) (.int k i)
 |float (k:FloatKind) (i:Nat):VR Y n (.float k i) (.float k i)
 |complex (k:FloatKind) (i j:Nat):VR Y n (.complex k i j) (.complex k i j)
 |string (s:ByteArray):VR Y n (.string s) (.string s)
 |nilptr:VR Y n (.pointer none) (.pointer none)
 |ptr (i o:Nat) (h:Lv Y n i):VR Y n (.pointer (some ⟨i,o,none⟩)) (.pointer (some ⟨(Y i).b,(Y i).d+o,none⟩))
 |nilslice:VR Y n (.slice none 0 0) (.slice none 0 0)
 |slice (i o len cap W1:Nat) (h:Lv Y n i) (hl:len<=W1) (hb:(Y i).own=true->o+W1*(Y i).e<=(Y i).N):
   VR Y n (.slice (some ⟨i,o,none⟩) len cap) (.slice (some ⟨(Y i).b,(Y i).d+o,none⟩) len W1)
 |empty (i o o' cap:Nat) (h:Lv Y n i):VR Y n (.slice (some ⟨i,o,none⟩) 0 cap) (.slice (some ⟨(Y i).b,o',none⟩) 0 0)
 |nilmap:VR Y n (.map none) (.map none)
 |map (i:Nat) (h:Lv Y n i):VR Y n (.map (some i)) (.map (some (Y i).b))
 |nilchan:VR Y n (.chan none) (.chan none)
 |fn (g:Nat) (a a' c c':Array Value) (h1:VRs Y n a.toList a'.toList) (h2:VRs Y n c.toList c'.toList):VR Y n (.func (.func g) a c) (.func (.func g) a' c')
 |yield (i:Nat) (h:Lv Y n i):VR Y n (.func (.yield i) #[] #[]) (.func (.yield (Y i).b) #[] #[])
 |nilFunc:VR Y n .nilFunc .nilFunc
 |nilIface:VR Y n .nilIface .nilIface
 |iface (t:Nat) (v v':Value) (h:VR Y n v v'):VR Y n (.iface t v) (.iface t v')
 |agg (cs cs':Array Value) (h:VRs Y n cs.toList cs'.toList):VR Y n (.agg cs) (.agg cs')
 |tuple (cs cs':Array Value) (h:VRs Y n cs.toList cs'.toList):VR Y n (.tuple cs) (.tuple cs')
inductive VRs (Y:Nat->Blk)(n:Nat):List Value->List Value->Prop
 |nil:VRs Y n [] []
 |cons {v v':Value} {l l':List Value} (h:VR Y n v v') (r:VRs Y n l l'):VRs Y n (v::l) (v'::l')
end
section
variable {Y YC:Nat->Blk}{n n':Nat}
theorem Lv.mono (hs:∀i,Lv Y n i->YC i=Y i)(hn:n<=n'){i:Nat}(h:Lv Y n i):Lv YC n' i:=⟨Nat.lt_of_lt_of_le h.1 hn,by rw[hs i h];exact h.2⟩
mutual
theorem VR.mono' (hs:∀i,Lv Y n i->YC i=Y i)(hn:n<=n'):∀ {v v':Value},VR Y n v v'->VR YC n' v v'
 | _,_,.bool b=>.bool b
 | _,_,.int k i=>.int k i
 | _,_,.float k i=>.float k i
 | _,_,.complex k i j=>.complex k i j
 | _,_,.string s=>.string s
 | _,_,.nilptr=>.nilptr
 | _,_,.ptr i o h=>(hs i h) ▸ .ptr i o (Lv.mono hs hn h)
 | _,_,.nilslice=>.nilslice
 | _,_,.slice i o len cap W1 h hl hb=>by rw[<- hs i h]at hb ⊢;exact .slice i o len cap W1 (Lv.mono hs hn h) hl hb
 | _,_,.empty i o o' cap h=>by rw[<- hs i h];exact .empty i o o' cap (Lv.mono hs hn h)
 | _,_,.nilmap=>.nilmap
 | _,_,.map i h=>by rw[<- hs i h];exact .map i (Lv.mono hs hn h)
 | _,_,.nilchan=>.nilchan
 | _,_,.fn g a a' c c' h1 h2=>.fn g a a' c c' (VRs.mono' hs hn h1) (VRs.mono' hs hn h2)
 | _,_,.yield i h=>by rw[<- hs i h];exact .yield i (Lv.mono hs hn h)
 | _,_,.nilFunc=>.nilFunc
 | _,_,.nilIface=>.nilIface
 | _,_,.iface t v v' h=>.iface t v v' (VR.mono' hs hn h)
 | _,_,.agg cs cs' h=>.agg cs cs' (VRs.mono' hs hn h)
 | _,_,.tuple cs cs' h=>.tuple cs cs' (VRs.mono' hs hn h)
theorem VRs.mono' (hs:∀i,Lv Y n i->YC i=Y i)(hn:n<=n'):∀ {l l':List Value},VRs Y n l l'->VRs YC n' l l'
 | _,_,.nil=>.nil
 | _,_,.cons h r=>.cons (VR.mono' hs hn h) (VRs.mono' hs hn r)
end
theorem VR.mono (hs:∀i,i < n->YC i=Y i)(hn:n<=n'){v v':Value}(h:VR Y n v v'):VR YC n' v v':=VR.mono' (fun i hi=>hs i hi.1) hn h
theorem VRs.mono (hs:∀i,i < n->YC i=Y i)(hn:n<=n'){l l':List Value}(h:VRs Y n l l'):VRs YC n' l l':=VRs.mono' (fun i hi=>hs i hi.1) hn h
theorem VRs.length {l l':List Value}(h:VRs Y n l l'):l'.length=l.length:=by
 induction l generalizing l' with
 |nil=>cases h;rfl
 |cons v l ih=>cases h with | cons h r=>simp[ih r]
theorem VRs.get {l l':List Value}(h:VRs Y n l l'){j:Nat}{v:Value}(hj:l[j]?=some v):∃v',l'[j]?=some v'/\VR Y n v v':=by
 induction l generalizing l' j with
 |nil=>simp at hj
 |cons u l ih=>
  cases h with
  |cons h r=>
   cases j with
   |zero=>simp at hj;subst hj;exact⟨_,by simp,h⟩
   |succ j=>simp at hj;obtain⟨v',h1,h2⟩:=ih r hj;exact⟨v',by simpa using h1,h2⟩
theorem VRs.of_get {l l':List Value}(hl:l'.length=l.length)(h:∀(j:Nat) (v:Value),l[j]?=some v->∃v',l'[j]?=some v'/\VR Y n v v'):VRs Y n l l':=by
 induction l generalizing l' with
 |nil=>cases l' with | nil=>exact .nil | cons _ _=>simp at hl
 |cons u l ih=>
  cases l' with
  |nil=>simp at hl
  |cons u' l'=>
   obtain⟨v',h1,h2⟩:=h 0 u (by simp);simp at h1;subst h1;exact .cons h2 (ih (by simpa using hl) fun j v hj=>by obtain⟨v',h1,h2⟩:=h (j+1) v (by simpa using hj);exact⟨v',by simpa using h1,h2⟩)
theorem VRs.append {a a' b b':List Value}(h:VRs Y n a a')(k:VRs Y n b b'):VRs Y n (a++b) (a'++b'):=by
 induction a generalizing a' with
 |nil=>cases h;exact k
 |cons v a ih=>cases h with | cons h r=>exact .cons h (ih r)
mutual
theorem VR.of_flat:∀(m:Nat) (v:Value),flat m v=true->VR Y n v v
 | _,.bool b,_=>.bool b
 | _,.int k i,_=>.int k i
 | _,.float k i,_=>.float k i
 | _,.complex k i j,_=>.complex k i j
 | _,.string s,_=>.string s
 | _,.pointer none,_=>.nilptr
 | 0,.pointer (some _),h=>by simp[flat]at h
 | _+1,.pointer (some _),h=>by simp[flat]at h
 | _,.slice none 0 0,_=>.nilslice
 | 0,.slice none (_+1) _,h=>by simp[flat]at h
 | 0,.slice none 0 (_+1),h=>by simp[flat]at h
 | _+1,.slice none (_+1) _,h=>by simp[flat]at h
 | _+1,.slice none 0 (_+1),h=>by simp[flat]at h
 | 0,.slice (some _) _ _,h=>by simp[flat]at h
 | _+1,.slice (some _) _ _,h=>by simp[flat]at h
 | _,.map none,_=>.nilmap
 | 0,.map (some _),h=>by simp[flat]at h
 | _+1,.map (some _),h=>by simp[flat]at h
 | _,.chan none,_=>.nilchan
 | 0,.chan (some _),h=>by simp[flat]at h
 | _+1,.chan (some _),h=>by simp[flat]at h
 | 0,.func _ _ _,h=>by simp[flat]at h
 | _+1,.func _ _ _,h=>by simp[flat]at h
 | _,.nilFunc,_=>.nilFunc
 | _,.nilIface,_=>.nilIface
 | 0,.iface _ _,h=>by simp[flat]at h
 |m+1,.iface t v,h=>.iface t v v (VR.of_flat m v (by simpa[flat]using h))
 | 0,.agg _,h=>by simp[flat]at h
 |m+1,.agg cs,h=>.agg cs cs (VRs.of_flat m cs.toList (by simpa only[flat]using h))
 | 0,.tuple _,h=>by simp[flat]at h
 |m+1,.tuple cs,h=>.tuple cs cs (VRs.of_flat m cs.toList (by simpa only[flat]using h))
theorem VRs.of_flat:∀(m:Nat) (l:List Value),l.all (flat m)=true->VRs Y n l l
 | _,[],_=>.nil
 |m,v::l,h=>by
  simp only[List.all_cons,Bool.and_eq_true]at h;exact .cons (VR.of_flat m v h.1) (VRs.of_flat m l h.2)
end
mutual
theorem VR.eq_of_flat:∀(m:Nat) {v v':Value},VR Y n v v'->flat m v=true->v'=v
 | _,_,_,.bool b,_=>rfl
 | _,_,_,.int k i,_=>rfl
 | _,_,_,.float k i,_=>rfl
 | _,_,_,.complex k i j,_=>rfl
 | _,_,_,.string s,_=>rfl
 | _,_,_,.nilptr,_=>rfl
 | 0,_,_,.ptr i o h,hf=>by simp[flat]at hf
 | _+1,_,_,.ptr i o h,hf=>by simp[flat]at hf
 | _,_,_,.nilslice,_=>rfl
 | 0,_,_,.slice i o len cap W1 h hl hb,hf=>by simp[flat]at hf
 | _+1,_,_,.slice i o len cap W1 h hl hb,hf=>by simp[flat]at hf
 | 0,_,_,.empty i o o' cap h,hf=>by simp[flat]at hf
 | _+1,_,_,.empty i o o' cap h,hf=>by simp[flat]at hf
 | _,_,_,.nilmap,_=>rfl
 | 0,_,_,.map i h,hf=>by simp[flat]at hf
 | _+1,_,_,.map i h,hf=>by simp[flat]at hf
 | _,_,_,.nilchan,_=>rfl
 | 0,_,_,.fn g a a' c c' h1 h2,hf=>by simp[flat]at hf
 | _+1,_,_,.fn g a a' c c' h1 h2,hf=>by simp[flat]at hf
 | 0,_,_,.yield i h,hf=>by simp[flat]at hf
 | _+1,_,_,.yield i h,hf=>by simp[flat]at hf
 | _,_,_,.nilFunc,_=>rfl
 | _,_,_,.nilIface,_=>rfl
 | 0,_,_,.iface t v v' h,hf=>by simp[flat]at hf
 |m+1,_,_,.iface t v v' h,hf=>by rw[VR.eq_of_flat m h (by simpa[flat]using hf)]
 | 0,_,_,.agg cs cs' h,hf=>by simp[flat]at hf
 |m+1,_,_,.agg cs cs' h,hf=>by
  have:=VRs.eq_of_flat m h (by simpa only[flat]using hf);rw[Array.toList_inj.1 this]
 | 0,_,_,.tuple cs cs' h,hf=>by simp[flat]at hf
 |m+1,_,_,.tuple cs cs' h,hf=>by
  have:=VRs.eq_of_flat m h (by simpa only[flat]using hf);rw[Array.toList_inj.1 this]
theorem VRs.eq_of_flat:∀(m:Nat) {l l':List Value},VRs Y n l l'->l.all (flat m)=true->l'=l
 | _,_,_,.nil,_=>rfl
 |m,_,_,.cons h r,hf=>by
  simp only[List.all_cons,Bool.and_eq_true]at hf;rw[VR.eq_of_flat m h hf.1,VRs.eq_of_flat m r hf.2]
end
theorem VR.cellB {v v':Value}(h:VR Y n v v')(hc:Virt.cellB v=true):v'.oneCell'=true:=by
 cases h<;>simp_all[Virt.cellB,Value.oneCell']
end
theorem Tt {a b:Nat}(h:a≠b):Nat.beq a b=false:=by
 cases e:Nat.beq a b
 .rfl
 .exact absurd (Nat.eq_of_beq_eq_true e) h
def SR (Y:Nat->Blk)(n:Nat)(sl:SL)(tmps:Array Value):Prop:=
 ∀t v,Xf sl t=some v->∃v',tmps[t]?=some v'/\VR Y n v v'
theorem SR.mono {Y YC:Nat->Blk}{n n':Nat}(hs:∀i,i < n->YC i=Y i)(hn:n<=n'){sl:SL}{tmps:Array Value}(h:SR Y n sl tmps):SR YC n' sl tmps:=
 fun t v hv=>let ⟨v',h1,h2⟩:=h t v hv;⟨v',h1,h2.mono hs hn⟩
theorem Zpm (sl:SL)(d t:Nat)(v:Value):Xf (Zb0 sl d v) t=if d=t then some v else Xf sl t:=by
 induction sl with
 |nil=>
  simp only[Zb0,Xf];by_cases h:d=t
  .simp [h]
  .simp [h,Tt h]
 |cons x sl ih=>
  obtain⟨k,u⟩:=x;simp only[Zb0];by_cases hk:k=d
  .subst hk;simp only[Nat.beq_refl,cond_true,Xf];by_cases h:k=t
   .simp [h]
   .simp [h,Tt h]
  .have hk':Nat.beq k d=false:=Tt hk;simp only[hk',cond_false,Xf,ih];by_cases h:k=t
   .subst h;simp[Ne.symm hk]
   .have:Nat.beq k t=false:=Tt h;simp[this]
theorem SR.put {Y:Nat->Blk}{n:Nat}{sl:SL}{tmps:Array Value}(h:SR Y n sl tmps){d:Nat}(hd:d < tmps.size){v v':Value}(hv:VR Y n v v'):
  SR Y n (Zb0 sl d v) (tmps.setIfInBounds d v'):=by
 intro t u hu;rw[Zpm]at hu;by_cases e:d=t
 .subst e;simp at hu;subst hu;exact⟨v',by simp[hd],hv⟩
 .simp [e]at hu;obtain⟨u',h1,h2⟩:=h t u hu;exact⟨u',by rw[Array.getElem?_setIfInBounds_ne e];exact h1,h2⟩
theorem slGet_take {sl:SL}{k t:Nat}{v:Value}(h:Xf (sl.take k) t=some v):Xf sl t=some v:=by
 induction sl generalizing k with
 |nil=>simp[Xf]at h
 |cons x sl ih=>
  cases k with
  |zero=>simp[Xf]at h
  |succ k=>
   obtain⟨j,u⟩:=x;simp only[List.take_succ_cons,Xf]at h ⊢;cases hb:Nat.beq j t<;>simp only[hb,cond_true,cond_false]at h ⊢
   .exact ih h
   .exact h
theorem SR.take {Y:Nat->Blk}{n:Nat}{sl:SL}{tmps:Array Value}(h:SR Y n sl tmps)(k:Nat):SR Y n (sl.take k) tmps:=
 fun t v hv=>h t v (slGet_take hv)
theorem Zox (l:List Value)(i t:Nat):Xf (Ub i l) t=if i<=t then l[t - i]? else none:=by
 induction l generalizing i with
 |nil=>simp[Ub,Xf]
 |cons v l ih=>
  simp only[Ub,Xf,ih];by_cases h:i=t
  .subst h;simp
  .have:Nat.beq i t=false:=Tt h;simp only[this,cond_false];by_cases hlt:i+1<=t
   .have h2:t - i=(t - (i+1))+1:=by omega
    simp[hlt,show i<=t by omega,h2]
   .simp [hlt,show ¬ i<=t by omega]
theorem SR.enter {Y:Nat->Blk}{n:Nat}{args:List Value}{args':Array Value}(h:VRs Y n args args'.toList)(extra:Array Value):SR Y n (Ub 0 args) (args'++extra):=by
 intro t v hv;rw[Zox]at hv;simp at hv;obtain⟨v',h1,h2⟩:=h.get hv;refine⟨v',?_,h2⟩
 have hlt:t < args'.size:=by
  have:=List.getElem?_eq_some_iff.1 h1;obtain⟨hh,_⟩:=this;simpa using hh
 rw[Array.getElem?_append_left hlt];simpa using h1
def X9 (n:Nat):Code->Bool
 | .region _ ops _=>ops.toList.all fun o=>match o.dst with | some d=>Nat.blt d n | none=>true
 | .seq a b=>X9 n a&&X9 n b
 | .cond _ a b=>X9 n a&&X9 n b
 | .block _ b=>X9 n b
 | .loop b=>X9 n b
 | .rangeFunc _ ps a b=>ps.toList.all (fun p=>Nat.blt p n)&&X9 n a&&X9 n b
 | .scope b=>X9 n b
 | _=>true
def Ue:VO->Bool
 | .row _ _ own=>own
 | _=>true
inductive MR (Y:Nat->Blk)(n:Nat):List (Value×Value)->List MapEntry->Prop
 |nil:MR Y n [] []
 |cons {k v:Value} {e:MapEntry} {l:List (Value×Value)} {l':List MapEntry} (hk:VR Y n k e.key) (hv:VR Y n v e.val) (r:MR Y n l l'):MR Y n ((k,v)::l) (e::l')
theorem MR.mono {Y YC:Nat->Blk}{n n':Nat}(hs:∀i,i < n->YC i=Y i)(hn:n<=n'){l:List (Value×Value)}{l':List MapEntry}(h:MR Y n l l'):MR YC n' l l':=by
 induction h with
 |nil=>exact .nil
 |cons hk hv _ ih=>exact .cons (hk.mono hs hn) (hv.mono hs hn) ih
structure RowR (Y:Nat->Blk)(n:Nat)(i:Nat)(cs:List Value)(e:Nat)(own:Bool)(w:World)(base:Nat):Prop where
 own_:(Y i).own=own
 cell:∀v∈cs,cellB v=true
 real:∃c el fr,w.heap[(Y i).b]?=some (.cells c el fr)/\(∀j v,cs[j]?=some v->∃v',c[(Y i).d+j]?=some v'/\VR Y n v v') /\
  (own=true->(Y i).e=e/\base<=(Y i).b/\(Y i).d+(Y i).N=c.size/\cs.length<=(Y i).N/\∀j,j < c.size->¬ (fr.1<=j/\j < fr.2)) /\
  (own=false->(Y i).b < base)
structure HR (G:Nat)(Y:Nat->Blk)(h:VH)(w:World)(base:Nat):Prop where
 lt:∀i o,h.get i=some o->i < h.next
 glob:G<=h.next/\∀g,g < G->(Y g).b=g/\(Y g).d=0/\(Y g).live=true
 base_:base<=w.heap.size
 row:∀i cs e own,h.get i=some (.row cs e own)->RowR Y h.next i cs e own w base
 map:∀i es,h.get i=some (.map es)->base<=(Y i).b/\∃S9 ck,w.heap[(Y i).b]?=some (.map S9 ck)/\MR Y h.next es S9.toList
 loop:∀i sl ps as bd,h.get i=some (.loop sl ps as bd)->base<=(Y i).b/\∃fn tmps dfr,
  w.heap[(Y i).b]?=some (.loop {state:=.ready,pending:=none,fn,tmps,params:=ps.toArray,assign:=as,body:=bd,defers:=dfr}) /\
   SR Y h.next sl tmps/\X9 tmps.size as=true/\X9 tmps.size bd=true/\ps.all (fun p=>Nat.blt p tmps.size)=true
 inj:∀i j oi oj,h.get i=some oi->h.get j=some oj->Ue oi=true->Ue oj=true->(Y i).b=(Y j).b->i=j
structure TR (Y:Nat->Blk)(h:VH)(w:World)(YC:Nat->Blk)(h':VH)(w':World):Prop where
 sig:∀i,i < h.next->YC i=Y i
 next:h.next<=h'.next
 wr:h'.wr<=h.wr
 old:∀i o,i < h.next->h'.get i=some o->Ue o=true->∃o0,h.get i=some o0/\Ue o0=true
 new:∀i o,h.next<=i->h'.get i=some o->Ue o=true->w.heap.size<=(YC i).b\/∃j o0,h.get j=some o0/\Ue o0=true/\h'.wr<=j/\(YC i).b=(Y j).b
 same:∀i,i < h.next->i < h'.wr->h'.get i=h.get i
 os:w'.os=w.os
 tape:w'.tape=w.tape
 output:w'.output=w.output
 size:w.heap.size<=w'.heap.size
 block:∀b,b < w.heap.size->(∀i o,h.get i=some o->Ue o=true->h'.wr<=i->(Y i).b≠b)->w'.heap[b]?=w.heap[b]?
theorem TR.refl (Y:Nat->Blk)(h:VH)(w:World)(hlt:∀i o,h.get i=some o->i < h.next):TR Y h w Y h w:=
 ⟨fun _ _=>rfl,Nat.le_refl _,Nat.le_refl _,fun i o _ h1 h2=>⟨o,h1,h2⟩,fun i o hi h1 _=>absurd (hlt i o h1) (by omega),fun _ _ _=>rfl,rfl,rfl,rfl,Nat.le_refl _,fun _ _ _=>rfl⟩
theorem TR.trans {Y YG YH:Nat->Blk}{h h1 h2:VH}{w w1 w2:World}(a:TR Y h w YG h1 w1)(b:TR YG h1 w1 YH h2 w2):TR Y h w YH h2 w2:=by
 refine⟨fun i hi=>(b.sig i (Nat.lt_of_lt_of_le hi a.next)).trans (a.sig i hi),Nat.le_trans a.next b.next,Nat.le_trans b.wr a.wr,?_,?_,?_,b.os.trans a.os,b.tape.trans a.tape,b.output.trans a.output,Nat.le_trans a.size b.size,?_⟩
 .intro i o hi ho hm;obtain⟨o1,h1,m1⟩:=b.old i o (Nat.lt_of_lt_of_le hi a.next) ho hm;exact a.old i o1 hi h1 m1
 .intro i o hi ho hm;by_cases h1i:i < h1.next
  .obtain ⟨o1,ho1,m1⟩:=b.old i o h1i ho hm;rw[b.sig i h1i];rcases a.new i o1 hi ho1 m1 with h | ⟨j,o0,x,y,z,u⟩
   .exact .inl h
   .exact .inr ⟨j,o0,x,y,Nat.le_trans b.wr z,u⟩
  .rcases b.new i o (by omega) ho hm with h | ⟨j,o1,x,y,z,u⟩
   .exact .inl (Nat.le_trans a.size h)
   .by_cases hj:j < h.next
    .obtain ⟨o0,ho0,m0⟩:=a.old j o1 hj x y;exact .inr ⟨j,o0,ho0,m0,z,by rw[u,a.sig j hj]⟩
    .rcases a.new j o1 (by omega) x y with h | ⟨j',o0,x',y',z',u'⟩
     .exact .inl (by rw[u];exact h)
     .exact .inr ⟨j',o0,x',y',Nat.le_trans b.wr z',u.trans u'⟩
 .intro i hi hw;rw[b.same i (Nat.lt_of_lt_of_le hi a.next) hw];exact a.same i hi (Nat.lt_of_lt_of_le hw b.wr)
 .intro k hk hc;rw[<- a.block k hk (fun i o ho hm hw=>hc i o ho hm (Nat.le_trans b.wr hw))];refine b.block k (Nat.lt_of_lt_of_le hk a.size) fun i o ho hm hw=>?_
  by_cases hi:i < h.next
  .obtain ⟨o0,ho0,m0⟩:=a.old i o hi ho hm;rw[a.sig i hi];exact hc i o0 ho0 m0 hw
  .rcases a.new i o (by omega) ho hm with h | ⟨j,o0,x,y,z,u⟩
   .omega
   .rw [u];exact hc j o0 x y (Nat.le_trans b.wr z)
theorem HR.move {G:Nat}{Y:Nat->Blk}{h:VH}{w w':World}{base:Nat}(H:HR G Y h w base)(hs:w.heap.size<=w'.heap.size)
  (hb:∀i o,h.get i=some o->w'.heap[(Y i).b]?=w.heap[(Y i).b]?):HR G Y h w' base where
 lt:=H.lt
 glob:=H.glob
 base_:=Nat.le_trans H.base_ hs
 row:=fun i cs e own hi=>by
  obtain⟨h1,h2,c,el,fr,h3,h4,h5,h6⟩:=H.row i cs e own hi;exact⟨h1,h2,c,el,fr,(hb i _ hi).trans h3,h4,h5,h6⟩
 map:=fun i es hi=>by
  obtain⟨h1,S9,ck,h2,h3⟩:=H.map i es hi;exact⟨h1,S9,ck,(hb i _ hi).trans h2,h3⟩
 loop:=fun i sl ps as bd hi=>by
  obtain⟨h1,fn,tmps,dfr,h2,h3⟩:=H.loop i sl ps as bd hi;exact⟨h1,fn,tmps,dfr,(hb i _ hi).trans h2,h3⟩
 inj:=H.inj
theorem HR.sub {G:Nat}{Y:Nat->Blk}{h h':VH}{w:World}{base:Nat}(H:HR G Y h w base)(hn:h'.next=h.next)(hg:∀i o,h'.get i=some o->h.get i=some o):HR G Y h' w base where
 lt:=fun i o hi=>by rw[hn];exact H.lt i o (hg i o hi)
 glob:=by rw[hn];exact H.glob
 base_:=H.base_
 row:=fun i cs e own hi=>by rw[hn];exact H.row i cs e own (hg i _ hi)
 map:=fun i es hi=>by rw[hn];exact H.map i es (hg i _ hi)
 loop:=fun i sl ps as bd hi=>by rw[hn];exact H.loop i sl ps as bd (hg i _ hi)
 inj:=fun i j oi oj hi hj=>H.inj i j oi oj (hg i _ hi) (hg j _ hj)
theorem HR.block_lt {G:Nat}{Y:Nat->Blk}{h:VH}{w:World}{base:Nat}(H:HR G Y h w base){i:Nat}{o:VO}(hi:h.get i=some o):(Y i).b < w.heap.size:=by
 cases o with
 |row cs e own=>
  obtain⟨_,_,c,el,fr,h3,_⟩:=H.row i cs e own hi;exact (Array.getElem?_eq_some_iff.1 h3).1
 |map es=>
  obtain⟨_,S9,ck,h2,_⟩:=H.map i es hi;exact (Array.getElem?_eq_some_iff.1 h2).1
 |loop sl ps as bd=>
  obtain⟨_,fn,tmps,dfr,h2,_⟩:=H.loop i sl ps as bd hi;exact (Array.getElem?_eq_some_iff.1 h2).1
def upd (Y:Nat->Blk)(i:Nat)(k:Blk):Nat->Blk:=fun j=>if j=i then k else Y j
theorem Zr (Y:Nat->Blk)(i:Nat)(k:Blk):upd Y i k i=k:=by simp[upd]
theorem Zcp (Y:Nat->Blk)(n:Nat)(k:Blk):∀i,i < n->upd Y n k i=Y i:=fun i hi=>by simp[upd,show i≠n by omega]
theorem VH.new_get (h:VH)(o:VO)(j:Nat):(h.new o).get j=if j=h.next then some o else h.get j:=by
 simp only[VH.new];by_cases e:j=h.next
 .simp [e]
 .have:Nat.beq j h.next=false:=Tt e;simp[this,e]
theorem VH.put_get (h:VH)(i:Nat)(o:Option VO)(j:Nat):(h.put i o).get j=if j=i then o else h.get j:=by
 simp only[VH.put];by_cases e:j=i
 .simp [e]
 .have:Nat.beq j i=false:=Tt e;simp[this,e]
theorem HR.new {G:Nat}{Y:Nat->Blk}{h:VH}{w w':World}{base:Nat}(H:HR G Y h w base)(o:VO)(k:Blk)(hk:∀i o,h.get i=some o->(Y i).b≠k.b)(hkb:base<=k.b)
  (hs:w.heap.size<=w'.heap.size) (Xa:∀b,b < w.heap.size->b≠k.b->w'.heap[b]?=w.heap[b]?)
  (V7:∀cs e own,o=.row cs e own->RowR (upd Y h.next k) (h.next+1) h.next cs e own w' base)
  (hmap:∀es,o=.map es->∃S9 ck,w'.heap[k.b]?=some (.map S9 ck)/\MR (upd Y h.next k) (h.next+1) es S9.toList)
  (Z8h:∀sl ps as bd,o=.loop sl ps as bd->∃fn tmps dfr,
    w'.heap[k.b]?=some (.loop {state:=.ready,pending:=none,fn,tmps,params:=ps.toArray,assign:=as,body:=bd,defers:=dfr}) /\
     SR (upd Y h.next k) (h.next+1) sl tmps/\X9 tmps.size as=true/\X9 tmps.size bd=true/\ps.all (fun p=>Nat.blt p tmps.size)=true):
  HR G (upd Y h.next k) (h.new o) w' base:=by
 have hn:(h.new o).next=h.next+1:=rfl;have hu:=Zcp Y h.next k
 have hbl:∀i o,h.get i=some o->w'.heap[(upd Y h.next k i).b]?=w.heap[(Y i).b]?:=fun i o hi=>by
  rw[hu i (H.lt i o hi)];exact Xa _ (H.block_lt hi) (hk i o hi)
 refine⟨?_,?_,Nat.le_trans H.base_ hs,?_,?_,?_,?_⟩
 .intro i o' hi;rw[VH.new_get]at hi;rw[hn];by_cases e:i=h.next
  .omega
  .simp [e]at hi;have:=H.lt i o' hi;omega
 .rw [hn];refine⟨by have:=H.glob.1;omega,fun g hg=>?_⟩;rw[hu g (by have:=H.glob.1;omega)];exact H.glob.2 g hg
 .intro i cs e own hi;rw[VH.new_get]at hi;rw[hn];by_cases e':i=h.next
  .subst e';simp at hi;exact V7 cs e own hi
  .simp [e']at hi;obtain⟨h1,h2,c,el,fr,h3,h4,h5,h6⟩:=H.row i cs e own hi;have hlt:=H.lt i _ hi;refine⟨by rw[hu i hlt];exact h1,h2,c,el,fr,(hbl i _ hi).trans h3,?_,?_,?_⟩
   .intro j v hj;obtain⟨v',h7,h8⟩:=h4 j v hj;rw[hu i hlt];exact⟨v',h7,h8.mono hu (by omega)⟩
   .rw [hu i hlt];exact h5
   .rw [hu i hlt];exact h6
 .intro i es hi;rw[VH.new_get]at hi;rw[hn];by_cases e':i=h.next
  .subst e';simp at hi;obtain⟨S9,ck,h1,h2⟩:=hmap es hi;rw[Zr];exact⟨hkb,S9,ck,h1,h2⟩
  .simp [e']at hi;obtain⟨h1,S9,ck,h2,h3⟩:=H.map i es hi;rw[hu i (H.lt i _ hi)];refine⟨h1,S9,ck,?_,h3.mono hu (by omega)⟩;have:=hbl i _ hi;rw[hu i (H.lt i _ hi)]at this;exact this.trans h2
 .intro i sl ps as bd hi;rw[VH.new_get]at hi;rw[hn];by_cases e':i=h.next
  .subst e';simp at hi;rw[Zr];exact⟨hkb,Z8h sl ps as bd hi⟩
  .simp [e']at hi;obtain⟨h1,fn,tmps,dfr,h2,h3,h4⟩:=H.loop i sl ps as bd hi;rw[hu i (H.lt i _ hi)];refine⟨h1,fn,tmps,dfr,?_,h3.mono hu (by omega),h4⟩;have:=hbl i _ hi;rw[hu i (H.lt i _ hi)]at this;exact this.trans h2
 .intro i j oi oj hi hj mi mj he;rw[VH.new_get]at hi hj;by_cases ei:i=h.next<;>by_cases ej:j=h.next
  .omega
  .simp [ej]at hj;rw[hu j (H.lt j _ hj)]at he;subst ei;rw[Zr]at he;exact absurd he.symm (hk j _ hj)
  .simp [ei]at hi;rw[hu i (H.lt i _ hi)]at he;subst ej;rw[Zr]at he;exact absurd he (hk i _ hi)
  .simp [ei]at hi;simp[ej]at hj;rw[hu i (H.lt i _ hi),hu j (H.lt j _ hj)]at he;exact H.inj i j oi oj hi hj mi mj he
theorem TR.ofNew {G:Nat}{Y:Nat->Blk}{h:VH}{w w':World}{base:Nat}(H:HR G Y h w base)(o:VO)(k:Blk)(hk:k.b=w.heap.size)
  (hs:w.heap.size<=w'.heap.size) (Xa:∀b,b < w.heap.size->w'.heap[b]?=w.heap[b]?) (h1:w'.os=w.os) (h2:w'.tape=w.tape) (h3:w'.output=w.output):
  TR Y h w (upd Y h.next k) (h.new o) w':=by
 refine⟨Zcp Y h.next k,Nat.le_succ _,Nat.le_refl _,?_,?_,?_,h1,h2,h3,hs,fun b hb _=>Xa b hb⟩
 .intro i o' hi ho hm;rw[VH.new_get]at ho;simp[show i≠h.next by omega]at ho;exact⟨o',ho,hm⟩
 .intro i o' hi ho hm;rw[VH.new_get]at ho;by_cases e:i=h.next
  .subst e;left;rw[Zr,hk];exact Nat.le_refl _
  .simp [e]at ho;have:=H.lt i _ ho;omega
 .intro i hi _;rw[VH.new_get];simp[show i≠h.next by omega]
theorem TR.ofPut {G:Nat}{Y:Nat->Blk}{h:VH}{w w':World}{base:Nat}(H:HR G Y h w base)(i:Nat)(o:VO)(hi:h.get i=some o)(hm:Ue o=true)(o':Option VO)
  (hs:w.heap.size<=w'.heap.size) (Xa:∀b,b < w.heap.size->b≠(Y i).b->w'.heap[b]?=w.heap[b]?) (h1:w'.os=w.os) (h2:w'.tape=w.tape) (h3:w'.output=w.output):
  TR Y h w Y ((h.put i o').note i) w':=by
 have hg:∀j,((h.put i o').note i).get j=if j=i then o' else h.get j:=fun j=>VH.put_get h i o' j
 have hlt:=H.lt i o hi;refine⟨fun _ _=>rfl,Nat.le_refl _,Nat.min_le_left _ _,?_,?_,?_,h1,h2,h3,hs,?_⟩
 .intro j oj hj ho hmj;rw[hg]at ho;by_cases e:j=i
  .subst e;exact⟨o,hi,hm⟩
  .simp [e]at ho;exact⟨oj,ho,hmj⟩
 .intro j oj hj ho _;rw[hg]at ho;by_cases e:j=i
  .omega
  .simp [e]at ho;have:=H.lt j _ ho;omega
 .intro j hj hw;rw[hg]
  have:j≠i:=by
   rintro rfl;have:((h.put j o').note j).wr<=j:=Nat.min_le_right _ _;omega
  simp[this]
 .intro b hb hc;exact Xa b hb (fun e=>hc i o hi hm (Nat.min_le_right _ _) e.symm)
theorem TR.reuse {G:Nat}{Y:Nat->Blk}{h:VH}{w w':World}{base:Nat}(H:HR G Y h w base)(i:Nat)(o:VO)(hi:h.get i=some o)(hm:Ue o=true)(o':VO)(k:Blk)
  (hk:k.b=(Y i).b\/w.heap.size<=k.b)
  (hs:w.heap.size<=w'.heap.size) (Xa:∀b,b < w.heap.size->b≠(Y i).b->w'.heap[b]?=w.heap[b]?) (h1:w'.os=w.os) (h2:w'.tape=w.tape) (h3:w'.output=w.output):
  TR Y h w (upd Y h.next k) (((h.put i none).note i).new o') w':=by
 have hlt:=H.lt i o hi
 have hg:∀j,(((h.put i none).note i).new o').get j=if j=h.next then some o' else if j=i then none else h.get j:=fun j=>by
  rw[VH.new_get];show (if j=h.next then _ else (h.put i none).get j)=_;rw[VH.put_get]
 have hwr:(((h.put i none).note i).new o').wr=min h.wr i:=rfl;refine⟨Zcp Y h.next k,Nat.le_succ _,by rw[hwr];exact Nat.min_le_left _ _,?_,?_,?_,h1,h2,h3,hs,?_⟩
 .intro j oj hj ho hmj;rw[hg]at ho;simp[show j≠h.next by omega]at ho;exact⟨oj,ho.2,hmj⟩
 .intro j oj hj ho hmj;rw[hg]at ho;by_cases e:j=h.next
  .subst e;rw[Zr,hwr];rcases hk with hk | hk
   .exact .inr ⟨i,o,hi,hm,Nat.min_le_right _ _,hk⟩
   .exact .inl hk
  .simp [e]at ho;have:=H.lt j _ ho.2;omega
 .intro j hj hw;rw[hg];rw[hwr]at hw;have h1:j≠i:=by omega
  simp[show j≠h.next by omega,h1]
 .intro b hb hc;exact Xa b hb (fun e=>hc i o hi hm (by rw[hwr];exact Nat.min_le_right _ _) e.symm)
theorem HR.setRow {G:Nat}{Y:Nat->Blk}{h:VH}{w w':World}{base:Nat}(H:HR G Y h w base)(i:Nat)(cs cs2:List Value)(e:Nat)(hi:h.get i=some (.row cs e true))
  (hs:w.heap.size<=w'.heap.size) (Xa:∀b,b < w.heap.size->b≠(Y i).b->w'.heap[b]?=w.heap[b]?)
  (Zkm:∀v∈cs2,cellB v=true)
  (S4:∀c el fr,w.heap[(Y i).b]?=some (.cells c el fr)->∃c2,w'.heap[(Y i).b]?=some (.cells c2 el fr)/\c2.size=c.size/\cs2.length<=(Y i).N /\
    ∀j v,cs2[j]?=some v->∃v',c2[(Y i).d+j]?=some v'/\VR Y h.next v v'):
  HR G Y ((h.put i (some (.row cs2 e true))).note i) w' base:=by
 have hg:∀j,((h.put i (some (.row cs2 e true))).note i).get j=if j=i then some (.row cs2 e true) else h.get j:=fun j=>VH.put_get h i _ j
 have hn:((h.put i (some (.row cs2 e true))).note i).next=h.next:=rfl;obtain⟨r1,r2,c,el,fr,r3,r4,r5,r6⟩:=H.row i cs e true hi;obtain⟨r5a,r5b,r5c,r5d,r5e⟩:=r5 rfl;obtain⟨c2,n1,n2,n3,n4⟩:=S4 c el fr r3
 have Yp:∀j o,j≠i->h.get j=some o->(Y j).b≠(Y i).b:=by
  intro j o hj ho he;by_cases hm:Ue o=true
  .exact hj (H.inj j i o _ ho hi hm rfl he)
  .cases o with
   |row cs' e' own=>
    simp[Ue]at hm;subst hm;obtain⟨_,_,_,_,_,_,_,_,q⟩:=H.row j cs' e' false ho;have:=q rfl;omega
   |map _=>simp[Ue]at hm
   |loop _ _ _ _=>simp[Ue]at hm
 have hbl:∀j o,j≠i->h.get j=some o->w'.heap[(Y j).b]?=w.heap[(Y j).b]?:=fun j o hj ho=>Xa _ (H.block_lt ho) (Yp j o hj ho)
 refine⟨?_,?_,Nat.le_trans H.base_ hs,?_,?_,?_,?_⟩
 .intro j o hj;rw[hg]at hj;rw[hn];by_cases e':j=i
  .subst e';exact H.lt j _ hi
  .simp [e']at hj;exact H.lt j o hj
 .rw [hn];exact H.glob
 .intro j cs' e' own hj;rw[hg]at hj;rw[hn];by_cases ej:j=i
  .subst ej;simp at hj;obtain⟨rfl,rfl,rfl⟩:=hj;refine⟨r1,Zkm,c2,el,fr,n1,n4,fun _=>⟨r5a,r5b,by rw[n2];exact r5c,n3,by rw[n2];exact r5e⟩,fun h=>by cases h⟩
  .simp [ej]at hj;obtain⟨h1,h2,c',el',fr',h3,h4⟩:=H.row j cs' e' own hj;exact⟨h1,h2,c',el',fr',(hbl j _ ej hj).trans h3,h4⟩
 .intro j es hj;rw[hg]at hj;rw[hn];by_cases ej:j=i
  .subst ej;simp at hj
  .simp [ej]at hj;obtain⟨h1,S9,ck,h2,h3⟩:=H.map j es hj;exact⟨h1,S9,ck,(hbl j _ ej hj).trans h2,h3⟩
 .intro j sl ps as bd hj;rw[hg]at hj;rw[hn];by_cases ej:j=i
  .subst ej;simp at hj
  .simp [ej]at hj;obtain⟨h1,fn,tmps,dfr,h2,h3⟩:=H.loop j sl ps as bd hj;exact⟨h1,fn,tmps,dfr,(hbl j _ ej hj).trans h2,h3⟩
 .intro a b oa ob ha hb ma mb he;rw[hg]at ha hb
  have ha':∃o,h.get a=some o/\Ue o=true:=by
   by_cases ea:a=i
   .subst ea;exact⟨_,hi,rfl⟩
   .simp [ea]at ha;exact⟨oa,ha,ma⟩
  have hb':∃o,h.get b=some o/\Ue o=true:=by
   by_cases eb:b=i
   .subst eb;exact⟨_,hi,rfl⟩
   .simp [eb]at hb;exact⟨ob,hb,mb⟩
  obtain⟨o1,x1,y1⟩:=ha';obtain⟨o2,x2,y2⟩:=hb';exact H.inj a b o1 o2 x1 x2 y1 y2 he
theorem HR.setMap {G:Nat}{Y:Nat->Blk}{h:VH}{w w':World}{base:Nat}(H:HR G Y h w base)(i:Nat)(es es2:List (Value×Value))(hi:h.get i=some (.map es))
  (hs:w.heap.size<=w'.heap.size) (Xa:∀b,b < w.heap.size->b≠(Y i).b->w'.heap[b]?=w.heap[b]?)
  (S4:∃S9 ck,w'.heap[(Y i).b]?=some (.map S9 ck)/\MR Y h.next es2 S9.toList):
  HR G Y ((h.put i (some (.map es2))).note i) w' base:=by
 have hg:∀j,((h.put i (some (.map es2))).note i).get j=if j=i then some (.map es2) else h.get j:=fun j=>VH.put_get h i _ j
 have hn:((h.put i (some (.map es2))).note i).next=h.next:=rfl;obtain⟨m1,es0,ck0,m2,m3⟩:=H.map i es hi
 have Yp:∀j o,j≠i->h.get j=some o->(Y j).b≠(Y i).b:=by
  intro j o hj ho he;by_cases hm:Ue o=true
  .exact hj (H.inj j i o _ ho hi hm rfl he)
  .cases o with
   |row cs' e' own=>
    simp[Ue]at hm;subst hm;obtain⟨_,_,_,_,_,_,_,_,q⟩:=H.row j cs' e' false ho;have:=q rfl;omega
   |map _=>simp[Ue]at hm
   |loop _ _ _ _=>simp[Ue]at hm
 have hbl:∀j o,j≠i->h.get j=some o->w'.heap[(Y j).b]?=w.heap[(Y j).b]?:=fun j o hj ho=>Xa _ (H.block_lt ho) (Yp j o hj ho)
 refine⟨?_,?_,Nat.le_trans H.base_ hs,?_,?_,?_,?_⟩
 .intro j o hj;rw[hg]at hj;rw[hn];by_cases e':j=i
  .subst e';exact H.lt j _ hi
  .simp [e']at hj;exact H.lt j o hj
 .rw [hn];exact H.glob
 .intro j cs' e' own hj;rw[hg]at hj;rw[hn];by_cases ej:j=i
  .subst ej;simp at hj
  .simp [ej]at hj;obtain⟨h1,h2,c',el',fr',h3,h4⟩:=H.row j cs' e' own hj;exact⟨h1,h2,c',el',fr',(hbl j _ ej hj).trans h3,h4⟩
 .intro j es3 hj;rw[hg]at hj;rw[hn];by_cases ej:j=i
  .subst ej;simp at hj;subst hj;obtain⟨S9,ck,n1,n2⟩:=S4;exact⟨m1,S9,ck,n1,n2⟩
  .simp [ej]at hj;obtain⟨h1,S9,ck,h2,h3⟩:=H.map j es3 hj;exact⟨h1,S9,ck,(hbl j _ ej hj).trans h2,h3⟩
 .intro j sl ps as bd hj;rw[hg]at hj;rw[hn];by_cases ej:j=i
  .subst ej;simp at hj
  .simp [ej]at hj;obtain⟨h1,fn,tmps,dfr,h2,h3⟩:=H.loop j sl ps as bd hj;exact⟨h1,fn,tmps,dfr,(hbl j _ ej hj).trans h2,h3⟩
 .intro a b oa ob ha hb ma mb he;rw[hg]at ha hb
  have ha':∃o,h.get a=some o/\Ue o=true:=by
   by_cases ea:a=i
   .subst ea;exact⟨_,hi,rfl⟩
   .simp [ea]at ha;exact⟨oa,ha,ma⟩
  have hb':∃o,h.get b=some o/\Ue o=true:=by
   by_cases eb:b=i
   .subst eb;exact⟨_,hi,rfl⟩
   .simp [eb]at hb;exact⟨ob,hb,mb⟩
  obtain⟨o1,x1,y1⟩:=ha';obtain⟨o2,x2,y2⟩:=hb';exact H.inj a b o1 o2 x1 x2 y1 y2 he
def Xd:TypeDesc->TK->Bool
 | .bool,.bool=>true
 | .int k,.int k'=>k==k'
 | .string,.str=>true
 | .pointer e,.ptr e'=>e==e'
 | .slice e,.slice e'=>e==e'
 | .array n e,.array n' e'=>n==n'&&e==e'
 | .map k e,.map k' e'=>k==k'&&e==e'
 | .struct fs,.struct gs=>fs.toList.map (fun f=>(f.offset,f.type))==gs
 | .interface _,.iface=>true
 | .func _ _ _,.func=>true
 | _,_=>false
def zeqB:Value->Value->Bool
 | .bool a,.bool b=>a==b
 | .int k a,.int k' b=>k==k'&&a==b
 | .string a,.string b=>a.data.toList==b.data.toList
 | .pointer none,.pointer none=>true
 | .slice none 0 0,.slice none 0 0=>true
 | .map none,.map none=>true
 | .nilFunc,.nilFunc=>true
 | .nilIface,.nilIface=>true
 | _,_=>false
theorem Zaby {a b:Value}(h:zeqB a b=true):a=b/\flat 1 a=true/\cellB a=true:=by
 unfold zeqB at h;split at h<;>simp_all[flat,cellB];rename_i x y;cases x;cases y
 simp_all
def Zlx:List Value->List Value->Bool
 | [],[]=>true
 |a::l,b::m=>zeqB a b&&Zlx l m
 | _,_=>false
theorem Ztk {l m:List Value}(h:Zlx l m=true):l=m/\l.all (flat 1)=true/\l.all cellB=true:=by
 induction l generalizing m with
 |nil=>cases m<;>simp_all[Zlx]
 |cons a l ih=>
  cases m with
  |nil=>simp[Zlx]at h
  |cons b m=>
   simp only[Zlx,Bool.and_eq_true]at h;obtain⟨h1,h2,h3⟩:=Zaby h.1;obtain⟨g1,g2,g3⟩:=ih h.2;simp[h1,g1]at *
   simp_all
def Zaf4 (agg:Bool)(z:Value)(l:List Value):Bool:=
 match z with
 | .agg cs=>agg&&Zlx l cs.toList
 |v=>!agg&&Zlx l [v]
def tyB (P:Program)(t:Nat)(ty:Ty):Bool:=
 (match P.underlying t with | some d=>Xd d ty.k | none=>false) &&
 (match P.info? t with
  |some i=>i.size==ty.size&&i.bytes==ty.bytes&&(match i.zero with | some z=>Zaf4 ty.k.agg z ty.zero | none=>false)
  |none=>false)&&ty.zero.length==ty.size
structure TyOk (P:Program)(t:Nat)(ty:Ty):Prop where
 und:∃d,P.underlying t=some d/\Xd d ty.k=true
 info:∃i,P.info? t=some i/\i.size=ty.size/\i.bytes=ty.bytes/\∃z,i.zero=some z/\z.cells.toList=ty.zero/\(ty.k.agg=true->z=.agg ty.zero.toArray)/\(ty.k.agg=false->ty.zero=[z])
 zlen:ty.zero.length=ty.size
 zflat:ty.zero.all (flat 1)=true
 zcell:ty.zero.all cellB=true
theorem TyOk.of {P:Program}{t:Nat}{ty:Ty}(h:tyB P t ty=true):TyOk P t ty:=by
 unfold tyB at h;simp only[Bool.and_eq_true]at h;obtain⟨⟨h1,h2⟩,h3⟩:=h;cases hu:P.underlying t with
 |none=>simp[hu]at h1
 |some d=>
  simp only[hu]at h1;cases hi:P.info? t with
  |none=>simp[hi]at h2
  |some i=>
   simp only[hi,Bool.and_eq_true,beq_iff_eq]at h2;obtain⟨⟨h4,h5⟩,h6⟩:=h2;cases hz:i.zero with
   |none=>simp[hz]at h6
   |some z=>
    simp only[hz]at h6
    have key:z.cells.toList=ty.zero/\(ty.k.agg=true->z=.agg ty.zero.toArray)/\(ty.k.agg=false->ty.zero=[z])/\ty.zero.all (flat 1)=true/\ty.zero.all cellB=true:=by
     unfold Zaf4 at h6;split at h6
     .rename_i cs;simp only[Bool.and_eq_true]at h6;obtain⟨e,g1,g2⟩:=Ztk h6.2;refine⟨by simp[Value.cells,e],fun _=>by rw[e],fun hh=>by simp[hh]at h6,g1,g2⟩
     .rename_i Yp;simp only[Bool.and_eq_true]at h6;obtain⟨e,g1,g2⟩:=Ztk h6.2;refine⟨?_,fun hh=>by simp[hh]at h6,fun _=>e,g1,g2⟩;cases z<;>first | exact absurd rfl (Yp _) | simp[Value.cells,e]
    exact⟨⟨d,hu,h1⟩,⟨i,hi,h4,h5,z,hz,key.1,key.2.1,key.2.2.1⟩,by simpa using h3,key.2.2.2.1,key.2.2.2.2⟩
section
variable {P:Program}{t:Nat}{ty:Ty}(w:World)
theorem TyOk.run_und (h:TyOk P t ty):∃d,(underlying t).run P w=.ok d w/\Xd d ty.k=true:=by
 obtain⟨d,hd,hk⟩:=h.und;exact⟨d,run_underlying hd w,hk⟩
theorem TyOk.run_info (h:TyOk P t ty):∃i,(typeInfo t).run P w=.ok i w/\i.size=ty.size/\i.bytes=ty.bytes/\∃z,i.zero=some z/\z.cells.toList=ty.zero/\(ty.k.agg=true->z=.agg ty.zero.toArray)/\(ty.k.agg=false->ty.zero=[z]):=by
 obtain⟨i,hi,r⟩:=h.info;exact⟨i,by simp[typeInfo,hi],r⟩
theorem TyOk.run_size (h:TyOk P t ty):(sizeOf t).run P w=.ok ty.size w:=by
 obtain⟨i,hi,hs,_⟩:=h.run_info w;simp[sizeOf,hi,hs]
theorem TyOk.run_zero (h:TyOk P t ty):∃z,(zeroValue t).run P w=.ok z w/\z.cells.toList=ty.zero/\(ty.k.agg=true->z=.agg ty.zero.toArray)/\(ty.k.agg=false->ty.zero=[z]):=by
 obtain⟨i,hi,_,_,z,hz,r⟩:=h.run_info w;exact⟨z,by simp[zeroValue,hi,hz],r⟩
theorem TyOk.run_agg (h:TyOk P t ty):(isAgg t).run P w=.ok ty.k.agg w:=by
 obtain⟨d,hd,hk⟩:=h.run_und w;simp only[isAgg,Sem.run_bind,hd,Result.andThen_ok];cases d<;>cases Rn:ty.k<;>simp_all[Xd,TK.agg]
end
theorem Za0 (b o n:Nat):(⟨b,o,none⟩:Addr).add n=⟨b,o+n,none⟩:=by
 unfold Addr.add;split
 .subst_vars;rfl
 .rfl
theorem cell_at {w:World}{b:Nat}{c:Array Value}{el:TypeId}{fr:Nat×Nat}(h:w.heap[b]?=some (.cells c el fr))(o:Nat):w.cell? ⟨b,o,none⟩=c[o]?:=by
 simp[World.cell?,h]
theorem Zjc {cs:List Value}{off n:Nat}{r:List Value}(h:readN cs off n=some r):r.length=n/\∀j,j < n->r[j]?=cs[off+j]?:=by
 unfold readN at h;simp only at h;split at h
 .rename_i hl;cases h;refine⟨hl,fun j hj=>?_⟩;rw[List.getElem?_take_of_lt hj,List.getElem?_drop]
 .cases h
theorem HR.load {G:Nat}{Y:Nat->Blk}{h:VH}{w:World}{base:Nat}(H:HR G Y h w base){P:Program}{i o n:Nat}{r:List Value}(hl:h.load ⟨i,o,none⟩ n=some r):
  ∃r',(∀w1:World,w1.heap=w.heap->(loadCells ⟨(Y i).b,(Y i).d+o,none⟩ n).run P w1=.ok r'.toArray w1)/\VRs Y h.next r r'/\r.length=n/\(∀v∈r,cellB v=true) /\
   (∀v,n=1->r=[v]->∃v',r'=[v']/\(Go.load ⟨(Y i).b,(Y i).d+o,none⟩).run P w=.ok v' w):=by
 unfold VH.load at hl;split at hl
 .rename_i cs e own hi;simp at hl;obtain⟨_,hc,c,el,fr,hb,hv,_⟩:=H.row i cs e own hi;obtain⟨hlen,Zk⟩:=Zjc hl
  have Sg:∀j,j < n->∃v v',r[j]?=some v/\c[(Y i).d+o+j]?=some v'/\VR Y h.next v v'/\cellB v=true:=by
   intro j hj;have h1:r[j]?=some (r[j]'(by omega)):=List.getElem?_eq_getElem _;have h2:=(Zk j hj).symm.trans h1;obtain⟨v',h3,h4⟩:=hv _ _ h2;refine⟨_,v',h1,by rw[<- Nat.add_assoc]at h3;exact h3,h4,hc _ (List.mem_of_getElem? h2)⟩
  let f:Nat->Value:=fun j=>(c[(Y i).d+o+j]?).getD undef
  have Y5:∀w1:World,w1.heap=w.heap->_:=fun w1 W4=>run_loadCells (P:=P) w1 ⟨(Y i).b,(Y i).d+o,none⟩ n f (fun j hj=>by
   obtain⟨v,v',_,h2,_⟩:=Sg j hj;rw[Za0,cell_at (by rw[W4];exact hb)];simp[f,h2])
  have hrr:VRs Y h.next r ((List.range n).map f):=by
   refine VRs.of_get (by simp[hlen]) fun j v hj=>?_
   have hjn:j < n:=by
    rw[<- hlen];exact (List.getElem?_eq_some_iff.1 hj).1
   obtain⟨u,u',h1,h2,h3,_⟩:=Sg j hjn;rw[hj]at h1;cases h1;exact⟨u',by simp[hjn,f,h2],h3⟩
  refine⟨(List.range n).map f,Y5,hrr,hlen,?_,?_⟩
  .intro v hvm;obtain⟨j,hj,rfl⟩:=List.mem_iff_getElem.1 hvm;obtain⟨u,u',h1,_,_,h4⟩:=Sg j (by omega);rw[List.getElem?_eq_getElem hj]at h1;cases h1;exact h4
  .intro v hn1 hr;subst hn1;obtain⟨u,u',h1,h2,_,_⟩:=Sg 0 (by omega);refine⟨u',by simp[f];simp at h2;rw[h2];rfl,?_⟩;simp at h2;simp[run_load,cell_at hb,h2]
 .cases hl
theorem Zi7 {Y:Nat->Blk}{n:Nat}{agg:Bool}{cs cs':List Value}{v:Value}(h:VRs Y n cs cs')(hv:toV agg cs=some v):
  ∃v',VR Y n v v'/\(agg=true->v'=.agg cs'.toArray)/\(agg=false->cs=[v]/\cs'=[v']):=by
 unfold toV at hv;cases agg with
 |true=>simp at hv;subst hv;exact⟨.agg cs'.toArray,.agg _ _ (by simpa using h),fun _=>rfl,(fun h=>by cases h)⟩
 |false=>
  simp at hv;split at hv
  .cases hv;cases h with
   |cons h r=>cases r;exact⟨_,h,(fun h=>by cases h),fun _=>⟨rfl,rfl⟩⟩
  .cases hv
theorem Zka {cs cs':List Value}{off:Nat}{vs:List Value}(h:We cs off vs=some cs'):
  cs'.length=cs.length/\off+vs.length<=cs.length+(if vs=[] then off else 0)/\∀j,cs'[j]?=if off<=j/\j < off+vs.length then vs[j - off]? else cs[j]?:=by
 induction cs generalizing off vs cs' with
 |nil=>
  cases vs with
  |nil=>simp[We]at h;subst h;exact⟨rfl,by simp,fun j=>by simp⟩
  |cons v vs=>cases off<;>simp[We]at h
 |cons c cs ih=>
  cases vs with
  |nil=>cases off<;>(simp[We]at h;subst h;exact⟨rfl,by simp,fun j=>by rw[if_neg (by simp)]⟩)
  |cons v vs=>
   cases off with
   |zero=>
    simp only[We,Option.map_eq_some_iff]at h;obtain⟨d,hd,rfl⟩:=h;obtain⟨h1,h2,h3⟩:=ih hd;refine⟨by simp[h1],?_,fun j=>?_⟩
    .by_cases e:vs=[]<;>simp[e]at h2 ⊢<;>omega
    .cases j with
     |zero=>simp
     |succ j=>
      simp only[List.getElem?_cons_succ,h3,List.length_cons];by_cases hj:j < vs.length
      .rw [if_pos ⟨Nat.zero_le _,by omega⟩,if_pos ⟨Nat.zero_le _,by omega⟩];simp
      .rw [if_neg (by omega),if_neg (by omega)]
   |succ off=>
    simp only[We,Option.map_eq_some_iff]at h;obtain⟨d,hd,rfl⟩:=h;obtain⟨h1,h2,h3⟩:=ih hd;refine⟨by simp[h1],?_,fun j=>?_⟩
    .simp at h2 ⊢;omega
    .cases j with
     |zero=>simp
     |succ j=>
      simp only[List.getElem?_cons_succ,h3,List.length_cons];by_cases hj:off<=j/\j < off+(vs.length+1)
      .rw [if_pos hj,if_pos (by omega),show j+1 - (off+1)=j - off by omega]
      .rw [if_neg hj,if_neg (by omega)]
theorem Uz {P:Program}(b o:Nat)(el:TypeId)(fr:Nat×Nat):∀(vs:List Value) (i:Nat) (c:Array Value) (w:World),w.heap[b]?=some (.cells c el fr) ->
  (∀j,j < c.size->¬ (fr.1<=j/\j < fr.2))->o+i+vs.length<=c.size->(∀v∈vs,v.oneCell'=true) ->
  ∃c2 w2,(storeCells ⟨b,o,none⟩ vs i).run P w=.ok () w2/\w2.heap[b]?=some (.cells c2 el fr)/\c2.size=c.size/\(∀j,c2[j]?=if o+i<=j/\j < o+i+vs.length then vs[j - (o+i)]? else c[j]?) /\
   w2.heap.size=w.heap.size/\(∀k,k≠b->w2.heap[k]?=w.heap[k]?)/\w2.os=w.os/\w2.tape=w.tape/\w2.output=w.output
 | [],i,c,w,hb,_,_,_=>⟨c,w,by simp[storeCells],hb,rfl,fun j=>by rw[if_neg (by simp)],rfl,fun _ _=>rfl,rfl,rfl,rfl⟩
 |v::vs,i,c,w,hb,hf,hl,h1=>by
  simp only[List.length_cons]at hl;have hlt:o+i < c.size:=by omega
  have Zkm:w.cell? ⟨b,o+i,none⟩=some c[o+i]:=by rw[cell_at hb];exact Array.getElem?_eq_getElem hlt
  have hfz:w.frozen? ⟨b,o+i,none⟩=false:=by
   have:=hf (o+i) hlt;simp only[World.frozen?,hb];simp;omega
  have Xr:(store ⟨b,o+i,none⟩ v).run P w=.ok () (w.setCell ⟨b,o+i,none⟩ v):=by
   rw[run_store P w _ v .plain (h1 v (by simp)),Zkm];simp[hfz]
  have hb2:(w.setCell ⟨b,o+i,none⟩ v).heap[b]?=some (.cells (c.setIfInBounds (o+i) v) el fr):=by
   simp[World.setCell,Array.getElem?_modify,hb]
  obtain⟨c2,w2,r1,r2,r3,r4,r5,r6,r7,r8,r9⟩:=Uz (P:=P) b o el fr vs (i+1) (c.setIfInBounds (o+i) v) _ hb2
   (by simpa using hf) (by simpa using (by omega:o+(i+1)+vs.length<=c.size)) (fun u hu=>h1 u (by simp[hu]))
  refine⟨c2,w2,?_,r2,by simpa using r3,fun j=>?_,by simpa[World.setCell]using r5,fun k hk=>?_,r7,r8,r9⟩
  .simp only [storeCells,Za0,Sem.run_bind,Xr,Result.andThen_ok,r1]
  .rw [r4];simp only[List.length_cons];by_cases e:j=o+i
   .subst e;rw[if_neg (by omega),if_pos (by omega)];simp[hlt]
   .by_cases hj:o+(i+1)<=j/\j < o+(i+1)+vs.length
    .rw [if_pos hj,if_pos (by omega),show j - (o+i)=(j - (o+(i+1)))+1 by omega];simp
    .rw [if_neg hj,if_neg (by omega),Array.getElem?_setIfInBounds_ne (Ne.symm e)]
  .rw [r6 k hk];exact Below.heap_setCell w ⟨b,o+i,none⟩ v k hk
structure Holds (G:Nat)(Y:Nat->Blk)(h:VH)(w:World)(base:Nat)(v:Value)(h':VH)(YC:Nat->Blk)(w':World)(v':Value):Prop where
 hr:HR G YC h' w' base
 vr:VR YC h'.next v v'
 tr:TR Y h w YC h' w'
def Zgw (P:Program)(G:Nat)(Y:Nat->Blk)(h:VH)(w:World)(base:Nat)(s:Sem Next)(v:Value)(h':VH):Prop:=
 ∃YC w' v' nx,s.run P w=.ok nx w'/\(nx=.value v'\/(nx=.skip/\v'=undef))/\Holds G Y h w base v h' YC w' v'
theorem Zgw.same {P:Program}{G:Nat}{Y:Nat->Blk}{h:VH}{w:World}{base:Nat}{s:Sem Next}{v v':Value}(H:HR G Y h w base)(hs:s.run P w=.ok (.value v') w)(hv:VR Y h.next v v'):
  Zgw P G Y h w base s v h:=⟨Y,w,v',_,hs,.inl rfl,H,hv,TR.refl Y h w H.lt⟩
section
variable {C:Ctx}{Y:Nat->Blk}{h:VH}{w:World}{base:Nat}{sl:SL}{a:Act}
theorem Zs (H:HR C.G Y h w base)(S:SR Y h.next sl a.tmps){x:Operand}{v:Value}(hx:opd C sl x=some v):VR Y h.next v (a.eval x):=by
 cases x with
 |tmp t=>
  simp only[opd]at hx;obtain⟨v',h1,h2⟩:=S t v hx;simp[Act.eval,h1,h2]
 |const c=>
  simp only[opd]at hx;split at hx
  .cases hx;exact VR.of_flat 4 _ (by assumption)
  .cases hx
 |global g=>
  simp only[opd]at hx;split at hx
  .rename_i hg;cases hx;obtain⟨h1,h2,h3⟩:=H.glob.2 g hg;have:=VR.ptr (Y:=Y) (n:=h.next) g 0 ⟨Nat.lt_of_lt_of_le hg H.glob.1,h3⟩;rw[h1,h2]at this;exact this
  .cases hx
 |func f=>
  simp only[opd]at hx;cases hx;exact .fn f #[] #[] #[] #[] .nil .nil
theorem Zaj (H:HR C.G Y h w base)(S:SR Y h.next sl a.tmps):∀ {xs:List Operand} {vs:List Value},opds C sl xs=some vs->VRs Y h.next vs (xs.map a.eval)
 | [],vs,hx=>by simp[opds]at hx;subst hx;exact .nil
 |x::r,vs,hx=>by
  simp only[opds]at hx;split at hx
  .rename_i v us h1 h2;cases hx;exact .cons (Zs H S h1) (Zaj H S h2)
  .cases hx
end
def Yj (P:Program)(G:Nat)(Y:Nat->Blk)(h:VH)(w:World)(base:Nat)(s:Sem Value)(v:Value)(h':VH):Prop:=
 ∃YC w' v',s.run P w=.ok v' w'/\Holds G Y h w base v h' YC w' v'
def Z2d (P:Program)(G:Nat)(Y:Nat->Blk)(h:VH)(w:World)(base:Nat)(s:Sem Unit)(h':VH):Prop:=
 ∃YC w',s.run P w=.ok () w'/\HR G YC h' w' base/\TR Y h w YC h' w'
section
variable {P:Program}{G:Nat}{Y:Nat->Blk}{h h':VH}{w:World}{base:Nat}{v:Value}
theorem Yj.done {s:Sem Value}(hs:Yj P G Y h w base s v h'):Zgw P G Y h w base (do pure (.value (<- s))) v h':=by
 obtain⟨YC,w',v',hr,hh⟩:=hs;exact⟨YC,w',v',.value v',by simp[hr],.inl rfl,hh⟩
theorem Z2d.done {s:Sem Unit}(hs:Z2d P G Y h w base s h'):Zgw P G Y h w base (do s;pure .skip) (.tuple #[]) h':=by
 obtain⟨YC,w',hr,h1,h2⟩:=hs;exact⟨YC,w',undef,.skip,by simp[hr],.inr ⟨rfl,rfl⟩,h1,.tuple _ _ .nil,h2⟩
theorem Yj.same {s:Sem Value}{v':Value}(H:HR G Y h w base)(hs:s.run P w=.ok v' w)(hv:VR Y h.next v v'):Yj P G Y h w base s v h:=
 ⟨Y,w,v',hs,H,hv,TR.refl Y h w H.lt⟩
theorem Qt (H:HR G Y h w base)(cs:List Value)(e:Nat){w':World}{c:Array Value}{el:TypeId}{fr:Nat×Nat}(hc:∀u∈cs,cellB u=true)
  (hv:∀(j:Nat) (u:Value),cs[j]?=some u->∃u',c[j]?=some u'/\VR Y h.next u u') (hl:cs.length<=c.size)
  (hb:w'.heap[w.heap.size]?=some (.cells c el fr)) (hf:∀j,j < c.size->¬ (fr.1<=j/\j < fr.2)) (hs:w.heap.size<=w'.heap.size)
  (Xa:∀b,b < w.heap.size->w'.heap[b]?=w.heap[b]?) (h1:w'.os=w.os) (h2:w'.tape=w.tape) (h3:w'.output=w.output):
  HR G (upd Y h.next ⟨w.heap.size,0,c.size,e,true,true⟩) (h.new (.row cs e true)) w' base/\TR Y h w (upd Y h.next ⟨w.heap.size,0,c.size,e,true,true⟩) (h.new (.row cs e true)) w':=by
 refine⟨HR.new H _ _ (fun i o hi e=>by have:=H.block_lt hi;simp at e;omega) H.base_ hs (fun b hb _=>Xa b hb) ?_ (fun es e=>by cases e) (fun _ _ _ _ e=>by cases e),TR.ofNew H _ _ rfl hs Xa h1 h2 h3⟩;intro cs' e' own he;cases he;refine⟨by simp[Zr],hc,c,el,fr,by simpa[Zr]using hb,fun j u hj=>?_,fun _=>⟨by simp[Zr],by simpa[Zr]using H.base_,by simp[Zr],by simpa[Zr]using hl,hf⟩,fun h=>by cases h⟩;obtain⟨u',g1,g2⟩:=hv j u hj;exact⟨u',by simpa[Zr]using g1,g2.mono (Zcp Y h.next _) (Nat.le_succ _)⟩
theorem Zaf (w:World)(o:Obj)(d:Nat):({w with heap:=w.heap.push o,drawn:=d}:World).heap[w.heap.size]?=some o:=by simp
theorem Uk (w:World)(o:Obj)(d:Nat):∀b,b < w.heap.size->({w with heap:=w.heap.push o,drawn:=d}:World).heap[b]?=w.heap[b]?:=by
 intro b hb;simp[Array.getElem?_push,show b≠w.heap.size by omega]
theorem Zaf2 {n:Nat}{l l':List Value}(h:VRs Y n l l'):∀(j:Nat) (u:Value),l[j]?=some u->∃u',l'.toArray[j]?=some u'/\VR Y n u u':=fun j u hj=>by
 obtain⟨u',g1,g2⟩:=h.get hj;exact⟨u',by simpa using g1,g2⟩
theorem VR.cells {n:Nat}{u u':Value}(hv:VR Y n u u'):VRs Y n u.cells.toList u'.cells.toList:=by
 cases hv<;>first
  | (simp only[Value.cells];assumption)
  | (simp only[Value.cells];exact .cons (by constructor<;>assumption) .nil)
theorem Z0k (k:Blk)(hk:k.live=true:=by rfl):VR (upd Y h.next k) (h.next+1) (.pointer (some ⟨h.next,0,none⟩)) (.pointer (some ⟨k.b,k.d,none⟩)):=by
 have:=VR.ptr (Y:=upd Y h.next k) (n:=h.next+1) h.next 0 ⟨Nat.lt_succ_self _,by rw[Zr];exact hk⟩;simpa[Zr]using this
theorem T8 (k:Blk)(len cap W1:Nat)(hl:len<=W1)(hb:k.own=true->W1*k.e<=k.N)(hk:k.live=true:=by rfl):VR (upd Y h.next k) (h.next+1) (.slice (some ⟨h.next,0,none⟩) len cap) (.slice (some ⟨k.b,k.d,none⟩) len W1):=by
 have:=VR.slice (Y:=upd Y h.next k) (n:=h.next+1) h.next 0 len cap W1 ⟨Nat.lt_succ_self _,by rw[Zr];exact hk⟩ hl (by simpa[Zr]using hb);simpa[Zr]using this
theorem Zw5 {t:Nat}{ty:Ty}(H:HR G Y h w base)(ht:TyOk P t ty):
  Yj P G Y h w base (Instr.alloc t true (.tuple #[])) (.pointer (some ⟨h.next,0,none⟩)) (h.new (.row ty.zero ty.size true)):=by
 obtain⟨z,hz,hz2,_⟩:=ht.run_zero w;have hlen:ty.zero.length<=z.cells.size:=by rw[<- hz2];simp
 have:=Qt H ty.zero ty.size (w':={w with heap:=w.heap.push (.cells z.cells t)}) (c:=z.cells) (el:=t) (fr:=(0,0)) (fun u hu=>List.all_eq_true.1 ht.zcell u hu)
  (fun j u hj=>⟨u,by rw[<- hz2]at hj;simpa using hj,VR.of_flat 1 u (List.all_eq_true.1 ht.zflat u (List.mem_of_getElem? hj))⟩) hlen (by simp) (by simp) (by simp) (fun b hb=>Uk w _ w.drawn b hb) rfl rfl rfl
 refine⟨_,_,_,?_,this.1,Z0k _,this.2⟩;simp[Instr.alloc,hz,newVar,newRow]
theorem Z98 {t:Nat}{u u':Value}(H:HR G Y h w base)(hv:VR Y h.next u u')(hc:u.cells.toList.all cellB=true):
  Yj P G Y h w base (Instr.box t u') (.pointer (some ⟨h.next,0,none⟩)) (h.new (.row u.cells.toList u.cells.toList.length true)):=by
 have hcs:=hv.cells;have hlen:=hcs.length
 have:=Qt H u.cells.toList u.cells.toList.length (w':={w with heap:=w.heap.push (.cells u'.cells t)}) (c:=u'.cells) (el:=t) (fr:=(0,0)) (fun x hx=>List.all_eq_true.1 hc x hx)
  (fun j x hj=>by obtain⟨y,g1,g2⟩:=hcs.get hj;exact⟨y,by simpa using g1,g2⟩) (by simp at hlen ⊢;omega) (by simp) (by simp) (by simp) (fun b hb=>Uk w _ w.drawn b hb) rfl rfl rfl
 refine⟨_,_,_,?_,this.1,Z0k _,this.2⟩;simp[Instr.box,newVar,newRow]
theorem Zacy {t:Nat}{ty:Ty}{i o:Nat}{r:List Value}{v:Value}(H:HR G Y h w base)(ht:TyOk P t ty)(hl:h.load ⟨i,o,none⟩ ty.size=some r)(hv:toV ty.k.agg r=some v):
  Yj P G Y h w base (Instr.loadAt t (.pointer (some ⟨(Y i).b,(Y i).d+o,none⟩))) v h:=by
 obtain⟨r',h1,h2,h3,h4,h5⟩:=H.load (P:=P) hl;obtain⟨v',g1,g2,g3⟩:=Zi7 h2 hv;refine Yj.same H ?_ g1;simp only[Instr.loadAt,Instr.sureAddr,loadVar,Sem.run_bind,Sem.run_pure,Result.andThen_ok,ht.run_agg w];cases Zjw:ty.k.agg with
 |true=>simp[ht.run_size w,h1 w rfl,g2 Zjw]
 |false=>
  obtain⟨e1,e2⟩:=g3 Zjw;have hsz:ty.size=1:=by rw[<- h3,e1];rfl
  obtain⟨u',e3,e4⟩:=h5 v hsz e1;rw[e2]at e3;cases e3;simpa using e4
theorem Z6e {t:Nat}{ty:Ty}{i o:Nat}{u u':Value}(H:HR G Y h w base)(ht:TyOk P t ty)(hv:VR Y h.next u u')(hsz:u.cells.size=ty.size){h2:VH}(Xr:h.store ⟨i,o,none⟩ u.cells.toList=some h2):
  Z2d P G Y h w base (Instr.storeAt t (.pointer (some ⟨(Y i).b,(Y i).d+o,none⟩)) u') h2:=by
 unfold VH.store at Xr;split at Xr
 .rename_i cs e hi;split at Xr
  .rename_i hall;split at Xr
   .rename_i cs2 hw;cases Xr;obtain⟨g1,g2,g3⟩:=Zka hw;dsimp only at g2 g3;have hcs:=hv.cells;have hlen:=hcs.length;obtain⟨r1,r2,c,el,fr,r3,r4,r5,_⟩:=H.row i cs e true hi;obtain⟨r5a,r5b,r5c,r5d,r5e⟩:=r5 rfl;simp only[Bool.and_eq_true]at hall
    have Zvt:∀x∈u'.cells.toList,x.oneCell'=true:=by
     intro x hx;obtain⟨j,hj,rfl⟩:=List.mem_iff_getElem.1 hx;have hj2:j < u.cells.toList.length:=by omega
     obtain⟨y,y1,y2⟩:=hcs.get (List.getElem?_eq_getElem hj2);rw[List.getElem?_eq_getElem hj]at y1;cases y1;exact y2.cellB (List.all_eq_true.1 hall.1 _ (List.getElem_mem hj2))
    by_cases Zgp:u.cells.toList=[]
    ·
     have Znd:u'.cells.toList=[]:=by
      have:u'.cells.toList.length=0:=by rw[hlen,Zgp];rfl
      exact List.eq_nil_of_length_eq_zero this
     have hcs2:cs2=cs:=by rw[Zgp]at hw;cases cs<;>cases o<;>simp[We]at hw<;>first | exact hw.symm | exact hw
     subst hcs2;refine⟨Y,w,?_,?_,?_⟩
     .simp only [Instr.storeAt,Instr.sureAddr,storeVar,Sem.run_bind,Sem.run_pure,Result.andThen_ok,ht.run_size w];have:u'.cells.size=ty.size:=by rw[<- hsz];simpa using hlen
      simp[this,Znd,storeCells]
     .exact HR.setRow H i cs2 cs2 e hi (Nat.le_refl _) (fun _ _ _=>rfl) r2 (fun c' el' fr' hb=>⟨c',hb,rfl,r5d,by rw[r3]at hb;cases hb;exact r4⟩)
     .exact TR.ofPut H i _ hi rfl _ (Nat.le_refl _) (fun _ _ _=>rfl) rfl rfl rfl
    .rw [if_neg Zgp]at g2;have Za04:=hlen;have hfit:(Y i).d+o+0+u'.cells.toList.length<=c.size:=by omega
     obtain⟨c2,w2,s1,s2,s3,s4,s5,s6,s7,s8,s9⟩:=Uz (P:=P) (Y i).b ((Y i).d+o) el fr u'.cells.toList 0 c w r3 r5e hfit Zvt;refine⟨Y,w2,?_,?_,?_⟩
     .simp only [Instr.storeAt,Instr.sureAddr,storeVar,Sem.run_bind,Sem.run_pure,Result.andThen_ok,ht.run_size w];have:u'.cells.size=ty.size:=by rw[<- hsz];simpa using hlen
      simp[this,s1]
     .refine HR.setRow H i cs cs2 e hi (by omega) (fun b _ Yp=>s6 b Yp) ?_ ?_
      .intro x hx;obtain⟨j,hj,rfl⟩:=List.mem_iff_getElem.1 hx;have:=g3 j;rw[List.getElem?_eq_getElem hj]at this;by_cases Uv:o<=j/\j < o+u.cells.toList.length
       .rw [if_pos Uv]at this;exact List.all_eq_true.1 hall.1 _ (List.mem_of_getElem? this.symm)
       .rw [if_neg Uv]at this;exact r2 _ (List.mem_of_getElem? this.symm)
      .intro c' el' fr' hb;rw[r3]at hb;cases hb;refine⟨c2,s2,s3,by rw[g1];exact r5d,fun j x hj=>?_⟩;rw[g3]at hj;rw[s4];simp only[Nat.add_zero];by_cases Uv:o<=j/\j < o+u.cells.toList.length
       .rw [if_pos Uv]at hj;obtain⟨y,y1,y2⟩:=hcs.get hj;rw[if_pos (by omega),show (Y i).d+j - ((Y i).d+o)=j - o by omega];exact⟨y,y1,y2⟩
       .rw [if_neg Uv]at hj;obtain⟨y,y1,y2⟩:=r4 j x hj;rw[if_neg (by omega)];exact⟨y,y1,y2⟩
     .exact TR.ofPut H i _ hi rfl _ (by omega) (fun b _ Yp=>s6 b Yp) s7 s8 s9
   .cases Xr
  .cases Xr
 .cases Xr
end
theorem Zqf (Zjl:Nat):∀(r c:Nat),c<=Zjl+(Zjl+768) / 4->Builtin.growBy Zjl r c<=Zjl+(Zjl+768) / 4
 | 0,c,h=>h
 |r+1,c,h=>by
  unfold Builtin.growBy;split
  .exact h
  .exact Zqf Zjl r _ (by omega)
theorem nextslicecap_le (need cap:Nat)(h:cap < need):Builtin.nextslicecap need cap<=2*need+1000:=by
 unfold Builtin.nextslicecap;split
 .omega
 .split
  .omega
  .have:=Zqf need 4 cap (by omega);omega
section
variable {P:Program}{G:Nat}{Y:Nat->Blk}{h h':VH}{w:World}{base:Nat}{v:Value}
theorem Zn2 (H:HR G Y h w base){size n:Nat}{x x':Value}{xs:List Value}(hv:VR Y h.next x x')(hn:Zro x=some n)(hx:h.elems size x=some xs):
  ∃xs',(∀w1:World,w1.heap=w.heap->(Builtin.firstCells size n x').run P w1=.ok xs'.toArray w1)/\VRs Y h.next xs xs'/\(∀u∈xs,cellB u=true)/\xs.length=n*(match x with | .string _=>1 | _=>size)/\(∀w1:World,(Builtin.lenOf x').run P w1=.ok n w1):=by
 cases hv<;>simp only[Zro]at hn<;>try cases hn
 ·
  rename_i s;simp only[VH.elems,Option.some.injEq]at hx;subst hx;refine⟨s.data.toList.map fun b=>.int .u8 b.toNat,fun w1 _=>?_,VRs.of_flat 0 _ (List.all_eq_true.2 fun x hx=>by obtain⟨b,_,rfl⟩:=List.mem_map.1 hx;rfl),by simp[cellB],by simp,by simp[Builtin.lenOf]⟩;simp only[Builtin.firstCells,Sem.run_pure,Result.ok.injEq,and_true];rw[Lib.whole_piece];apply Array.toList_inj.1;simp
 .simp only [VH.elems,Option.some.injEq]at hx;subst hx;exact⟨[],by simp[Builtin.firstCells],.nil,by simp,by simp,by simp[Builtin.lenOf]⟩
 .rename_i i o cap W1 hlt hl hb;simp only[VH.elems]at hx;obtain⟨r',h1,h2,h3,h4,_⟩:=H.load (P:=P) hx;exact⟨r',fun w1 W4=>by simp only[Builtin.firstCells];exact h1 w1 W4,h2,h4,by simpa using h3,by simp[Builtin.lenOf]⟩
 .rename_i i o o' cap hlt;simp only[VH.elems]at hx;obtain⟨r',h1,h2,h3,h4,_⟩:=H.load (P:=P) hx;have hr:xs=[]:=List.eq_nil_of_length_eq_zero (by simpa using h3);subst hr;exact⟨[],fun w1 W4=>by simp[Builtin.firstCells,loadCells,loadCellsFrom],.nil,by simp,by simp,by simp[Builtin.lenOf]⟩
theorem Sl (z:Array Value)(n:Nat):(Builtin.zeroCells z n).size=n*z.size:=by simp[Builtin.zeroCells]
theorem HR.others (H:HR G Y h w base){i:Nat}{o:VO}(hi:h.get i=some o)(hm:Ue o=true){j:Nat}{oj:VO}(hj:j≠i)(ho:h.get j=some oj):(Y j).b≠(Y i).b:=by
 intro he;by_cases hmj:Ue oj=true
 .exact hj (H.inj j i oj o ho hi hmj hm he)
 .have Zahf:base<=(Y i).b:=by
   cases o with
   |row cs e own=>
    simp[Ue]at hm;subst hm;obtain⟨_,_,_,_,_,_,_,q,_⟩:=H.row i cs e true hi;exact (q rfl).2.1
   |map es=>exact (H.map i es hi).1
   |loop a b c d=>exact (H.loop i a b c d hi).1
  cases oj with
  |row cs e own=>
   simp[Ue]at hmj;subst hmj;obtain⟨_,_,_,_,_,_,_,_,q⟩:=H.row j cs e false ho;have:=q rfl;omega
  |map _=>simp[Ue]at hmj
  |loop _ _ _ _=>simp[Ue]at hmj
theorem Zga {argTypes:Array TypeId}{t0 t1 e:TypeId}{ty ty0 ty1:Ty}{ret:TypeId}{bs:Option Addr}{sl sc n:Nat}{x':Value}(h0:argTypes[0]?=some t0)(h1:argTypes[1]?=some t1)(hT0:TyOk P t0 ty0)(hk0:ty0.k=.slice e)
  (hT1:TyOk P t1 ty1) (hk1:∀k,ty1.k≠.int k) (hT:TyOk P e ty) (hn:(Builtin.lenOf x').run P w=.ok n w) (hsz:sl+n<=maxLenV) (hby:ty.bytes<=2^16) (Tz:0 < ty.size) {xs' Zjj:List Value}
  (hx:∀w1:World,w1.heap=w.heap->(Builtin.firstCells ty.size n x').run P w1=.ok xs'.toArray w1) (ho:∀w1:World,w1.heap=w.heap->(Builtin.firstCells ty.size sl (.slice bs sl sc)).run P w1=.ok Zjj.toArray w1):
  (Builtin.append_ argTypes ret #[.slice bs sl sc,x']).run P w =
    if sl+n<=sc then
     (match bs with
       |some a=>((storeCells (a.add (sl*ty.size)) xs').run P w).andThen fun _ w'=>.ok (.slice bs (sl+n) sc) w'
       |none=>.ok (.slice bs (sl+n) sc) w)
    else
     let Z64:=(Question.appendCap (sl+n) sc e).cut (w.tape w.drawn (.appendCap (sl+n) sc e))
     .ok (.slice (some ⟨w.heap.size,0,none⟩) (sl+n) Z64) {w with heap:=w.heap.push (.cells (Zjj.toArray++xs'.toArray++Builtin.zeroCells ty.zero.toArray (Z64 - (sl+n))) e),drawn:=w.drawn+1}:=by
 obtain⟨d0,u0,k0⟩:=hT0.run_und w;obtain⟨d1,u1,k1⟩:=hT1.run_und w;rw[hk0]at k0
 have hd0:d0=.slice e:=by
  cases d0<;>simp[Xd]at k0;rw[k0]
 subst hd0;obtain⟨i,hi,hi1,hi2,z,hz1,hz2,_⟩:=hT.run_info w;have Zbs:z.cells=ty.zero.toArray:=by rw[<- hz2]
 unfold maxLenV at hsz;have Z8f:¬ ((sl+n:Nat):Int) > IntKind.i64.max:=by simp[IntKind.max,IntKind.bits,IntKind.signed];omega
 simp only[Builtin.append_,h0,h1,List.getElem?_toArray,List.getElem?_cons_zero,List.getElem?_cons_succ,Sem.run_bind,u0,u1,Result.andThen_ok,hT.run_size w,Sem.run_pure];rw[if_neg]
 rotate_left
 .cases d1<;>simp;rename_i k;cases Rn:ty1.k<;>simp[Xd,Rn]at k1;rename_i k';exact hk1 k' Rn
 have Zvx:∀k,d1≠.int k:=by
  intro k hk;subst hk;cases Rn:ty1.k<;>simp[Xd,Rn]at k1;rename_i k';exact hk1 k' Rn
 simp only[Sem.run_bind,hn,Result.andThen_ok];by_cases Zef:sl+n<=sc
 .rw [if_pos Zef,if_pos Zef,Sem.run_bind,if_pos]
  rotate_left
  .cases d1<;>first | rfl | exact absurd rfl (Zvx _)
  rw[hx w rfl,Result.andThen_ok];cases bs with
  |none=>simp
  |some a=>simp
 .rw [if_neg Zef,if_neg Zef];have Z8z:=nextslicecap_le (sl+n) sc (by omega)
  have Zc0:¬ Builtin.nextslicecap (sl+n) sc*i.bytes > 2^48:=by
   rw[hi2];have h1:Builtin.nextslicecap (sl+n) sc*ty.bytes<=(2*2^30+1000)*2^16:=Nat.mul_le_mul (by omega) hby;omega
  simp only[Sem.run_bind,hi,Result.andThen_ok];rw[if_neg (show ¬ (_/\_) from fun hh=>Z8f hh.1)];simp only[Sem.run_bind,hi,Result.andThen_ok];rw[if_neg Zc0];simp only[Sem.run_bind,hi,Result.andThen_ok,run_choose,Question.forced,Bool.false_eq_true,if_false,run_askRoom];obtain⟨w1,W4⟩:∃w1:World,w1={w with drawn:=w.drawn+1}:=⟨_,rfl⟩
  have hh:w1.heap=w.heap:=by rw[W4]
  rw[<- W4];obtain⟨i1,hi1',_⟩:=hT.run_info w1;obtain⟨z1,hz1',hz2',_⟩:=hT.run_zero w1;have Zbs:z1.cells=ty.zero.toArray:=by rw[<- hz2']
  simp only[hi1',Result.andThen_ok,run_askRoom,ho w1 hh];rw[if_pos]
  rotate_left
  .first | rfl | (cases d1<;>first | rfl | exact absurd rfl (Zvx _))
  simp only[hx w1 hh,Result.andThen_ok,hz1',newRow,Sem.run_bind,run_newObj,Sem.run_pure,Zbs];rw[W4]
theorem Zqy {argTypes:Array TypeId}{t0 t1 e:TypeId}{ty ty0 ty1:Ty}{ret:TypeId}{s s' x x':Value}{h2:VH}(H:HR G Y h w base)(h0:argTypes[0]?=some t0)(h1:argTypes[1]?=some t1)(hT0:TyOk P t0 ty0)(hk0:ty0.k=.slice e)
  (hT1:TyOk P t1 ty1) (hk1:∀k,ty1.k≠.int k) (hT:TyOk P e ty) (hs:VR Y h.next s s') (hx:VR Y h.next x x') (ha:Us h ty s x=some (v,h2)) (hu8:∀b,x=.string b->ty.size=1):
  Yj P G Y h w base (Builtin.append_ argTypes ret #[s',x']) v h2:=by
 unfold Us at ha;split at ha
 .rename_i bs sl scv n xs old hn hxs Xa;split at ha
  .rename_i Wm;obtain⟨hsz,hby,Tz⟩:=Wm;obtain⟨xs',ex1,ex2,ex3,ex4,ex5⟩:=Zn2 (P:=P) H hx hn hxs;obtain⟨Zjj,eo1,eo2,eo3,eo4,_⟩:=Zn2 (P:=P) H hs (show Zro _=some sl by rfl) Xa
   have hxl:xs.length=n*ty.size:=by
    rw[ex4];cases x<;>first | rfl | (rw[hu8 _ rfl])
   have hol:old.length=sl*ty.size:=by simpa using eo4
   have Z7x:=ex2.length;have hol':=eo2.length
   have Zvt:∀u∈xs',u.oneCell'=true:=by
    intro u hu;obtain⟨j,hj,rfl⟩:=List.mem_iff_getElem.1 hu;have hj2:j < xs.length:=by omega
    obtain⟨y,y1,y2⟩:=ex2.get (List.getElem?_eq_getElem hj2);rw[List.getElem?_eq_getElem hj]at y1;cases y1;exact y2.cellB (ex3 _ (List.getElem_mem hj2))
   have hall:∀u∈old++xs,cellB u=true:=by
    intro u hu;rcases List.mem_append.1 hu with hu | hu
    .exact eo3 u hu
    .exact ex3 u hu
   cases hs with
   |nilslice=>
    have Zgp:old=[]:=List.eq_nil_of_length_eq_zero (by simpa using hol);have Znd:Zjj=[]:=List.eq_nil_of_length_eq_zero (by rw[hol',Zgp];rfl);have Y5:=Zga (ret:=ret) h0 h1 hT0 hk0 hT1 hk1 hT (ex5 w) hsz hby Tz ex1 eo1;dsimp only at ha;by_cases hn0:n=0
    .subst hn0;simp at ha;obtain⟨rfl,rfl⟩:=ha;refine Yj.same H ?_ .nilslice;rw[Y5];simp
    .simp only [hn0,if_false]at ha;cases ha;rw[if_neg (by omega)]at Y5;dsimp only at Y5;have hge:n<=(Question.appendCap (0+n) 0 e).cut (w.tape w.drawn (.appendCap (0+n) 0 e)):=by simp[Question.cut]
     generalize (Question.appendCap (0+n) 0 e).cut (w.tape w.drawn (.appendCap (0+n) 0 e))=cap at Y5 hge
     have Zjv:(Zjj.toArray++xs'.toArray++Builtin.zeroCells ty.zero.toArray (cap - (0+n))).size=cap*ty.size:=by
      simp only[Array.size_append,List.size_toArray,Sl,Znd,hT.zlen,Z7x,hxl,List.length_nil,Nat.zero_add,<- Nat.add_mul];congr 1;omega
     have:=Qt H xs ty.size (w':=_) (c:=Zjj.toArray++xs'.toArray++Builtin.zeroCells ty.zero.toArray (cap - (0+n))) (el:=e) (fr:=(0,0)) ex3
      (fun j u hj=>by
        obtain⟨y,y1,y2⟩:=ex2.get hj;refine⟨y,?_,y2⟩;have hlt:j < xs'.length:=(List.getElem?_eq_some_iff.1 y1).1;simp only[Znd,Array.empty_append];rw[Array.getElem?_append_left (by simpa using hlt)];simpa using y1)
      (by rw[Zjv,hxl];exact Nat.mul_le_mul_right _ hge) (Zaf w _ (w.drawn+1)) (by simp) (by simp) (Uk w _ (w.drawn+1)) rfl rfl rfl
     refine⟨_,_,_,Y5,this.1,?_,this.2⟩;have hsn:=T8 (Y:=Y) (h:=h) ⟨w.heap.size,0,cap*ty.size,ty.size,true,true⟩ n n cap hge (fun _=>Nat.le_refl _);rw[Zjv];simp only[Nat.zero_add];exact hsn
   |empty i o o' _ hlt=>
    have Zgp:old=[]:=List.eq_nil_of_length_eq_zero (by simpa using hol);have Znd:Zjj=[]:=List.eq_nil_of_length_eq_zero (by rw[hol',Zgp];rfl);have Y5:=Zga (ret:=ret) h0 h1 hT0 hk0 hT1 hk1 hT (ex5 w) hsz hby Tz ex1 eo1;dsimp only at ha;split at ha
    .rename_i csr er hgi;split at ha
     .rename_i her;cases ha;subst her;obtain⟨r1,r2,c,el,fr,r3,r4,r5,_⟩:=H.row i csr ty.size true hgi;obtain⟨r5a,r5b,r5c,r5d,r5e⟩:=r5 rfl
      have H1:HR G Y ((h.put i none).note i) w base:=H.sub rfl (fun j oj hj=>by
       have hj':(if j=i then none else h.get j)=some oj:=by rw[<- VH.put_get];exact hj
       by_cases e:j=i
       .simp [e]at hj'
       .simpa [e]using hj')
      have Zk:∀j oj,((h.put i none).note i).get j=some oj->j≠i/\h.get j=some oj:=fun j oj hj=>by
       have hj':(if j=i then none else h.get j)=some oj:=by rw[<- VH.put_get];exact hj
       by_cases e:j=i
       .simp [e]at hj'
       .exact ⟨e,by simpa[e]using hj'⟩
      by_cases hn0:n=0
      .subst hn0;have hxn:xs=[]:=List.eq_nil_of_length_eq_zero (by simpa using hxl);have hxn':xs'=[]:=List.eq_nil_of_length_eq_zero (by rw[Z7x,hxn];rfl);rw[if_pos (by omega)]at Y5;subst hxn' hxn Zgp Znd;simp[storeCells]at Y5;refine⟨upd Y h.next ⟨(Y i).b,0,c.size,ty.size,true,true⟩,w,_,Y5,?_,?_,?_⟩
       .refine HR.new H1 _ _ (fun j oj hj=>?_) r5b (Nat.le_refl _) (fun b _ Yp=>rfl) ?_ (fun es e=>by cases e) (fun _ _ _ _ e=>by cases e)
        .obtain ⟨e1,e2⟩:=Zk j oj hj;exact H.others hgi rfl e1 e2
        .intro cs' e' own he;cases he;exact⟨by simp[Zr,show ((h.put i none).note i).next=h.next from rfl],by simp,c,el,fr,by simpa[Zr,show ((h.put i none).note i).next=h.next from rfl]using r3,by simp,fun _=>⟨by simp[Zr,show ((h.put i none).note i).next=h.next from rfl],by simpa[Zr,show ((h.put i none).note i).next=h.next from rfl]using r5b,by simp[Zr,show ((h.put i none).note i).next=h.next from rfl],by simp,r5e⟩,fun h=>by cases h⟩
       .have:=VR.empty (Y:=upd Y h.next ⟨(Y i).b,0,c.size,ty.size,true,true⟩) (n:=h.next+1) h.next 0 o' 0 ⟨Nat.lt_succ_self _,by rw[Zr]⟩;simp only[Zr]at this;exact this
       .exact TR.reuse H i _ hgi rfl _ _ (.inl rfl) (Nat.le_refl _) (fun b _ Yp=>rfl) rfl rfl rfl
      .rw [if_neg (by omega)]at Y5;dsimp only at Y5;have hge:0+n<=(Question.appendCap (0+n) 0 e).cut (w.tape w.drawn (.appendCap (0+n) 0 e)):=by simp[Question.cut]
       generalize (Question.appendCap (0+n) 0 e).cut (w.tape w.drawn (.appendCap (0+n) 0 e))=cap at Y5 hge
       have Zjv:(Zjj.toArray++xs'.toArray++Builtin.zeroCells ty.zero.toArray (cap - (0+n))).size=cap*ty.size:=by
        simp only[Array.size_append,List.size_toArray,Sl,Znd,hT.zlen,Z7x,hxl,List.length_nil,Nat.zero_add,<- Nat.add_mul];congr 1;omega
       have happ:=eo2.append ex2
       have:=Qt H1 (old++xs) ty.size (w':=_) (c:=Zjj.toArray++xs'.toArray++Builtin.zeroCells ty.zero.toArray (cap - (0+n))) (el:=e) (fr:=(0,0)) hall
        (fun j u hj=>by
          obtain⟨y,y1,y2⟩:=happ.get hj;refine⟨y,?_,y2⟩;have hlt:j < (Zjj++xs').length:=(List.getElem?_eq_some_iff.1 y1).1;rw[Array.getElem?_append_left (by simpa using hlt)];simpa using y1)
        (by rw[Zjv,List.length_append,hxl,hol,<- Nat.add_mul];exact Nat.mul_le_mul_right _ hge) (Zaf w _ (w.drawn+1)) (by simp) (by simp) (Uk w _ (w.drawn+1)) rfl rfl rfl
       refine⟨_,_,_,Y5,this.1,?_,TR.reuse H i _ hgi rfl _ _ (.inr (Nat.le_refl _)) (by simp) (fun b hb _=>Uk w _ (w.drawn+1) b hb) rfl rfl rfl⟩;have hsn:=T8 (Y:=Y) (h:=h) ⟨w.heap.size,0,cap*ty.size,ty.size,true,true⟩ (0+n) (0+n) cap hge (fun _=>Nat.le_refl _);rw[Zjv];exact hsn
     .cases ha
    .cases ha
   |slice i o _ _ W1 hlt hl hb=>
    have Y5:=Zga (ret:=ret) h0 h1 hT0 hk0 hT1 hk1 hT (ex5 w) hsz hby Tz ex1 eo1;dsimp only at ha;split at ha
    .rename_i csr er hgi;split at ha
     .rename_i her;cases ha;subst her;obtain⟨r1,r2,c,el,fr,r3,r4,r5,_⟩:=H.row i csr ty.size true hgi;obtain⟨r5a,r5b,r5c,r5d,r5e⟩:=r5 rfl;have hbd:=hb r1;rw[r5a]at hbd;by_cases Zef:sl+n<=W1
      ·
       rw[if_pos Zef]at Y5;dsimp only at Y5;rw[Za0]at Y5
       have hfit:(Y i).d+o+sl*ty.size+0+xs'.length<=c.size:=by
        have:(sl+n)*ty.size<=W1*ty.size:=Nat.mul_le_mul_right _ Zef;rw[Z7x,hxl];rw[Nat.add_mul]at this;omega
       obtain⟨c2,w2,s1,s2,s3,s4,s5,s6,s7,s8,s9⟩:=Uz (P:=P) (Y i).b ((Y i).d+o+sl*ty.size) el fr xs' 0 c w r3 r5e hfit Zvt;rw[s1,Result.andThen_ok]at Y5
       have H1:HR G Y ((h.put i none).note i) w base:=H.sub rfl (fun j oj hj=>by
        have hj':(if j=i then none else h.get j)=some oj:=by rw[<- VH.put_get];exact hj
        by_cases e:j=i
        .simp [e]at hj'
        .simpa [e]using hj')
       have Zk:∀j oj,((h.put i none).note i).get j=some oj->j≠i/\h.get j=some oj:=fun j oj hj=>by
        have hj':(if j=i then none else h.get j)=some oj:=by rw[<- VH.put_get];exact hj
        by_cases e:j=i
        .simp [e]at hj'
        .exact ⟨e,by simpa[e]using hj'⟩
       refine⟨upd Y h.next ⟨(Y i).b,(Y i).d+o,(Y i).N - o,ty.size,true,true⟩,w2,_,Y5,?_,?_,?_⟩
       .refine HR.new H1 _ _ (fun j oj hj=>?_) r5b (by omega) (fun b _ Yp=>s6 b Yp) ?_ (fun es e=>by cases e) (fun _ _ _ _ e=>by cases e)
        .obtain ⟨e1,e2⟩:=Zk j oj hj;exact H.others hgi rfl e1 e2
        .intro cs' e' own he;cases he;have Sj:((h.put i none).note i).next=h.next:=rfl;rw[Sj];refine⟨by simp[Zr],hall,c2,el,fr,by simpa[Zr]using s2,fun j u hj=>?_,fun _=>⟨by simp[Zr],by simpa[Zr]using r5b,?_,?_,by rw[s3];exact r5e⟩,fun h=>by cases h⟩
         .simp only [Zr];rw[s4];simp only[Nat.add_zero];by_cases hjo:j < old.length
          .rw [List.getElem?_append_left hjo]at hj;have hld:h.elems ty.size (.slice (some ⟨i,o,none⟩) sl scv)=some old:=Xa;simp only[VH.elems,VH.load,hgi]at hld;simp at hld;obtain⟨g1,g2⟩:=Zjc hld;rw[g2 j (by omega)]at hj;obtain⟨y,y1,y2⟩:=r4 _ _ hj;rw[if_neg (by omega)];exact⟨y,by rw[Nat.add_assoc];exact y1,y2.mono (Zcp Y h.next _) (Nat.le_succ _)⟩
          .rw [List.getElem?_append_right (by omega)]at hj;obtain⟨y,y1,y2⟩:=ex2.get hj;have hjx:j - old.length < xs.length:=(List.getElem?_eq_some_iff.1 hj).1;rw[if_pos (by omega),show (Y i).d+o+j - ((Y i).d+o+sl*ty.size)=j - old.length by omega];exact⟨y,y1,y2.mono (Zcp Y h.next _) (Nat.le_succ _)⟩
         .simp only [Zr];have:(sl+n)*ty.size<=W1*ty.size:=Nat.mul_le_mul_right _ Zef;omega
         .simp only [Zr,List.length_append];have:(sl+n)*ty.size<=W1*ty.size:=Nat.mul_le_mul_right _ Zef;rw[Nat.add_mul]at this;omega
       .have hsn:=T8 (Y:=Y) (h:=h) ⟨(Y i).b,(Y i).d+o,(Y i).N - o,ty.size,true,true⟩ (sl+n) (sl+n) W1 Zef (fun _=>by
         show W1*ty.size<=(Y i).N - o;omega)
        exact hsn
       .exact TR.reuse H i _ hgi rfl _ _ (.inl rfl) (by omega) (fun b _ Yp=>s6 b Yp) s7 s8 s9
      ·
       rw[if_neg Zef]at Y5;dsimp only at Y5;have hge:sl+n<=(Question.appendCap (sl+n) W1 e).cut (w.tape w.drawn (.appendCap (sl+n) W1 e)):=by simp[Question.cut]
       generalize (Question.appendCap (sl+n) W1 e).cut (w.tape w.drawn (.appendCap (sl+n) W1 e))=cap at Y5 hge
       have Zjv:(Zjj.toArray++xs'.toArray++Builtin.zeroCells ty.zero.toArray (cap - (sl+n))).size=cap*ty.size:=by
        simp only[Array.size_append,List.size_toArray,Sl,hT.zlen,Z7x,hxl,hol',hol,<- Nat.add_mul];congr 1;omega
       have H1:HR G Y ((h.put i none).note i) w base:=H.sub rfl (fun j oj hj=>by
        have hj':(if j=i then none else h.get j)=some oj:=by rw[<- VH.put_get];exact hj
        by_cases e:j=i
        .simp [e]at hj'
        .simpa [e]using hj')
       have happ:=eo2.append ex2
       have:=Qt H1 (old++xs) ty.size (w':=_) (c:=Zjj.toArray++xs'.toArray++Builtin.zeroCells ty.zero.toArray (cap - (sl+n))) (el:=e) (fr:=(0,0)) hall
        (fun j u hj=>by
          obtain⟨y,y1,y2⟩:=happ.get hj;refine⟨y,?_,y2⟩;have hlt:j < (Zjj++xs').length:=(List.getElem?_eq_some_iff.1 y1).1;rw[Array.getElem?_append_left (by simpa using hlt)];simpa using y1)
        (by rw[Zjv,List.length_append,hxl,hol,<- Nat.add_mul];exact Nat.mul_le_mul_right _ hge) (Zaf w _ (w.drawn+1)) (by simp) (by simp) (Uk w _ (w.drawn+1)) rfl rfl rfl
       refine⟨_,_,_,Y5,this.1,?_,TR.reuse H i _ hgi rfl _ _ (.inr (Nat.le_refl _)) (by simp) (fun b hb _=>Uk w _ (w.drawn+1) b hb) rfl rfl rfl⟩;have hsn:=T8 (Y:=Y) (h:=h) ⟨w.heap.size,0,cap*ty.size,ty.size,true,true⟩ (sl+n) (sl+n) cap hge (fun _=>Nat.le_refl _);rw[Zjv];exact hsn
     .cases ha
    .cases ha
  .cases ha
 .cases ha
end
inductive PRs (Y:Nat->Blk)(n:Nat):List (Nat×Value)->List (Nat×Value)->Prop
 |nil:PRs Y n [] []
 |cons {i:Nat} {v v':Value} {l l':List (Nat×Value)} (h:VR Y n v v') (r:PRs Y n l l'):PRs Y n ((i,v)::l) ((i,v')::l')
theorem Zqi (off:Nat):∀(l:List Value) (k:Nat) (cells:Array Value),let r:=(l.zipIdx k).foldl (fun cs (x:Value×Nat)=>cs.setIfInBounds (off+x.2) x.1) cells
  r.size=cells.size/\∀j,r[j]?=if off+k<=j/\j < off+k+l.length/\j < cells.size then l[j - (off+k)]? else cells[j]?
 | [],k,cells=>⟨rfl,fun j=>by rw[if_neg (by simp;omega)];rfl⟩
 |v::l,k,cells=>by
  obtain⟨h1,h2⟩:=Zqi off l (k+1) (cells.setIfInBounds (off+k) v);refine⟨by simpa using h1,fun j=>?_⟩;simp only[List.zipIdx_cons,List.foldl_cons]at h2 ⊢;rw[h2];simp only[Array.size_setIfInBounds,List.length_cons];by_cases e:j=off+k
  .subst e;rw[if_neg (by omega)];by_cases hlt:off+k < cells.size
   .rw [if_pos (by omega)];simp[hlt]
   .rw [if_neg (by omega)];simp[hlt]
  .by_cases hj:off+(k+1)<=j/\j < off+(k+1)+l.length/\j < cells.size
   .rw [if_pos hj,if_pos (by omega),show j - (off+k)=(j - (off+(k+1)))+1 by omega];simp
   .rw [if_neg hj,if_neg (by omega),Array.getElem?_setIfInBounds_ne (Ne.symm e)]
section
variable {P:Program}{G:Nat}{Y:Nat->Blk}{h h':VH}{w:World}{base:Nat}{v:Value}
theorem Zii {n:Nat}{place place':Nat->Option (Nat×Nat)}(hp:∀i p,place i=some p->place' i=some p):∀ {vs Qk:List (Nat×Value)} {cells Wx cs:List Value},PRs Y n vs Qk->VRs Y n cells Wx ->
  Qn place cells vs=some cs->∃cs',Instr.fill place' Wx.toArray Qk=some cs'.toArray/\VRs Y n cs cs'/\cs.length=cells.length/\((∀u∈cells,cellB u=true)->∀u∈cs,cellB u=true)
 | _,_,cells,Wx,cs,.nil,hc,hf=>by
   simp only[Qn,Option.some.injEq]at hf;subst hf;exact⟨Wx,rfl,hc,rfl,fun h=>h⟩
 | _,_,cells,Wx,cs,.cons (i:=i) (v:=v) (v':=v') hv r,hc,hf=>by
   simp only[Qn]at hf;split at hf
   .cases hf
   .rename_i off size hpl;split at hf
    .rename_i Wm;obtain⟨Zakk,Zaki,Zakj⟩:=Wm;split at hf
     .rename_i Zj6 hw;obtain⟨g1,g2,g3⟩:=Zka hw;have hcv:=hv.cells;have hl:=hcv.length;have hlc:=hc.length;obtain⟨f1,f2⟩:=Zqi off v'.cells.toList 0 Wx.toArray
      have S4:VRs Y n Zj6 ((v'.cells.toList.zipIdx 0).foldl (fun cs (x:Value×Nat)=>cs.setIfInBounds (off+x.2) x.1) Wx.toArray).toList:=by
       refine VRs.of_get (by simp only[Array.length_toList,f1,List.size_toArray];omega) fun j u hj=>?_
       rw[Array.getElem?_toList,f2];rw[g3]at hj;simp only[Nat.add_zero,List.size_toArray];by_cases Uv:off<=j/\j < off+v.cells.toList.length
       .rw [if_pos Uv]at hj;obtain⟨y,y1,y2⟩:=hcv.get hj;by_cases Zgp:v.cells.toList=[]
        .rw [Zgp]at Uv;simp at Uv;omega
        .rw [if_neg Zgp]at g2;rw[if_pos (by omega)];exact⟨y,y1,y2⟩
       .rw [if_neg Uv]at hj;obtain⟨y,y1,y2⟩:=hc.get hj;rw[if_neg (by omega)];exact⟨y,by simpa using y1,y2⟩
      obtain⟨cs',k1,k2,k3,k4⟩:=Zii hp r S4 hf;refine⟨cs',?_,k2,k3.trans g1,fun hall=>k4 (fun u hu=>?_)⟩
      .simp only [Instr.fill,hp i _ hpl];rw[if_neg]
       .rw [<- k1];congr 1;rw[<- Array.foldl_toList];simp[Array.toList_zipIdx]
       .simp only [Bool.or_eq_true,bne_iff_ne,ne_eq,decide_eq_true_eq,not_or,Decidable.not_not,List.size_toArray];simp at hl Zakk Zaki;omega
      .obtain ⟨j,hj,rfl⟩:=List.mem_iff_getElem.1 hu;have:=g3 j;rw[List.getElem?_eq_getElem hj]at this;by_cases Uv:off<=j/\j < off+v.cells.toList.length
       .rw [if_pos Uv]at this;exact List.all_eq_true.1 Zakj _ (List.mem_of_getElem? this.symm)
       .rw [if_neg Uv]at this;exact hall _ (List.mem_of_getElem? this.symm)
     .cases hf
    .cases hf
theorem Zbg {C:Ctx}{sl:SL}{a:Act}(H:HR C.G Y h w base)(S:SR Y h.next sl a.tmps):∀ {ps:List (Nat×Operand)} {vs:List (Nat×Value)},parts C sl ps=some vs->PRs Y h.next vs (ps.map fun (i,x)=>(i,a.eval x))
 | [],vs,hx=>by simp[parts]at hx;subst hx;exact .nil
 | (i,x)::r,vs,hx=>by
   simp only[parts]at hx;split at hx
   .rename_i v us h1 h2;cases hx;exact .cons (Zs H S h1) (Zbg H S h2)
   .cases hx
theorem Zd0 (n:Nat)(z:List Value):(Vv n z).length=n*z.length:=by
 induction n with
 |zero=>simp[Vv]
 |succ n ih=>
  have e1:Vv (n+1) z=Vv n z++z:=by simp[Vv,List.range_succ]
  rw[e1,List.length_append,ih,Nat.succ_mul]
theorem Zml (z:List Value)(n:Nat)(hz:z≠[]):Vv n z=(List.range (n*z.length)).map fun i=>(z.toArray[i % z.toArray.size]!):=by
 have Tz:0 < z.length:=List.length_pos_iff.2 hz
 induction n with
 |zero=>simp[Vv]
 |succ n ih=>
  have e1:Vv (n+1) z=Vv n z++z:=by simp[Vv,List.range_succ]
  rw[e1,ih,Nat.succ_mul,List.range_add,List.map_append];congr 1;apply List.ext_getElem
  .simp
  .intro j h1 h2;simp only[List.getElem_map,List.getElem_range,List.size_toArray];have:(n*z.length+j) % z.length=j:=by rw[Nat.add_comm,Nat.add_mul_mod_self_right];exact Nat.mod_eq_of_lt h1
   rw[this];simp[h1]
theorem Zb1 {z:List Value}(hz:z.all (flat 1)=true)(n:Nat):VRs Y h.next (Vv n z) (Vv n z):=by
 refine VRs.of_flat 1 _ (List.all_eq_true.2 fun u hu=>?_);simp only[Vv,List.mem_flatMap]at hu;obtain⟨_,_,hu⟩:=hu;exact List.all_eq_true.1 hz u hu
theorem Zjb {z:List Value}(hz:z.all cellB=true)(n:Nat):∀u∈Vv n z,cellB u=true:=by
 intro u hu;simp only[Vv,List.mem_flatMap]at hu;obtain⟨_,_,hu⟩:=hu;exact List.all_eq_true.1 hz u hu
theorem Zf3 {t e:Nat}{ty te:Ty}{len:Nat}{vs Qk:List (Nat×Value)}{cs:List Value}(H:HR G Y h w base)(ht:TyOk P t ty)(hk:ty.k=.slice e)(he:TyOk P e te)(hlen:len*te.size<=2^20)
  (hp:PRs Y h.next vs Qk) (hf:Qn (fun i=>some (i*te.size,te.size)) (Vv len te.zero) vs=some cs):
  Yj P G Y h w base (Instr.buildSlice t len Qk.toArray) (.slice (some ⟨h.next,0,none⟩) len len) (h.new (.row cs te.size true)):=by
 obtain⟨d,hd,V9⟩:=ht.run_und w;rw[hk]at V9;have hd':d=.slice e:=by cases d<;>simp[Xd]at V9;rw[V9]
 subst hd';obtain⟨z,hz,hz2,_⟩:=he.run_zero w;have Zbs:z.cells=te.zero.toArray:=by rw[<- hz2]
 obtain⟨cs',f1,f2,f3,f4⟩:=Zii (Y:=Y) (place':=fun i=>some (i*te.size,te.size)) (fun i p h=>h) hp (Zb1 (h:=h) he.zflat len) hf
 have Zap9:(if len*te.size=0 then (pure #[]:Sem (Array Value)) else do pure (<- zeroValue e).cells).run P w=.ok (if len*te.size=0 then #[] else te.zero.toArray) w:=by
  split
  .rfl
  .simp [hz,Zbs]
 have Zh8:(Array.range (len*te.size)).map (fun x=>(if len*te.size=0 then #[] else te.zero.toArray)[x % (if len*te.size=0 then #[] else te.zero.toArray).size]!)=(Vv len te.zero).toArray:=by
  apply Array.toList_inj.1;by_cases h0:len*te.size=0
  .have:Vv len te.zero=[]:=by
    apply List.eq_nil_of_length_eq_zero;rw[Zd0,he.zlen,h0]
   simp[h0,this]
  .have Yp:te.zero≠[]:=by
    intro e0;have:=he.zlen;rw[e0]at this;simp at this;rw[<- this]at h0;simp at h0
   rw[Zml te.zero len Yp,he.zlen];simp[h0]
 have hlc:cs.length=len*te.size:=by rw[f3,Zd0,he.zlen]
 have hlc':cs'.length=cs.length:=f2.length
 have:=Qt H cs te.size (w':={w with heap:=w.heap.push (.cells cs'.toArray e)}) (c:=cs'.toArray) (el:=e) (fr:=(0,0)) (f4 (Zjb he.zcell len))
  (Zaf2 f2) (by simp[hlc']) (Zaf w _ w.drawn) (by simp) (by simp) (Uk w _ w.drawn) rfl rfl rfl
 refine⟨_,_,.slice (some ⟨w.heap.size,0,none⟩) len len,?_,this.1,?_,this.2⟩
 .simp only [Instr.buildSlice,Sem.run_bind,hd,Result.andThen_ok,he.run_size w];rw[if_neg (by omega)];by_cases h0:len*te.size=0
  .simp only [h0,if_true]at Zh8;rw[if_pos h0];simp only[Sem.run_bind,Sem.run_pure,Result.andThen_ok,h0,Zh8,f1,newRow,run_newObj]
  .simp only [h0,if_false]at Zh8;rw[if_neg h0];simp only[Sem.run_bind,Sem.run_pure,Result.andThen_ok,hz,Zbs,Zh8,f1,newRow,run_newObj]
 .have hsn:=T8 (Y:=Y) (h:=h) ⟨w.heap.size,0,cs'.toArray.size,te.size,true,true⟩ len len len (Nat.le_refl _) (fun _=>by simp[hlc',hlc]);exact hsn
theorem wrap_small {n:Int}(h0:0<=n)(h1:n<=2^30):IntKind.i64.wrap n=n:=by
 simp only[IntKind.wrap,IntKind.bits,IntKind.signed];simp;omega
theorem Zhw {t e:Nat}{ty te:Ty}{kn km:IntKind}{n m:Int}(H:HR G Y h w base)(ht:TyOk P t ty)(hk:ty.k=.slice e)(he:TyOk P e te)(hn:0<=n)(hnm:n<=m)(hm:m<=maxLenV)(hby:te.bytes<=2^16):
  Yj P G Y h w base (Instr.makeSlice t (.int kn n) (.int km m)) (.slice (some ⟨h.next,0,none⟩) n.toNat n.toNat) (h.new (.row (Vv n.toNat te.zero) te.size true)):=by
 obtain⟨d,hd,V9⟩:=ht.run_und w;rw[hk]at V9;have hd':d=.slice e:=by cases d<;>simp[Xd]at V9;rw[V9]
 subst hd';obtain⟨i,hi,hi1,hi2,_⟩:=he.run_info w;obtain⟨z,hz,hz2,_⟩:=he.run_zero w;have Zbs:z.cells=te.zero.toArray:=by rw[<- hz2]
 have hm':m<=2^30:=by have:=hm;simp[maxLenV]at this;omega
 have hwn:IntKind.i64.wrap n=n:=wrap_small hn (by omega);have hwm:IntKind.i64.wrap m=m:=wrap_small (by omega) hm'
 have Z75:¬ ((i.bytes:Int)*m > 2^48):=by
  rw[hi2];have:(te.bytes:Int)*m<=2^16*2^30:=Int.mul_le_mul (by exact_mod_cast hby) hm' (by omega) (by decide);omega
 have Zap9:(if m.toNat*te.size=0 then (pure #[]:Sem (Array Value)) else do pure (<- zeroValue e).cells).run P w=.ok (if m.toNat*te.size=0 then #[] else te.zero.toArray) w:=by
  split
  .rfl
  .simp [hz,Zbs]
 have Zh8:(Array.range (m.toNat*te.size)).map (fun x=>(if m.toNat*te.size=0 then #[] else te.zero.toArray)[x % (if m.toNat*te.size=0 then #[] else te.zero.toArray).size]!)=(Vv m.toNat te.zero).toArray:=by
  apply Array.toList_inj.1;by_cases h0:m.toNat*te.size=0
  .have:Vv m.toNat te.zero=[]:=by
    apply List.eq_nil_of_length_eq_zero;rw[Zd0,he.zlen,h0]
   simp[h0,this]
  .have Yp:te.zero≠[]:=by
    intro e0;have:=he.zlen;rw[e0]at this;simp at this;rw[<- this]at h0;simp at h0
   rw[Zml te.zero m.toNat Yp,he.zlen];simp[h0]
 have S5:∀k,(Vv k te.zero).length=k*te.size:=fun k=>by rw[Zd0,he.zlen]
 have Z76:Vv m.toNat te.zero=Vv n.toNat te.zero++Vv (m.toNat - n.toNat) te.zero:=by
  obtain⟨k,hk⟩:∃k,m.toNat=n.toNat+k:=⟨m.toNat - n.toNat,by omega⟩
  rw[hk,Nat.add_sub_cancel_left];simp only[Vv,List.range_add,List.flatMap_append,List.flatMap_map]
 have:=Qt H (Vv n.toNat te.zero) te.size (w':={w with heap:=w.heap.push (.cells (Vv m.toNat te.zero).toArray e)}) (c:=(Vv m.toNat te.zero).toArray) (el:=e) (fr:=(0,0)) (Zjb he.zcell _)
  (fun j u hj=>by
    obtain⟨y,y1,y2⟩:=(Zb1 (Y:=Y) (h:=h) he.zflat n.toNat).get hj;refine⟨y,?_,y2⟩;rw[Z76];simp only[List.getElem?_toArray];rw[List.getElem?_append_left (List.getElem?_eq_some_iff.1 hj).1];exact y1)
  (by simp only[List.size_toArray,S5];exact Nat.mul_le_mul_right _ (by omega)) (Zaf w _ w.drawn) (by simp) (by simp) (Uk w _ w.drawn) rfl rfl rfl
 refine⟨_,_,.slice (some ⟨w.heap.size,0,none⟩) n.toNat m.toNat,?_,this.1,?_,this.2⟩
 .simp only [Instr.makeSlice,Sem.run_bind,hd,Result.andThen_ok,asInt,asIntOf,Sem.run_pure,hi,hwn,hwm];rw[if_neg (by simp;omega)];simp only[Sem.run_bind,run_askRoom,Result.andThen_ok,he.run_size w];by_cases h0:m.toNat*te.size=0
  .simp only [h0,if_true]at Zh8;rw[if_pos h0];simp only[Sem.run_bind,Sem.run_pure,Result.andThen_ok,h0,Zh8,newRow,run_newObj]
  .simp only [h0,if_false]at Zh8;rw[if_neg h0];simp only[Sem.run_bind,Sem.run_pure,Result.andThen_ok,hz,Zbs,Zh8,newRow,run_newObj]
 .have hsn:=T8 (Y:=Y) (h:=h) ⟨w.heap.size,0,(Vv m.toNat te.zero).toArray.size,te.size,true,true⟩ n.toNat n.toNat m.toNat (by omega) (fun _=>by simp[S5]);exact hsn
theorem Zmu {t:Nat}(H:HR G Y h w base):Yj P G Y h w base (Instr.makeMap t none) (.map (some h.next)) (h.new (.map [])):=by
 have hk:∀i o,h.get i=some o->(Y i).b≠(⟨w.heap.size,0,0,0,true,true⟩:Blk).b:=fun i o hi e=>by have:=H.block_lt hi;simp at e;omega
 refine⟨upd Y h.next ⟨w.heap.size,0,0,0,true,true⟩,{w with heap:=w.heap.push (.map #[] 0)},.map (some w.heap.size),?_,?_,?_,?_⟩
 .simp [Instr.makeMap]
 .refine HR.new H _ _ hk H.base_ (by simp) (fun b hb _=>Uk w _ w.drawn b hb) (fun _ _ _ e=>by cases e) (fun es e=>?_) (fun _ _ _ _ e=>by cases e);cases e;exact⟨#[],0,Zaf w _ w.drawn,.nil⟩
 .have:=VR.map (Y:=upd Y h.next ⟨w.heap.size,0,0,0,true,true⟩) (n:=h.next+1) h.next ⟨Nat.lt_succ_self _,by rw[Zr]⟩;simp only[Zr]at this;exact this
 .exact TR.ofNew H _ _ rfl (by simp) (Uk w _ w.drawn) rfl rfl rfl
end
section
variable {P:Program}{G:Nat}{Y:Nat->Blk}{h h':VH}{w:World}{base:Nat}{v:Value}
theorem VR.key_eq {n:Nat}{k k':Value}{t:TK}(hv:VR Y n k k')(hk:Zb7 t k=true):k'=k:=by
 cases hv<;>simp_all[Zb7]
theorem Sb {n:Nat}{d:TypeDesc}{t:TK}{x k k':Value}{b:Bool}(hd:Xd d t=true)(hx:Zb7 t x=true)(hk:VR Y n k k')(hs:Su x k=some b):Instr.sameNow d x k'=some b:=by
 unfold Su at hs;split at hs
 .rename_i j a j' a';split at hs
  .rename_i e;cases hk
   have:∃q,d=.int q:=by
    cases t<;>simp[Zb7]at hx;cases d<;>simp[Xd]at hd;exact⟨_,rfl⟩
   obtain⟨q,rfl⟩:=this;simp only[Instr.sameNow,e,if_true];exact hs
  .cases hs
 .cases hk
  have:d=.string:=by
   cases t<;>simp[Zb7]at hx;cases d<;>simp[Xd]at hd;rfl
  subst this;simp only[Instr.sameNow];exact hs
 .cases hk
  have:d=.bool:=by
   cases t<;>simp[Zb7]at hx;cases d<;>simp[Xd]at hd;rfl
  subst this;simp only[Instr.sameNow];exact hs
 .cases hs
theorem Z1n {n:Nat}{d:TypeDesc}{t:TK}{x:Value}(hd:Xd d t=true)(hx:Zb7 t x=true):∀ {es:List (Value×Value)} {l:List MapEntry} (i:Nat),MR Y n es l->∀ {r},Qx es x=some r ->
  (r=none->Instr.findNow d x l i=some none)/\(∀u,r=some u->∃j u',Instr.findNow d x l i=some (some (i+j,u'))/\VR Y n u u'/\∃e,l[j]?=some e/\e.val=u')
 | _,_,i,.nil,r,hf=>by
   simp only[Qx,Option.some.injEq]at hf;subst hf;exact⟨fun _=>rfl,fun u e=>(by cases e)⟩
 | _,_,i,.cons (k:=k) (v:=v) (e:=e) (l:=es) (l':=l) hk hv r',r,hf=>by
   simp only[Qx]at hf;split at hf
   .rename_i hs;cases hf;have:=Sb hd hx hk hs;refine⟨(fun e=>by cases e),fun u e'=>?_⟩;cases e';exact⟨0,e.val,by simp[Instr.findNow,this],hv,e,by simp,rfl⟩
   .rename_i hs;have:=Sb hd hx hk hs;obtain⟨h1,h2⟩:=Z1n hd hx (i+1) r' hf;refine⟨fun e'=>by simp[Instr.findNow,this,h1 e'],fun u e'=>?_⟩;obtain⟨j,u',g1,g2,e0,g3,g4⟩:=h2 u e';exact⟨j+1,u',by simp[Instr.findNow,this,g1];omega,g2,e0,by simpa using g3,g4⟩
   .cases hf
theorem Tl {d:TypeDesc}{t:Nat}{tk:TK}{x:Value}(b:Bool)(m:Nat)(hu:(underlying t).run P w=.ok d w)(hd:Xd d tk=true)(hx:Zb7 tk x=true):(Instr.checkKey b (m+1) t x).run P w=.ok () w:=by
 simp only[Instr.checkKey,Sem.run_bind,hu,Result.andThen_ok];cases x<;>simp[Zb7]at hx<;>cases tk<;>simp at hx<;>cases d<;>simp[Xd]at hd<;>rfl
theorem Vl {r:Nat}{es:Array MapEntry}{ck:Nat}(hb:w.heap[r]?=some (.map es ck)):(getObj r).run P w=.ok (.map es ck) w:=by
 simp[getObj,Sem.run,hb]
theorem Ts {r:Nat}{es:Array MapEntry}{ck:Nat}(o:Obj)(hb:w.heap[r]?=some (.map es ck)):(setObj r o).run P w=.ok () {w with heap:=w.heap.setIfInBounds r o}:=by
 simp[setObj,Sem.run,hb]
theorem Zp0 {t kt et:Nat}{ty kty ety:Ty}{m m' x x':Value}{es:List (Value×Value)}{ok:Bool}{r:Option Value}{z:Value}(H:HR G Y h w base)(ht:TyOk P t ty)(hk:ty.k=.map kt et)(hkt:TyOk P kt kty)(het:TyOk P et ety)
  (hm:VR Y h.next m m') (hx:VR Y h.next x x') (Si:Zb7 kty.k x=true) (hes:m=.map none/\es=[]\/∃i,m=.map (some i)/\h.get i=some (.map es)) (hf:Qx es x=some r) (hz:r=none->toV ety.k.agg ety.zero=some z)
  (hv:v=match r with | some u=>(if ok then .tuple #[u,.bool true] else u) | none=>(if ok then .tuple #[z,.bool false] else z)):
  Yj P G Y h w base (Instr.lookup t m' x' ok) v h:=by
 obtain⟨d,hd,V9⟩:=ht.run_und w;rw[hk]at V9;have hd':d=.map kt et:=by cases d<;>simp[Xd]at V9;rw[V9.1,V9.2]
 subst hd';obtain⟨dk,Zo8,Zv2⟩:=hkt.run_und w;have hxe:=hx.key_eq Si;subst hxe;obtain⟨zz,hzz,hz2,hz3,hz4⟩:=het.run_zero w
 have Xx:∀(l:Array MapEntry) (res:Option (Nat×Value)),Instr.findNow dk x' l.toList 0=some res ->
   (do
     Instr.checkKey l.isEmpty 10000 kt x'
     let (v,ok') <- match <- Instr.findKey kt x' l.toList with
      |some (_,v)=>pure (v,true)
      |none=>pure (<- zeroValue et,false)
     pure (if ok then .tuple #[v,.bool ok'] else v):Sem Value).run P w =
     .ok (match res with | some (_,u)=>(if ok then .tuple #[u,.bool true] else u) | none=>(if ok then .tuple #[zz,.bool false] else zz)) w:=by
  intro l res Td;have hck:=Tl (P:=P) (w:=w) (l.isEmpty) 9999 Zo8 Zv2 Si
  have hfk:(Instr.findKey kt x' l.toList).run P w=.ok res w:=by
   simp only[Instr.findKey,Sem.run_bind,Zo8,Result.andThen_ok,Td,Sem.run_pure]
  simp only[Sem.run_bind,hck,Result.andThen_ok,hfk];cases res with
  |none=>simp only[Sem.run_bind,hzz,Result.andThen_ok,Sem.run_pure]
  |some p=>simp only[Sem.run_bind,Result.andThen_ok,Sem.run_pure]
 obtain⟨l,hl,hgo⟩:∃l:Array MapEntry,MR Y h.next es l.toList/\∀res,Instr.findNow dk x' l.toList 0=some res->(Instr.lookup t m' x' ok).run P w =
    .ok (match res with | some (_,u)=>(if ok then .tuple #[u,.bool true] else u) | none=>(if ok then .tuple #[zz,.bool false] else zz)) w:=by
  rcases hes with⟨rfl,rfl⟩ | ⟨i,rfl,hi⟩
  .cases hm;refine⟨#[],.nil,fun res Td=>?_⟩;rw[<- Xx #[] res Td];simp only[Instr.lookup,Sem.run_bind,hd,Result.andThen_ok,Sem.run_pure];rfl
  .cases hm;obtain⟨_,S9,ck,h2,h3⟩:=H.map i es hi;refine⟨S9,h3,fun res Td=>?_⟩;rw[<- Xx S9 res Td];simp only[Instr.lookup,Sem.run_bind,hd,Result.andThen_ok,Sem.run_pure,Vl h2];rfl
 obtain⟨f1,f2⟩:=Z1n (n:=h.next) Zv2 Si 0 hl hf;cases r with
 |none=>
  have hzv:=hz rfl;have hfk:=hgo none (f1 rfl)
  have hzr:zz=z/\VR Y h.next z z:=by
   have Uq:=het.zflat;cases Zjw:ety.k.agg with
   |true=>
    rw[Zjw]at hzv;simp[toV]at hzv;rw[<- hzv];exact⟨hz3 Zjw,.agg _ _ (VRs.of_flat 1 _ (by simpa using Uq))⟩
   |false=>
    rw[Zjw]at hzv;have:=hz4 Zjw;rw[this]at hzv;simp[toV]at hzv;rw[this]at Uq;simp at Uq;exact⟨hzv,by rw[<- hzv];exact VR.of_flat 1 _ Uq⟩
  obtain⟨rfl,hzvr⟩:=hzr;refine Yj.same H (v':=if ok then .tuple #[zz,.bool false] else zz) ?_ ?_
  .exact hfk
  .subst hv;cases ok
   .exact hzvr
   .exact .tuple _ _ (.cons hzvr (.cons (.bool _) .nil))
 |some u=>
  obtain⟨j,u',g1,g2,_⟩:=f2 u rfl;have hfk:=hgo _ g1;refine Yj.same H (v':=if ok then .tuple #[u',.bool true] else u') ?_ ?_
  .exact hfk
  .subst hv;cases ok
   .exact g2
   .exact .tuple _ _ (.cons g2 (.cons (.bool _) .nil))
end
section
variable {P:Program}{G:Nat}{Y:Nat->Blk}{h h':VH}{w:World}{base:Nat}{v:Value}
theorem Zx0 {x k:Value}(hs:Su x k=some true):k=x:=by
 unfold Su at hs;split at hs
 .split at hs
  .rename_i e;simp at hs;rw[e,hs]
  .cases hs
 .simp only [Option.some.injEq]at hs;rw[(MapKept.bytes_beq _ _).1 hs]
 .simp at hs;rw[hs]
 .cases hs
theorem Zre {t:TK}{x:Value}(hx:Zb7 t x=true):Instr.sameBits 10000 x x=true:=by
 cases x<;>simp[Zb7]at hx<;>simp[Instr.sameBits,MapKept.bytes_beq]
theorem Z6p {n:Nat}{d:TypeDesc}{t:TK}{x u u':Value}(hd:Xd d t=true)(hx:Zb7 t x=true)(hu:VR Y n u u')(hxx:VR Y n x x):∀ {es es2:List (Value×Value)} {l:List MapEntry} (i:Nat),MR Y n es l->Zd6 es x u=some es2 ->
  (∃j y e,Instr.findNow d x l i=some (some (i+j,y))/\l[j]?=some e/\e.key=x/\MR Y n es2 (l.modify j fun e=>{e with key:=x,val:=u'})) \/
  (Instr.findNow d x l i=some none/\∀b,MR Y n es2 (l++[{key:=x,val:=u',born:=b}]))
 | _,es2,_,i,.nil,hp=>by
   simp only[Zd6,Option.some.injEq]at hp;subst hp;exact .inr ⟨rfl,fun b=>.cons hxx hu .nil⟩
 | _,es2,_,i,.cons (k:=k) (v:=v) (e:=e) (l:=es) (l':=l) hk hv r',hp=>by
   simp only[Zd6]at hp;split at hp
   .rename_i hs;cases hp;have Zrw:=Sb hd hx hk hs;have hke:=Zx0 hs;subst hke;have:=hk.key_eq hx;exact .inl ⟨0,e.val,e,by simp[Instr.findNow,Zrw],by simp,this,by simpa using .cons hxx hu r'⟩
   .rename_i hs;have Zrw:=Sb hd hx hk hs;simp only[Option.map_eq_some_iff]at hp;obtain⟨es3,hp,rfl⟩:=hp;rcases Z6p hd hx hu hxx (i+1) r' hp with⟨j,y,e0,g1,g2,g3,g4⟩ | ⟨g1,g2⟩
    .exact .inl ⟨j+1,y,e0,by simp[Instr.findNow,Zrw,g1];omega,by simpa using g2,g3,by simpa using .cons hk hv g4⟩
    .exact .inr ⟨by simp[Instr.findNow,Zrw,g1],fun b=>.cons hk hv (g2 b)⟩
   .cases hp
theorem Z9u {n:Nat}{d:TypeDesc}{t:TK}{x:Value}(hd:Xd d t=true)(hx:Zb7 t x=true):∀ {es es2:List (Value×Value)} {l:List MapEntry} (i:Nat),MR Y n es l->Zd7 es x=some es2 ->
  (∃j y,Instr.findNow d x l i=some (some (i+j,y))/\j < l.length/\MR Y n es2 (l.eraseIdx j))\/(Instr.findNow d x l i=some none/\MR Y n es2 l)
 | _,es2,_,i,.nil,hp=>by
   simp only[Zd7,Option.some.injEq]at hp;subst hp;exact .inr ⟨rfl,.nil⟩
 | _,es2,_,i,.cons (k:=k) (v:=v) (e:=e) (l:=es) (l':=l) hk hv r',hp=>by
   simp only[Zd7]at hp;split at hp
   .rename_i hs;cases hp;have Zrw:=Sb hd hx hk hs;exact .inl ⟨0,e.val,by simp[Instr.findNow,Zrw],by simp,by simpa using r'⟩
   .rename_i hs;have Zrw:=Sb hd hx hk hs;simp only[Option.map_eq_some_iff]at hp;obtain⟨es3,hp,rfl⟩:=hp;rcases Z9u hd hx (i+1) r' hp with⟨j,y,g1,g2,g3⟩ | ⟨g1,g2⟩
    .exact .inl ⟨j+1,y,by simp[Instr.findNow,Zrw,g1];omega,by simpa using g2,by simpa using .cons hk hv g3⟩
    .exact .inr ⟨by simp[Instr.findNow,Zrw,g1],.cons hk hv g2⟩
   .cases hp
theorem Zbe (H:HR G Y h w base){i:Nat}{es es2:List (Value×Value)}(hi:h.get i=some (.map es)){l':Array MapEntry}{ck:Nat}(hl:MR Y h.next es2 l'.toList):
  HR G Y ((h.put i (some (.map es2))).note i) {w with heap:=w.heap.setIfInBounds (Y i).b (.map l' ck)} base/\TR Y h w Y ((h.put i (some (.map es2))).note i) {w with heap:=w.heap.setIfInBounds (Y i).b (.map l' ck)}:=by
 have hlt:=H.block_lt hi
 have Xa:∀b,b < w.heap.size->b≠(Y i).b->({w with heap:=w.heap.setIfInBounds (Y i).b (.map l' ck)}:World).heap[b]?=w.heap[b]?:=fun b _ Yp=>by
  simp[Array.getElem?_setIfInBounds_ne (Ne.symm Yp)]
 exact⟨HR.setMap H i es es2 hi (by simp) Xa ⟨l',ck,by simp[hlt],hl⟩,TR.ofPut H i _ hi rfl _ (by simp) Xa rfl rfl rfl⟩
theorem Zhu {t kt et:Nat}{ty kty:Ty}{i:Nat}{x x' u u':Value}{es es2:List (Value×Value)}(H:HR G Y h w base)(ht:TyOk P t ty)(hk:ty.k=.map kt et)(hkt:TyOk P kt kty)
  (hx:VR Y h.next x x') (hu:VR Y h.next u u') (Si:Zb7 kty.k x=true) (hi:h.get i=some (.map es)) (hp:Zd6 es x u=some es2):
  Z2d P G Y h w base (Instr.mapUpdate t (.map (some (Y i).b)) x' u') ((h.put i (some (.map es2))).note i):=by
 obtain⟨d,hd,V9⟩:=ht.run_und w;rw[hk]at V9;have hd':d=.map kt et:=by cases d<;>simp[Xd]at V9;rw[V9.1,V9.2]
 subst hd';obtain⟨dk,Zo8,Zv2⟩:=hkt.run_und w;have hxe:=hx.key_eq Si;subst hxe;obtain⟨_,l,ck,h2,h3⟩:=H.map i es hi;have hck:=Tl (P:=P) (w:=w) false 9999 Zo8 Zv2 Si;rcases Z6p (Y:=Y) Zv2 Si hu hx 0 h3 hp with⟨j,y,e,g1,g2,g3,g4⟩ | ⟨g1,g2⟩
 .have hfk:(Instr.findKey kt x' l.toList).run P w=.ok (some (0+j,y)) w:=by
   simp only[Instr.findKey,Sem.run_bind,Zo8,Result.andThen_ok,g1,Sem.run_pure]
  have Zk:l[j]?=some e:=by simpa using g2
  obtain⟨q1,q2⟩:=Zbe H hi (l':=l.modify j fun e=>{e with key:=x',val:=u'}) (ck:=ck) (by simpa using g4);refine⟨Y,_,?_,q1,q2⟩;simp only[Instr.mapUpdate,Sem.run_bind,hd,Result.andThen_ok,Vl h2,hck,hfk,Nat.zero_add,Zk,Option.map_some,Option.getD_some,g3,Instr.keyThatStays,Zre Si,if_true,Sem.run_pure,Ts _ h2]
 .have hfk:(Instr.findKey kt x' l.toList).run P w=.ok none w:=by
   simp only[Instr.findKey,Sem.run_bind,Zo8,Result.andThen_ok,g1,Sem.run_pure]
  obtain⟨q1,q2⟩:=Zbe H hi (l':=l.push {key:=x',val:=u',born:=ck}) (ck:=ck+1) (by simpa using g2 ck);refine⟨Y,_,?_,q1,q2⟩;simp only[Instr.mapUpdate,Sem.run_bind,hd,Result.andThen_ok,Vl h2,hck,hfk,Ts _ h2]
theorem Z4r {argTypes:Array TypeId}{ret:TypeId}{t kt et:Nat}{ty kty:Ty}{i:Nat}{x x':Value}{es es2:List (Value×Value)}(H:HR G Y h w base)(h0:argTypes[0]?=some t)(ht:TyOk P t ty)(hk:ty.k=.map kt et)(hkt:TyOk P kt kty)
  (hx:VR Y h.next x x') (Si:Zb7 kty.k x=true) (hi:h.get i=some (.map es)) (hp:Zd7 es x=some es2):
  Yj P G Y h w base (Builtin.delete_ argTypes ret #[.map (some (Y i).b),x']) (.tuple #[]) ((h.put i (some (.map es2))).note i):=by
 obtain⟨d,hd,V9⟩:=ht.run_und w;rw[hk]at V9;have hd':d=.map kt et:=by cases d<;>simp[Xd]at V9;rw[V9.1,V9.2]
 subst hd';obtain⟨dk,Zo8,Zv2⟩:=hkt.run_und w;have hxe:=hx.key_eq Si;subst hxe;obtain⟨_,l,ck,h2,h3⟩:=H.map i es hi;have hck:=Tl (P:=P) (w:=w) l.isEmpty 9999 Zo8 Zv2 Si;rcases Z9u (Y:=Y) Zv2 Si 0 h3 hp with⟨j,y,g1,g2,g3⟩ | ⟨g1,g2⟩
 .have hfk:(Instr.findKey kt x' l.toList).run P w=.ok (some (0+j,y)) w:=by
   simp only[Instr.findKey,Sem.run_bind,Zo8,Result.andThen_ok,g1,Sem.run_pure]
  obtain⟨q1,q2⟩:=Zbe H hi (l':=l.eraseIdxIfInBounds j) (ck:=ck) (by simpa[Array.toList_eraseIdxIfInBounds]using g3);refine⟨Y,_,_,?_,q1,.tuple _ _ .nil,q2⟩;simp only[Builtin.delete_,h0,List.getElem?_toArray,List.getElem?_cons_zero,List.getElem?_cons_succ,Sem.run_bind,hd,Result.andThen_ok,Vl h2,hck,hfk,Nat.zero_add,Sem.run_pure,Ts _ h2]
 .have hfk:(Instr.findKey kt x' l.toList).run P w=.ok none w:=by
   simp only[Instr.findKey,Sem.run_bind,Zo8,Result.andThen_ok,g1,Sem.run_pure]
  obtain⟨q1,q2⟩:=Zbe H hi (l':=l) (ck:=ck) g2;refine⟨Y,_,_,?_,q1,.tuple _ _ .nil,q2⟩;simp only[Builtin.delete_,h0,List.getElem?_toArray,List.getElem?_cons_zero,List.getElem?_cons_succ,Sem.run_bind,hd,Result.andThen_ok,Vl h2,hck,hfk,Sem.run_pure,Ts _ h2]
theorem Sr {isS:Bool}{len cap:Nat}{lo hi lo' hi':Option Value}{l u:Nat}(hlc:len<=cap)(hb:Ve len lo hi=some (l,u))(h1:lo'=lo)(h2:hi'=hi):
  (Instr.sliceBounds isS len cap lo' hi' none).run P w=.ok (l,u,cap) w/\l<=u/\u<=len:=by
 subst h1 h2
 have hsb:∀(x:Value) (k y:Nat) (code:BoundsCode),Zht x=some k->k<=y->(Instr.sliceBound x y code).run P w=.ok k w:=by
  intro x k y code hx hk;cases x<;>simp[Zht]at hx;rename_i kk nn;obtain⟨hx1,hx2⟩:=hx;simp only[Instr.sliceBound,asIntOf,Sem.run_bind,Sem.run_pure,Result.andThen_ok];rw[if_pos ⟨hx1,by omega⟩,hx2];rfl
 unfold Ve at hb;split at hb
 .rename_i hh ll e1 e2;split at hb
  .rename_i hle;cases hb;refine⟨?_,hle.1,hle.2⟩;cases lo'<;>cases hi'<;>simp only[Option.some.injEq]at e1 e2
   .subst e1 e2;simp[Instr.sliceBounds]
   .subst e2;simp[Instr.sliceBounds,hsb _ _ cap _ e1 (by omega)]
   .subst e1;simp[Instr.sliceBounds,hsb _ _ len _ e2 hle.1]
   .simp [Instr.sliceBounds,hsb _ _ cap _ e1 (by omega),hsb _ _ _ _ e2 hle.1]
  .cases hb
 .cases hb
theorem Zq9 {t:Nat}{ty:Ty}{s:ByteArray}{lo hi:Option Value}{l u:Nat}(H:HR G Y h w base)(ht:TyOk P t ty)(hk:ty.k=.str)(hb:Ve s.size lo hi=some (l,u)):
  Yj P G Y h w base (Instr.sliceAt t (.string s) lo hi none) (.string (s.extract l u)) h:=by
 obtain⟨d,hd,V9⟩:=ht.run_und w;rw[hk]at V9;have hd':d=.string:=by cases d<;>simp[Xd]at V9;rfl
 subst hd';obtain⟨h1,h2,h3⟩:=Sr (P:=P) (w:=w) (isS:=false) (Nat.le_refl _) hb rfl rfl;refine Yj.same H (v':=.string (s.extract l u)) ?_ (.string _);simp only[Instr.sliceAt,Instr.slice,Sem.run_bind,hd,Result.andThen_ok,Option.isSome_none,Bool.false_eq_true,if_false,h1,Sem.run_pure]
theorem Zra {t e:Nat}{ty te:Ty}{lo hi:Option Value}{l u:Nat}(H:HR G Y h w base)(ht:TyOk P t ty)(hk:ty.k=.slice e)(Vw:TyOk P e te)(hb:Ve 0 lo hi=some (l,u)):
  Yj P G Y h w base (Instr.sliceAt t (.slice none 0 0) lo hi none) (.slice none (u - l) (u - l)) h:=by
 obtain⟨d,hd,V9⟩:=ht.run_und w;rw[hk]at V9;have hd':d=.slice e:=by cases d<;>simp[Xd]at V9;rw[V9]
 subst hd';obtain⟨h1,h2,h3⟩:=Sr (P:=P) (w:=w) (isS:=true) (Nat.le_refl _) hb rfl rfl;obtain rfl:u=0:=by omega
 obtain rfl:l=0:=by omega
 refine Yj.same H (v':=.slice none 0 0) ?_ .nilslice;simp only[Instr.sliceAt,Instr.slice,Sem.run_bind,hd,Result.andThen_ok,h1,Vw.run_size w,Sem.run_pure,if_true,Nat.sub_self]
theorem Z6h {t e e':Nat}{ty te:Ty}{i o len cap:Nat}{s':Value}{lo hi:Option Value}{l u:Nat}{cs:List Value}{own:Bool}(H:HR G Y h w base)(ht:TyOk P t ty)(hk:ty.k=.slice e)(Vw:TyOk P e te)
  (hs:VR Y h.next (.slice (some ⟨i,o,none⟩) len cap) s') (hg:h.get i=some (.row cs te.size own)) (hb:Ve len lo hi=some (l,u)):
  Yj P G Y h w base (Instr.sliceAt t s' lo hi none) (.slice (some ⟨i,o+l*te.size,none⟩) (u - l) (u - l)) h:=by
 obtain⟨d,hd,V9⟩:=ht.run_und w;rw[hk]at V9;have hd':d=.slice e:=by cases d<;>simp[Xd]at V9;rw[V9]
 subst hd';cases hs with
 |slice _ _ _ _ W1 hlt hl hbd=>
  obtain⟨h1,h2,h3⟩:=Sr (P:=P) (w:=w) (isS:=true) hl hb rfl rfl;by_cases hm:W1=l
  .have hz:u - l=0:=by omega
   refine Yj.same H (v':=.slice (some ⟨(Y i).b,(Y i).d+o,none⟩) 0 0) ?_ ?_
   .simp only [Instr.sliceAt,Instr.slice,Sem.run_bind,hd,Result.andThen_ok,h1,Vw.run_size w,Sem.run_pure];rw[if_pos hm,hz,show W1 - l=0 by omega]
   .rw [hz];exact .empty i _ _ 0 hlt
  .refine Yj.same H (v':=.slice (some ⟨(Y i).b,(Y i).d+(o+l*te.size),none⟩) (u - l) (W1 - l)) ?_ ?_
   .simp only [Instr.sliceAt,Instr.slice,Sem.run_bind,hd,Result.andThen_ok,h1,Vw.run_size w,Sem.run_pure,hm,if_false,Option.map_some,Za0,Nat.add_assoc]
   .refine .slice i (o+l*te.size) (u - l) (u - l) (W1 - l) hlt (by omega) fun Z3m=>?_
    have h5:=hbd Z3m;obtain⟨r1,_,_,_,_,_,_,r5,_⟩:=H.row i cs te.size own hg;rw[Z3m]at r1;have he:=(r5 r1.symm).1;rw[he]at h5 ⊢;have h6:l+(W1 - l)=W1:=by omega
    have h7:(l+(W1 - l))*te.size=W1*te.size:=by rw[h6]
    rw[Nat.add_mul]at h7;omega
 |empty _ _ o' _ hlt=>
  obtain⟨h1,h2,h3⟩:=Sr (P:=P) (w:=w) (isS:=true) (Nat.le_refl 0) hb rfl rfl;obtain rfl:u=0:=by omega
  obtain rfl:l=0:=by omega
  refine Yj.same H (v':=.slice (some ⟨(Y i).b,o',none⟩) 0 0) ?_ (.empty i _ _ _ hlt);simp only[Instr.sliceAt,Instr.slice,Sem.run_bind,hd,Result.andThen_ok,h1,Vw.run_size w,Sem.run_pure,if_true,Nat.sub_self]
theorem Zgi {t e:Nat}{ty te:Ty}{i o len cap:Nat}{s':Value}{kk:IntKind}{ix:Int}(H:HR G Y h w base)(ht:TyOk P t ty)(hk:ty.k=.slice e)(Vw:TyOk P e te)
  (hs:VR Y h.next (.slice (some ⟨i,o,none⟩) len cap) s') (h0:0<=ix) (h1:ix < len):
  Yj P G Y h w base (Instr.indexAt t s' (.int kk ix)) (.pointer (some ⟨i,o+ix.toNat*te.size,none⟩)) h:=by
 obtain⟨d,hd,V9⟩:=ht.run_und w;rw[hk]at V9;have hd':d=.slice e:=by cases d<;>simp[Xd]at V9;rw[V9]
 subst hd';cases hs with
 |slice _ _ _ _ W1 hlt hl hbd=>
  refine Yj.same H (v':=.pointer (some ⟨(Y i).b,(Y i).d+(o+ix.toNat*te.size),none⟩)) ?_ (.ptr i _ hlt);simp only[Instr.indexAt,asIntOf,Sem.run_bind,Sem.run_pure,Result.andThen_ok,hd];rw[if_pos ⟨h0,h1⟩];simp only[Sem.run_bind,Vw.run_size w,Result.andThen_ok,Sem.run_pure,Za0,Nat.add_assoc]
 |empty _ _ o' _ hlt=>simp at h1;omega
theorem Zgj {t e n:Nat}{ty te:Ty}{i o:Nat}{kk:IntKind}{ix:Int}(H:HR G Y h w base)(ht:TyOk P t ty)(hk:ty.k=.array n e)(Vw:TyOk P e te)(hlt:Lv Y h.next i)
  (h0:0<=ix) (h1:ix < n):Yj P G Y h w base (Instr.indexAt t (.pointer (some ⟨(Y i).b,(Y i).d+o,none⟩)) (.int kk ix)) (.pointer (some ⟨i,o+ix.toNat*te.size,none⟩)) h:=by
 obtain⟨d,hd,V9⟩:=ht.run_und w;rw[hk]at V9;have hd':d=.array n e:=by cases d<;>simp[Xd]at V9;rw[V9.1,V9.2]
 subst hd';refine Yj.same H (v':=.pointer (some ⟨(Y i).b,(Y i).d+(o+ix.toNat*te.size),none⟩)) ?_ (.ptr i _ hlt);simp only[Instr.indexAt,asIntOf,Sem.run_bind,Sem.run_pure,Result.andThen_ok,hd,Instr.sureAddr];rw[if_pos ⟨h0,h1⟩];simp only[Sem.run_bind,Vw.run_size w,Result.andThen_ok,Sem.run_pure,Za0,Nat.add_assoc]
theorem Zhb {s:Nat}{ty:Ty}{fs:List (Nat×Nat)}(ht:TyOk P s ty)(hk:ty.k=.struct fs){f off u:Nat}(hf:fs[f]?=some (off,u)):
  ∃(ff:Array Field) (fl:Field),(underlying s).run P w=.ok (.struct ff) w/\ff[f]?=some fl/\fl.offset=off/\fl.type=u:=by
 obtain⟨d,hd,V9⟩:=ht.run_und w;rw[hk]at V9;cases d<;>simp[Xd]at V9;rename_i ff;have:(ff.toList.map (fun f=>(f.offset,f.type)))[f]?=some (off,u):=by rw[V9];exact hf
 rw[List.getElem?_map,Option.map_eq_some_iff]at this;obtain⟨fl,h1,h2⟩:=this;simp only[Prod.mk.injEq]at h2;exact⟨ff,fl,hd,by simpa using h1,h2.1,h2.2⟩
theorem Zsg {s u off f i o:Nat}{ty tu:Ty}{fs:List (Nat×Nat)}(H:HR G Y h w base)(ht:TyOk P s ty)(hk:ty.k=.struct fs)(hf:fs[f]?=some (off,u))(htu:TyOk P u tu)(hsz:tu.size≠0)(hlt:Lv Y h.next i):
  Yj P G Y h w base (Instr.fieldAt s (.pointer (some ⟨(Y i).b,(Y i).d+o,none⟩)) f) (.pointer (some ⟨i,o+off,none⟩)) h:=by
 obtain⟨ff,fl,h1,h2,h3,h4⟩:=Zhb (w:=w) ht hk hf;refine Yj.same H (v':=.pointer (some ⟨(Y i).b,(Y i).d+(o+off),none⟩)) ?_ (.ptr i _ hlt);have hs:=htu.run_size w;rw[<- h4]at hs;simp only[Instr.fieldAt,Sem.run_bind,h1,Result.andThen_ok,h2,Instr.sureAddr,Sem.run_pure,fieldPlace,hs];rw[if_neg hsz];simp only[Sem.run_pure,Result.andThen_ok,Za0,h3,Nat.add_assoc]
theorem Z0m {u off:Nat}{tu:Ty}{cs cs':List Value}{r:List Value}(htu:TyOk P u tu)(hcs:VRs Y h.next cs cs')(hr:readN cs off tu.size=some r)(hv:toV tu.k.agg r=some v):
  ∃v',(part u cs'.toArray off).run P w=.ok v' w/\VR Y h.next v v':=by
 obtain⟨g1,g2⟩:=Zjc hr
 have hrr:VRs Y h.next r ((cs'.drop off).take tu.size):=by
  refine VRs.of_get ?_ fun j x hj=>?_
  .rw [g1,List.length_take,List.length_drop,hcs.length]
   have:r=(cs.drop off).take tu.size:=by
    unfold readN at hr;simp only at hr;split at hr
    .cases hr;rfl
    .cases hr
   rw[this,List.length_take,List.length_drop]at g1;exact g1
  .have hjn:j < tu.size:=by rw[<- g1];exact (List.getElem?_eq_some_iff.1 hj).1
   rw[g2 j hjn]at hj;obtain⟨y,y1,y2⟩:=hcs.get hj;exact⟨y,by rw[List.getElem?_take_of_lt hjn,List.getElem?_drop];exact y1,y2⟩
 obtain⟨v',k1,k2,k3⟩:=Zi7 hrr hv;refine⟨v',?_,k1⟩;simp only[part,Sem.run_bind,htu.run_agg w,Result.andThen_ok];cases Zjw:tu.k.agg with
 |true=>
  simp only[if_true,Sem.run_bind,htu.run_size w,Result.andThen_ok,Sem.run_pure,k2 Zjw];congr 2;apply Array.toList_inj.1;simp[List.drop_take]
 |false=>
  obtain⟨e1,e2⟩:=k3 Zjw;have hsz:tu.size=1:=by rw[<- g1,e1];rfl
  have:cs'[off]?=some v':=by
   have h0:((cs'.drop off).take tu.size)[0]?=some v':=by rw[e2];rfl
   rw[List.getElem?_take_of_lt (by omega),List.getElem?_drop]at h0;simpa using h0
  simp[this]
theorem Z9j {s u off f:Nat}{ty tu:Ty}{fs:List (Nat×Nat)}{cs cs':Array Value}{r:List Value}(H:HR G Y h w base)(ht:TyOk P s ty)(hk:ty.k=.struct fs)(hf:fs[f]?=some (off,u))(htu:TyOk P u tu)
  (hcs:VRs Y h.next cs.toList cs'.toList) (hr:readN cs.toList off tu.size=some r) (hv:toV tu.k.agg r=some v):Yj P G Y h w base (Instr.field s (.agg cs') f) v h:=by
 obtain⟨ff,fl,h1,h2,h3,h4⟩:=Zhb (w:=w) ht hk hf;obtain⟨v',k1,k2⟩:=Z0m (P:=P) (w:=w) htu hcs hr hv;refine Yj.same H (v':=v') ?_ k2;rw[<- h3,<- h4]at k1;simp only[Instr.field,Sem.run_bind,h1,Result.andThen_ok,h2,asAgg,Sem.run_pure];simpa using k1
theorem Zm6 {t e n:Nat}{ty te:Ty}{cs cs':Array Value}{r:List Value}{kk:IntKind}{ix:Int}(H:HR G Y h w base)(ht:TyOk P t ty)(hk:ty.k=.array n e)(Vw:TyOk P e te)
  (hcs:VRs Y h.next cs.toList cs'.toList) (h0:0<=ix) (h1:ix < n) (hr:readN cs.toList (ix.toNat*te.size) te.size=some r) (hv:toV te.k.agg r=some v):Yj P G Y h w base (Instr.index t (.agg cs') (.int kk ix)) v h:=by
 obtain⟨d,hd,V9⟩:=ht.run_und w;rw[hk]at V9;have hd':d=.array n e:=by cases d<;>simp[Xd]at V9;rw[V9.1,V9.2]
 subst hd';obtain⟨v',k1,k2⟩:=Z0m (P:=P) (w:=w) Vw hcs hr hv;refine Yj.same H (v':=v') ?_ k2;simp only[Instr.index,asIntOf,Sem.run_bind,Sem.run_pure,Result.andThen_ok,hd];rw[if_pos ⟨h0,h1⟩];simp only[Sem.run_bind,Vw.run_size w,Result.andThen_ok];simpa using k1
theorem Zrq {t:Nat}{ty:Ty}{s:ByteArray}{kk:IntKind}{ix:Int}{b:UInt8}(H:HR G Y h w base)(ht:TyOk P t ty)(hk:ty.k=.str)(h0:0<=ix)(hb:s.data.toList[ix.toNat]?=some b):
  Yj P G Y h w base (Instr.index t (.string s) (.int kk ix)) (.int .u8 b.toNat) h:=by
 obtain⟨d,hd,V9⟩:=ht.run_und w;rw[hk]at V9;have hd':d=.string:=by cases d<;>simp[Xd]at V9;rfl
 subst hd';refine Yj.same H (v':=.int .u8 b.toNat) ?_ (.int _ _)
 have:s[ix.toNat]?=some b:=by
  rw[List.getElem?_eq_some_iff]at hb;obtain⟨h2,h3⟩:=hb;have hsz:ix.toNat < s.size:=by simpa using h2
  rw[getElem?_pos s ix.toNat hsz];simp only[Option.some.injEq];exact h3
 simp only[Instr.index,asIntOf,Sem.run_bind,Sem.run_pure,Result.andThen_ok,hd,h0,if_true,this]
end
section
variable {P:Program}{G:Nat}{Y:Nat->Blk}{h h':VH}{w:World}{base:Nat}{v:Value}
theorem Zwg {C:Ctx}{u n:Nat}{x x' y y':Value}{b:Bool}(he:Ry C u x y=some b)(hx:VR Y n x x')(hy:VR Y n y y'):x'=x/\y'=y:=by
 unfold Ry at he;split at he
 .cases he
 .split at he<;>first | (cases he;done) | skip
  all_goals (cases hx;cases hy;exact⟨rfl,rfl⟩)
theorem Znz {C:Ctx}{n:Nat}:∀ {k:Nat} {fs:List (Nat×Nat)} {l m l' m':List Value} {b:Bool},Zat C k fs l m=some b->VRs Y n l l'->VRs Y n m m'->l'=l/\m'=m
 | _,[],[],[],l',m',b,he,hx,hy=>by cases hx;cases hy;exact⟨rfl,rfl⟩
 |k,(o,u)::r,x::l,y::m,l',m',b,he,hx,hy=>by
  simp only[Zat]at he;split at he
  .rw [Option.bind_eq_some_iff]at he;obtain⟨a,h1,h2⟩:=he;rw[Option.map_eq_some_iff]at h2;obtain⟨c,h2,_⟩:=h2;cases hx with
   |cons hx rx=>
    cases hy with
    |cons hy ry=>
     obtain⟨e1,e2⟩:=Zwg h1 hx hy;obtain⟨e3,e4⟩:=Znz h2 rx ry;rw[e1,e2,e3,e4];exact⟨rfl,rfl⟩
  .cases he
def cmpB (P : Program) (t : TypeId) : Bool := !P.stoodInHeld t && !P.eqGuardType P.depth t && (P.fieldsOf t).toList.all fun f => f.name != "_"
structure TOk (C:Ctx)(P:Program):Prop where
 ty:∀t ty,C.T t=some ty->TyOk P t ty
 cmp:∀t,C.cmp t=true->cmpB P t=true
instance {C:Ctx} {P:Program}:CoeFun (TOk C P) (fun _=>∀t ty,C.T t=some ty->TyOk P t ty):=⟨TOk.ty⟩
theorem Zwk {C:Ctx}(hC:TOk C P){u k:Nat}{cs:Array Value}{l:List Value}{x y:Value}{b:Bool}(he:Ry C u x y=some b\/Ry C u y x=some b)(hdr:cs.toList.drop k=x::l):(part u cs k).run P w=.ok x w:=by
 have hx:cs[k]?=some x:=by
  have:(cs.toList.drop k)[0]?=some x:=by rw[hdr];rfl
  rw[List.getElem?_drop]at this;simpa using this
 have hT:∃ty,C.T u=some ty/\ty.k.agg=false:=by
  rcases he with he | he
  all_goals
   unfold Ry at he;split at he
   .cases he
   .rename_i ty Rn;refine⟨ty,Rn,?_⟩;split at he<;>first | (cases he;done) | skip
    all_goals (rename_i hk;rw[hk];rfl)
 obtain⟨ty,Rn,hag⟩:=hT;obtain⟨d,hd,V9⟩:=(hC u ty Rn).run_und w;unfold part isAgg;simp only[Sem.run_bind,hd,Result.andThen_ok];cases d<;>cases hkk:ty.k<;>rw[hkk]at V9 hag<;>simp[Xd]at V9<;>simp[TK.agg]at hag<;>simp[hx]
theorem Zaed {C:Ctx}(hC:TOk C P){u d:Nat}{x y:Value}{b:Bool}(he:Ry C u x y=some b):(Op.equalIn (d+1) u x y).run P w=.ok b w:=by
 unfold Ry at he;split at he
 .cases he
 .rename_i ty Rn;obtain⟨e,hd,V9⟩:=(hC u ty Rn).run_und w;split at he<;>first | (cases he;done) | skip
  all_goals
   rename_i hk;rw[hk]at V9;cases e<;>simp[Xd]at V9;rw[Op.equalIn];simp only[Sem.run_bind,hd,Result.andThen_ok]
  .cases he;rfl
  .split at he
   .rename_i hkk;cases he;simp[hkk]
   .cases he
  .cases he;simp[beq_toListBytes,ByteArray.toList_eq]
theorem Z6l {C : Ctx} (hC : TOk C P) {d : Nat} {xs ys : Array Value} : ∀ {fs : List Field} {k : Nat} {l m : List Value} {b : Bool}, fs.all (fun f => f.name != "_") = true -> Zat C k (fs.map fun f => (f.offset, f.type)) l m = some b -> xs.toList.drop k = l -> ys.toList.drop k = m -> (Op.eqFields (d + 1) xs ys fs).run P w = .ok b w
 | [],k,l,m,b,hn,he,hl,hm=>by
   cases l<;>cases m<;>simp[Zat]at he;subst he;rfl
 |f::fs,k,[],m,b,hn,he,hl,hm=>by simp[Zat]at he
 |f::fs,k,x::l,[],b,hn,he,hl,hm=>by simp[Zat]at he
 |f::fs,k,x::l,y::m,b,hn,he,hl,hm=>by
  simp only[List.map_cons,Zat]at he;rw[List.all_cons,Bool.and_eq_true]at hn;split at he
  .rename_i hk;subst hk;rw[Option.bind_eq_some_iff]at he;obtain⟨a,h1,h2⟩:=he;rw[Option.map_eq_some_iff]at h2;obtain⟨c,h2,rfl⟩:=h2;have ih:=Z6l hC (d:=d) (xs:=xs) (ys:=ys) hn.2 h2 (by rw[<- List.drop_drop,hl];rfl) (by rw[<- List.drop_drop,hm];rfl);have hnm : f.name ≠ "_" := by simpa using hn.1
   rw[Op.eqFields,if_pos hnm];simp only[Sem.run_bind,Zwk hC (.inl h1) hl,Zwk hC (.inr h1) hm,Result.andThen_ok,Zaed hC h1];cases a
   .rfl
   .simpa using ih
  .cases he
theorem Zala {C:Ctx}{t:Nat}{n:Nat}{x x' y y':Value}{b:Bool}(w:World)(hC:TOk C P)(hx:VR Y n x x')(hy:VR Y n y y')(he:eqV C t x y=some b):
  (∀op ox oy,(eqGuard op t ox oy x' y').run P w=.ok () w)/\(binOp .eql t x' y').run P w=.ok (.bool b) w/\(binOp .neq t x' y').run P w=.ok (.bool (!b)) w:=by
 unfold eqV at he;split at he
 .cases he
 .rename_i ty Rn;have ht:=hC t ty Rn;obtain⟨d,hd,V9⟩:=ht.run_und w;by_cases Xr:∃fs xs ys,ty.k=.struct fs/\x=.agg xs/\y=.agg ys
  .obtain ⟨fs,xs,ys,hk,rfl,rfl⟩:=Xr;rw[hk]at he V9;simp only at he;split at he
   .rename_i hc;have hB:=hC.cmp t hc;unfold cmpB at hB;simp only[Bool.and_eq_true,Bool.not_eq_true']at hB;obtain⟨⟨hB1,hB2⟩,hB3⟩:=hB;obtain⟨d',hd',hk'⟩:=ht.und;cases hx with
    |agg _ xs' hx=>
     cases hy with
     |agg _ ys' hy=>
      obtain⟨e1,e2⟩:=Znz he hx hy;rw[hk]at hk';cases d'<;>simp[Xd]at hk';rename_i fields;have hf:P.fieldsOf t=fields:=by unfold Program.fieldsOf;rw[hd']
      have hu:P.underlying t=some (.struct (P.fieldsOf t)):=by rw[hf];exact hd'
      have hR:(Op.equalIn 10000 t (.agg xs') (.agg ys')).run P w=.ok b w:=by
       rw[run_equalIn_struct w 9999 t xs' ys' hu hB1];refine Z6l hC (d:=9998) hB3 (k:=0) ?_ rfl rfl;rw[hf,hk',e1,e2];exact he
      refine⟨fun op ox oy=>run_eqGuard_agg w op t ox oy xs' ys' hB2,?_,?_⟩
      .rw [run_eql_struct,hR];rfl
      .rw [run_neq_struct,hR];rfl
   .cases he
  .replace Xr:∀fs xs ys,ty.k=.struct fs->x=.agg xs->y=.agg ys->False:=fun fs xs ys a b c=>Xr ⟨fs,xs,ys,a,b,c⟩
   split at he<;>first | (cases he;done) | (rename_i hk;exact (Xr _ _ _ hk rfl rfl).elim) | skip
   all_goals
    rename_i hk;rw[hk]at V9;cases d<;>simp[Xd]at V9
    cases hx<;>cases hy<;>simp at he<;>subst he<;>
     (refine⟨fun op ox oy=>?_,?_,?_⟩
      .unfold eqGuard;split<;>rfl
      .show (do pure (Value.bool (<- Op.equalIn (9999+1) t _ _)):Sem Value).run P w=_;rw[Op.equalIn];simp only[Sem.run_bind,hd,Result.andThen_ok];rfl
      .show (do pure (Value.bool (!(<- Op.equalIn (9999+1) t _ _))):Sem Value).run P w=_;rw[Op.equalIn];simp only[Sem.run_bind,hd,Result.andThen_ok];rfl)
theorem Z4a (op:BinOp)(t:Nat)(ox oy:Operand)(k k':IntKind)(a b:Int):(eqGuard op t ox oy (.int k a) (.int k' b)).run P w=.ok () w:=by
 unfold eqGuard;split<;>rfl
theorem Z39 (op:BinOp)(t:Nat)(ox oy:Operand)(a b:ByteArray):(eqGuard op t ox oy (.string a) (.string b)).run P w=.ok () w:=by
 unfold eqGuard;split<;>rfl
theorem Zzt {C:Ctx}{op:BinOp}{t:Nat}{k k':IntKind}{a b:Int}(he:Qj C op t (.int k a) (.int k' b)=some v):(binOp op t (.int k a) (.int k' b)).run P w=.ok v w/\flat 0 v=true:=by
 cases op<;>simp only[Qj]at he
 case shl=>
  split at he
  .cases he
  .rename_i hb;cases he;exact⟨by simp[binOp,Op.shift,hb],rfl⟩
 case shr=>
  split at he
  .cases he
  .rename_i hb;cases he;exact⟨by simp[binOp,Op.shift,hb],rfl⟩
 all_goals
  split at he
  .rename_i hk;subst hk
   first
    | (cases he;done)
    | (cases he;exact⟨by simp[binOp,Op.intArith,Op.intCmp,Op.intBits],rfl⟩)
    | (split at he
       .cases he
       .rename_i hb;cases he;exact⟨by simp[binOp,Op.intDiv,hb],rfl⟩)
  .cases he
theorem Zzs {C:Ctx}{op:BinOp}{t:Nat}{a b:ByteArray}(he:Qj C op t (.string a) (.string b)=some v):(binOp op t (.string a) (.string b)).run P w=.ok v w/\flat 0 v=true:=by
 cases op<;>simp only[Qj]at he
 case add=>
  split at he
  .rename_i hs;cases he;refine⟨?_,rfl⟩;have:¬ (((a.size+b.size:Nat):Int) > IntKind.i64.max):=by simp[IntKind.max,IntKind.bits,IntKind.signed];omega
   simp only[binOp,Op.stringOp];rw[if_neg this];rfl
  .cases he
 all_goals first
  | (cases he;done)
  | (cases he;exact⟨by simp[binOp,Op.stringOp,ByteArray.toList_eq],rfl⟩)
  | (simp[eqV]at he;done)
  |skip
end
section
variable {P:Program}{G:Nat}{Y:Nat->Blk}{h h':VH}{w:World}{base:Nat}{v:Value}
theorem Zalm {C:Ctx}{op:BinOp}{t:Nat}{x x' y y':Value}{ox oy:Operand}(hC:TOk C P)(H:HR G Y h w base)(hx:VR Y h.next x x')(hy:VR Y h.next y y')(he:Qj C op t x y=some v):
  Yj P G Y h w base (do eqGuard op t ox oy x' y';binOp op t x' y') v h:=by
 have key:∀(g:(eqGuard op t ox oy x' y').run P w=.ok () w) (b:(binOp op t x' y').run P w=.ok v w) (f:flat 0 v=true),Yj P G Y h w base (do eqGuard op t ox oy x' y';binOp op t x' y') v h:=
  fun g b f=>Yj.same H (by simp only[Sem.run_bind,g,Result.andThen_ok,b]) (VR.of_flat 0 v f)
 have heq:∀b,eqV C t x y=some b->(op=.eql/\v=.bool b\/op=.neq/\v=.bool (!b))->Yj P G Y h w base (do eqGuard op t ox oy x' y';binOp op t x' y') v h:=by
  intro b hb X6;obtain⟨r1,r2,r3⟩:=Zala w hC hx hy hb;rcases X6 with⟨rfl,rfl⟩ | ⟨rfl,rfl⟩
  .exact key (r1 _ _ _) r2 rfl
  .exact key (r1 _ _ _) r3 rfl
 by_cases hii:(∃k a k' b,x=.int k a/\y=.int k' b)
 .obtain ⟨k,a,k',b,rfl,rfl⟩:=hii;cases hx;cases hy;obtain⟨q1,q2⟩:=Zzt (w:=w) (P:=P) he;exact key (Z4a op t ox oy _ _ _ _) q1 q2
 .by_cases hss:(∃a b,x=.string a/\y=.string b)
  .obtain ⟨a,b,rfl,rfl⟩:=hss;cases hx;cases hy;obtain⟨q1,q2⟩:=Zzs (w:=w) (P:=P) he;exact key (Z39 op t ox oy _ _) q1 q2
  .unfold Qj at he
   split at he<;>first
    |exact absurd ⟨_,_,_,_,rfl,rfl⟩ hii
    |exact absurd ⟨_,_,rfl,rfl⟩ hss
    | (rw[Option.map_eq_some_iff]at he
       obtain⟨b,hb,rfl⟩:=he
       first | exact heq b hb (.inl ⟨rfl,rfl⟩) | exact heq b hb (.inr ⟨rfl,rfl⟩))
    |cases he
theorem Zaeq {C:Ctx}{op:BinOp}{t:Nat}{x x' y y':Value}{ox oy:Operand}(hC:TOk C P)(H:HR G Y h w base)(hx:VR Y h.next x x')(hy:VR Y h.next y y')(he:(nilE C op t ox oy x y).or (Qj C op t x y)=some v):
  Yj P G Y h w base (do eqGuard op t ox oy x' y';binOp op t x' y') v h:=by
 cases hn:nilE C op t ox oy x y with
 |none=>rw[hn,Option.none_or]at he;exact Zalm hC H hx hy he
 |some r=>
  rw[hn,Option.some_or]at he;cases he;unfold nilE at hn;split at hn
  .rename_i hlit
   have Sh:∀o,litNil o=true->o=.const .nilIface:=by
    intro o ho;unfold litNil at ho;split at ho
    .rfl
    .cases ho
   have hg:∀op,(eqGuard op t ox oy .nilIface .nilIface).run P w=.ok () w:=by
    intro op;rw[Bool.or_eq_true]at hlit;rcases hlit with h1 | h1
    .rw [Sh _ h1];cases op<;>simp[eqGuard]<;>rfl
    .rw [Sh _ h1];cases op<;>simp[eqGuard]<;>rfl
   split at hn
   all_goals first
    | (cases hn;done)
    |skip
   all_goals
    split at hn
    .rename_i hk;cases hn;cases hx;cases hy;unfold ifaceK at hk;split at hk
     .rename_i ty Rn;obtain⟨d,hd,V9⟩:=(hC t ty Rn).run_und w;split at hk
      .rename_i hk2;rw[hk2]at V9;cases d<;>simp[Xd]at V9
       refine Yj.same H (by simp only[Sem.run_bind,hg,Result.andThen_ok];first
        | (show (do pure (Value.bool (<- Op.equalIn (9999+1) t _ _)):Sem Value).run P w=_
           rw[Op.equalIn];simp only[Sem.run_bind,hd,Result.andThen_ok];rfl)
        | (show (do pure (Value.bool (!(<- Op.equalIn (9999+1) t _ _))):Sem Value).run P w=_
           rw[Op.equalIn];simp only[Sem.run_bind,hd,Result.andThen_ok];rfl)) (VR.of_flat 0 _ rfl)
      .cases hk
     .cases hk
    .cases hn
  .cases hn
theorem Zaol {op:UnOp}{x x':Value}(H:HR G Y h w base)(hx:VR Y h.next x x')(he:unV op x=some v):Yj P G Y h w base (Op.unary op x') v h:=by
 unfold unV at he;split at he
 .cases he;cases hx;exact Yj.same H (by simp[Op.unary,Op.intArith]) (.int _ _)
 .cases he;cases hx;exact Yj.same H (by simp[Op.unary]) (.bool _)
 .cases he
theorem Zwx:∀ {xs:List Value} {b:ByteArray},Zc4 xs=some b->∃ns:List Int,xs=ns.map (Value.int .u8)/\∀s:ByteArray,ns.foldl (fun r n=>r.push (UInt8.ofNat n.toNat)) s=⟨(s.data.toList++b.data.toList).toArray⟩
 | [],b,hb=>by
   simp only[Zc4,Option.some.injEq]at hb;subst hb;exact⟨[],rfl,fun s=>by simp⟩
 | .int .u8 n::r,b,hb=>by
   simp only[Zc4,Option.map_eq_some_iff]at hb;obtain⟨b2,hb2,rfl⟩:=hb;obtain⟨ns,h1,h2⟩:=Zwx hb2;refine⟨n::ns,by simp[h1],fun s=>?_⟩;rw[List.foldl_cons,h2];simp[ByteArray.push]
theorem Zzq {C:Ctx}{src dst:Nat}{ts td:Ty}{x x':Value}(hC:TOk C P)(H:HR G Y h w base)(hs:TyOk P src ts)(hd:TyOk P dst td)(hx:VR Y h.next x x'):
  (∀k kk n,td.k=.int k->x=.int kk n->Yj P G Y h w base (convert src dst x') (.int k (k.wrap n)) h) /\
  (∀s,td.k=.str->x=.string s->Yj P G Y h w base (convert src dst x') (.string s) h) /\
  (∀e te s,td.k=.slice e->TyOk P e te->te.k=.int .u8->x=.string s->s.size<=maxLenV ->
    Yj P G Y h w base (convert src dst x') (.slice (some ⟨h.next,0,none⟩) s.size s.size) (h.new (.row (s.data.toList.map fun b=>.int .u8 b.toNat) 1 true))) /\
  (∀e te a l c xs b,ts.k=.slice e->td.k=.str->TyOk P e te->te.k=.int .u8->x=.slice a l c->h.elems 1 x=some xs->Zc4 xs=some b->Yj P G Y h w base (convert src dst x') (.string b) h):=by
 obtain⟨d1,u1,k1⟩:=hs.run_und w;obtain⟨d2,u2,k2⟩:=hd.run_und w;refine⟨?_,?_,?_,?_⟩
 .intro k kk n hk hxe;subst hxe;cases hx;rw[hk]at k2;have:d2=.int k:=by cases d2<;>simp[Xd]at k2;rw[k2]
  subst this;exact Yj.same H (by simp only[convert,Sem.run_bind,u1,u2,Result.andThen_ok];rfl) (.int _ _)
 .intro s hk hxe;subst hxe;cases hx;rw[hk]at k2;have:d2=.string:=by cases d2<;>simp[Xd]at k2;rfl
  subst this;exact Yj.same H (by simp only[convert,Sem.run_bind,u1,u2,Result.andThen_ok];cases d1<;>rfl) (.string _)
 .intro e te s hk he hek hxe hsz;subst hxe;cases hx;rw[hk]at k2;have:d2=.slice e:=by cases d2<;>simp[Xd]at k2;rw[k2]
  subst this;obtain⟨d3,u3,k3⟩:=he.run_und w;rw[hek]at k3;have:d3=.int .u8:=by cases d3<;>simp[Xd]at k3;rw[k3]
  subst this;have p1:∃u,P.underlying src=some u:=by obtain⟨d,hd,_⟩:=hs.und;exact⟨d,hd⟩
  obtain⟨uu,p1⟩:=p1
  have p2:P.underlying dst=some (.slice e):=by
   obtain⟨d,hd,V9⟩:=hd.und;rw[hk]at V9;cases d<;>simp[Xd]at V9;rw[hd,V9]
  have p3:P.underlying e=some (.int .u8):=by
   obtain⟨d,hd,V9⟩:=he.und;rw[hek]at V9;cases d<;>simp[Xd]at V9;rw[hd,V9]
  have Y5:=Lib.run_convert_string_bytes w src dst e s p1 p2 p3;have hge:s.size<=grownCap w s.size 0 e:=grownCap_ge w s.size 0 e;have hc:(Lib.bytesCells w e s).size=grownCap w s.size 0 e:=by simp[Lib.bytesCells];omega
  have:=Qt H (s.data.toList.map fun b=>.int .u8 b.toNat) 1 (w':=Lib.bytesWorld w e s) (c:=Lib.bytesCells w e s) (el:=e) (fr:=((Lib.bytesCells w e s).size,(Lib.bytesCells w e s).size+1)) (by simp[cellB])
   (fun j u hj=>by
     rw[List.getElem?_map,Option.map_eq_some_iff]at hj;obtain⟨b,hb,rfl⟩:=hj;have hjl:j < s.data.size:=by simpa using (List.getElem?_eq_some_iff.1 hb).1
     refine⟨.int .u8 b.toNat,?_,.int _ _⟩;simp only[Lib.bytesCells];rw[Array.getElem?_append_left (by simpa using hjl)];simp only[Array.getElem?_map];rw[<- Array.getElem?_toList,hb];rfl)
   (by simp only[List.length_map,Array.length_toList];rw[hc];exact hge) (Lib.bytesWorld_at_new w e s) (fun j hj hh=>by have:=hh.1;dsimp only at this;omega) (by rw[Lib.bytesWorld_size];omega) (fun b hb=>Lib.bytesWorld_at_old w e s b hb) rfl rfl rfl
  refine⟨_,_,_,Y5,this.1,?_,this.2⟩;have hsn:=T8 (Y:=Y) (h:=h) ⟨w.heap.size,0,(Lib.bytesCells w e s).size,1,true,true⟩ s.size s.size (grownCap w s.size 0 e) hge (fun _=>by simp[hc]);exact hsn
 .intro e te a l c xs b hk hk2 he hek hxe hel hby;subst hxe;rw[hk]at k1;rw[hk2]at k2;have e1:d1=.slice e:=by cases d1<;>simp[Xd]at k1;rw[k1]
  have e2:d2=.string:=by cases d2<;>simp[Xd]at k2;rfl
  subst e1 e2;obtain⟨d3,u3,k3⟩:=he.run_und w;rw[hek]at k3;have:d3=.int .u8:=by cases d3<;>simp[Xd]at k3;rw[k3]
  subst this;obtain⟨ns,n1,n2⟩:=Zwx hby;obtain⟨xs',q1,q2,q3,q4,q5⟩:=Zn2 (P:=P) H hx (show Zro _=some l by rfl) hel
  have hxs:xs'=ns.map (Value.int .u8):=by
   have:=VRs.eq_of_flat 0 q2 (by rw[n1];exact List.all_eq_true.2 fun u hu=>by obtain⟨n,_,rfl⟩:=List.mem_map.1 hu;rfl);rw[this,n1]
  have hbb:ns.foldl (fun r n=>r.push (UInt8.ofNat n.toNat)) ByteArray.empty=b:=by
   rw[n2];cases b;rfl
  have Z8u:(Conv.bytesToString x').run P w=.ok (.string b) w:=by
   cases hx with
   |nilslice=>
    have hl0:xs=[]:=by simpa[VH.elems]using hel.symm
    rw[hl0]at hby;simp[Zc4]at hby;subst hby;rfl
   |slice i o _ _ W1 hlt hl hb=>
    have:=q1 w rfl;simp only[Builtin.firstCells,Nat.mul_one,hxs]at this;rw[run_bytesToString w _ l W1 ns this,hbb]
   |empty i o o' _ hlt=>
    have hl0:xs=[]:=List.eq_nil_of_length_eq_zero (q4.trans (Nat.zero_mul _));have hns:ns=[]:=by rw[hl0]at n1;exact List.map_eq_nil_iff.1 n1.symm
    have:=q1 w rfl;simp only[Builtin.firstCells,Nat.mul_one,hxs]at this;rw[run_bytesToString w _ 0 0 ns this,hbb]
  refine Yj.same H (v':=.string b) ?_ (.string _);simp only[convert,Sem.run_bind,u1,u2,Result.andThen_ok];cases hx with
  |nilslice=>simp only[Sem.run_bind,u3,Result.andThen_ok];exact Z8u
  |slice i o _ _ W1 hlt hl hb=>simp only[Sem.run_bind,u3,Result.andThen_ok];exact Z8u
  |empty i o o' _ hlt=>simp only[Sem.run_bind,u3,Result.andThen_ok];exact Z8u
end
section
variable {P:Program}{G:Nat}{Y:Nat->Blk}{h:VH}{w:World}{base:Nat}{v:Value}
theorem Zpq {C:Ctx}(hC:TOk C P):∀(fs:List Field),(fs.map (fun f=>(f.offset,f.type))).all (fun f=>(C.T f.2).isSome)=true ->
  ∃places,fs.mapM (fun f=>(P.info? f.type).map fun i=>(f.offset,i.size))=some places /\
   ∀(i:Nat) (p:Nat×Nat),(((fs.map (fun f=>(f.offset,f.type)))[i]?).bind fun ((off,u):Nat×Nat)=>(C.T u).map fun (tu:Ty)=>(off,tu.size))=some p->places[i]?=some p
 | [],_=>⟨[],rfl,fun i p hp=>by simp at hp⟩
 |f::fs,ha=>by
  simp only[List.map_cons,List.all_cons,Bool.and_eq_true]at ha;obtain⟨places,h1,h2⟩:=Zpq hC fs ha.2;obtain⟨tu,htu⟩:=Option.isSome_iff_exists.1 ha.1;obtain⟨i,hi,his,_⟩:=(hC _ _ htu).info;refine⟨(f.offset,i.size)::places,by simp[List.mapM_cons,hi,h1],fun j p hp=>?_⟩;cases j with
  |zero=>
   simp only[List.map_cons,List.getElem?_cons_zero,Option.bind_some,htu,Option.map_some,Option.some.injEq]at hp;simp[<- hp,his]
  |succ j=>simpa using h2 j p (by simpa using hp)
theorem Zwy {C:Ctx}{t:Nat}{ty:Ty}{vs Qk:List (Nat×Value)}{cs:List Value}(hC:TOk C P)(H:HR G Y h w base)(ht:TyOk P t ty)(hp:PRs Y h.next vs Qk)
  (hf:(∃fs,ty.k=.struct fs/\fs.all (fun f=>(C.T f.2).isSome)=true/\Qn (fun i=>(fs[i]?).bind fun (off,u)=>(C.T u).map fun tu=>(off,tu.size)) ty.zero vs=some cs) \/
    (∃n e te,ty.k=.array n e/\TyOk P e te/\Qn (fun i=>some (i*te.size,te.size)) ty.zero vs=some cs)):
  Yj P G Y h w base (Instr.build t Qk.toArray) (.agg cs.toArray) h:=by
 obtain⟨d,hu,hk⟩:=ht.und;obtain⟨it,hi,_,_,z,hz,hzc,_⟩:=ht.info;have hz0:VRs Y h.next ty.zero ty.zero:=VRs.of_flat 1 _ ht.zflat;have hzt:z.cells=ty.zero.toArray:=by rw[<- hzc]
 rcases hf with⟨fs,hks,hall,hf⟩ | ⟨n,e,te,hka,Vw,hf⟩
 .rw [hks]at hk;cases d<;>simp[Xd]at hk;rename_i ff;have hfs:ff.toList.map (fun f=>(f.offset,f.type))=fs:=hk;obtain⟨places,h1,h2⟩:=Zpq hC ff.toList (by rw[hfs];exact hall);rw[hfs]at h2;obtain⟨cs',g1,g2,_⟩:=Zii (place':=(places.toArray[·]?)) (fun i p hp=>by simpa using h2 i p hp) hp hz0 hf;refine Yj.same (v':=.agg cs'.toArray) H (run_build w t Qk.toArray cs'.toArray ?_) (.agg _ _ (by simpa using g2));simp only[Program.built,hi,hu,hz,h1,hzt];exact g1
 .rw [hka]at hk;cases d<;>simp[Xd]at hk;obtain⟨rfl,rfl⟩:=hk;obtain⟨ie,hie,hies,_⟩:=Vw.info;obtain⟨cs',g1,g2,_⟩:=Zii (place':=fun i=>some (i*te.size,te.size)) (fun i p hp=>hp) hp hz0 hf;refine Yj.same (v':=.agg cs'.toArray) H (run_build w t Qk.toArray cs'.toArray ?_) (.agg _ _ (by simpa using g2));simp only[Program.built,hi,hu,hz,hie,hzt,hies];exact g1
theorem Z7p {t:Nat}{ty:Ty}{x x':Value}(H:HR G Y h w base)(ht:TyOk P t ty)(hk:ty.k≠.iface)(hx:VR Y h.next x x'):
  Yj P G Y h w base (Instr.makeInterface t x') (.iface t x) h:=by
 obtain⟨d,hd,hkd⟩:=ht.run_und w;refine Yj.same (v':=.iface t x') H ?_ (.iface _ _ _ hx);simp only[Instr.makeInterface,Sem.run_bind,hd,Result.andThen_ok];cases d<;>first | rfl | (exfalso;revert hkd hk;cases ty.k<;>simp[Xd])
theorem Zzi {vs Qk:Array Value}{ix:Nat}(H:HR G Y h w base)(hx:VRs Y h.next vs.toList Qk.toList)(hv:vs.toList[ix]?=some v):Yj P G Y h w base (Instr.extract (.tuple Qk) ix) v h:=by
 obtain⟨v',h1,h2⟩:=hx.get hv;have h1':Qk[ix]?=some v':=by simpa using h1
 exact Yj.same (v':=v') H (by simp[Instr.extract,h1']) h2
theorem Zs3 {a:Act}(ps:Array (Nat×Operand)):((ps.map fun (i,x)=>(i,a.eval x)):Array (Nat×Value))=(ps.toList.map fun (i,x)=>(i,a.eval x)).toArray:=by
 apply Array.toList_inj.1;simp
theorem VR.spot {n:Nat}{ad:Addr}{x':Value}(hx:VR Y n (.pointer (some ad)) x'):∃i o,Lv Y n i/\ad=⟨i,o,none⟩/\x'=.pointer (some ⟨(Y i).b,(Y i).d+o,none⟩):=by
 cases hx with
 |ptr i o h=>exact⟨i,o,h,rfl,rfl⟩
theorem Zamk {C:Ctx}{sl:SL}{a:Act}(H:HR C.G Y h w base)(S:SR Y h.next sl a.tmps){lo:Option Operand}{l:Option Value}{len:Nat}
  (hl:(match lo with | some l=>(opd C sl l).map some | none=>some none)=some l):∃l',lo.map a.eval=l'/\∀u,l=some u->∃u',l'=some u'/\VR Y h.next u u':=by
 cases lo with
 |none=>exact⟨none,rfl,fun u hu=>by cases hl;cases hu⟩
 |some x=>
  simp only[Option.map_eq_some_iff]at hl;obtain⟨y,h1,rfl⟩:=hl;exact⟨_,rfl,fun u hu=>by cases hu;exact⟨_,rfl,Zs H S h1⟩⟩
theorem Zjh {C:Ctx}{sl:SL}{a:Act}(H:HR C.G Y h w base)(S:SR Y h.next sl a.tmps){lo:Option Operand}{l:Option Value}
  (hl:(match lo with | some l=>(opd C sl l).map some | none=>some none)=some l) (hn:∀u,l=some u->(Zht u).isSome):lo.map a.eval=l:=by
 cases lo with
 |none=>cases hl;rfl
 |some x=>
  simp only[Option.map_eq_some_iff]at hl;obtain⟨y,h1,rfl⟩:=hl;have h2:=Zs H S h1;have h3:=hn y rfl;cases y<;>simp[Zht]at h3;simp only[Option.map_some,Option.some.injEq];generalize a.eval x=xv at h2 ⊢;cases h2;rfl
theorem Zgu {len:Nat}{lo hi:Option Value}{r:Nat×Nat}(hb:Ve len lo hi=some r):(∀u,lo=some u->(Zht u).isSome)/\(∀u,hi=some u->(Zht u).isSome):=by
 unfold Ve at hb;split at hb
 .rename_i a b h1 h2;refine⟨fun u hu=>?_,fun u hu=>?_⟩
  .subst hu;simp at h2;simp[h2]
  .subst hu;simp at h1;simp[h1]
 .cases hb
theorem Z20 {C:Ctx}{cf yf:Nat->List Value->VH->Option (Value×VH)}{sl:SL}{a:Act}{o:Oper}{h':VH}(hC:TOk C P)(H:HR C.G Y h w base)(S:SR Y h.next sl a.tmps)(hno:∀c,o.op≠.call c)
  (ho:Xn C cf yf sl h o=some (v,h')):Zgw P C.G Y h w base (execOp a.eval o) v h':=by
 cases X6:o.op<;>simp only[Xn,X6]at ho<;>try (cases ho;done)
 case move x=>
  rw[Option.map_eq_some_iff]at ho;obtain⟨y,h1,h2⟩:=ho;cases h2;exact Zgw.same H (by simp[execOp,X6]) (Zs H S h1)
 case assign x=>
  rw[Option.map_eq_some_iff]at ho;obtain⟨y,h1,h2⟩:=ho;cases h2;exact Zgw.same H (by simp[execOp,X6]) (Zs H S h1)
 case pick c x y=>
  split at ho
  .rename_i hc;rw[Option.map_eq_some_iff]at ho;obtain⟨z,h1,h2⟩:=ho;cases h2;have hcc:=Zs H S hc;refine Zgw.same H (v':=a.eval x) ?_ (Zs H S h1);generalize hg:a.eval c=cv at hcc;cases hcc;simp[execOp,X6,hg,asBool]
  .rename_i hc;rw[Option.map_eq_some_iff]at ho;obtain⟨z,h1,h2⟩:=ho;cases h2;have hcc:=Zs H S hc;refine Zgw.same H (v':=a.eval y) ?_ (Zs H S h1);generalize hg:a.eval c=cv at hcc;cases hcc;simp[execOp,X6,hg,asBool]
  .cases ho
 case alloc t=>
  split at ho
  .rename_i ty ht;cases ho;simp only[execOp,X6];exact (Zw5 H (hC _ _ ht)).done
  .cases ho
 case box t x=>
  split at ho
  .rename_i u hu;split at ho
   .rename_i hcb;cases ho;simp only[execOp,X6];exact (Z98 H (Zs H S hu) hcb).done
   .cases ho
  .cases ho
 case build t ps=>
  split at ho
  .rename_i ty vs ht hvs;have Te:=Zbg H S hvs;simp only[execOp,X6];rw[Zs3];refine Yj.done ?_;split at ho
   .rename_i fs hk;split at ho
    .rename_i hall;rw[Option.map_eq_some_iff]at ho;obtain⟨cs,h1,h2⟩:=ho;cases h2;exact Zwy hC H (hC _ _ ht) Te (.inl ⟨fs,hk,hall,h1⟩)
    .cases ho
   .rename_i n e hk;split at ho
    .rename_i te Vw;rw[Option.map_eq_some_iff]at ho;obtain⟨cs,h1,h2⟩:=ho;cases h2;exact Zwy hC H (hC _ _ ht) Te (.inr ⟨n,e,te,hk,hC _ _ Vw,h1⟩)
    .cases ho
   .cases ho
  .cases ho
 case buildSlice t len ps=>
  split at ho
  .rename_i ty vs ht hvs;have Te:=Zbg H S hvs;simp only[execOp,X6];rw[Zs3];refine Yj.done ?_;split at ho
   .rename_i e hk;split at ho
    .rename_i te Vw;split at ho
     .rename_i Wm;rw[Option.map_eq_some_iff]at ho;obtain⟨cs,h1,h2⟩:=ho;cases h2;exact Zf3 H (hC _ _ ht) hk (hC _ _ Vw) Wm.1 Te h1
     .cases ho
    .cases ho
   .cases ho
  .cases ho
 case load t x=>
  split at ho
  .rename_i ty ad ht hx;split at ho
   .cases ho
   .rw [Option.map_eq_some_iff]at ho;obtain⟨z,h1,h2⟩:=ho;cases h2;rw[Option.bind_eq_some_iff]at h1;obtain⟨r,h1,h2⟩:=h1;obtain⟨i,o',hlt,rfl,hv⟩:=(Zs H S hx).spot;simp only[execOp,X6,hv];exact (Zacy H (hC _ _ ht) h1 h2).done
  .cases ho
 case store t x y=>
  split at ho
  .rename_i ty ad u ht hx hu;split at ho
   .cases ho
   .split at ho
    .rename_i hsz;rw[Option.map_eq_some_iff]at ho;obtain⟨z,h1,h2⟩:=ho;cases h2;obtain⟨i,o',hlt,rfl,hv⟩:=(Zs H S hx).spot;simp only[execOp,X6,hv];exact (Z6e H (hC _ _ ht) (Zs H S hu) hsz h1).done
    .cases ho
  .cases ho
 case nilCheck x=>
  split at ho
  .rename_i ad hx;cases ho;have hv:=Zs H S hx;obtain⟨i,o',hlt,rfl,hv'⟩:=hv.spot;refine Zgw.same H (v':=a.eval x) ?_ hv;simp[execOp,X6,hv']
  .rename_i f p q hx;have hv:=Zs H S hx;split at ho
   .cases ho
   .cases ho;refine Zgw.same H (v':=a.eval x) ?_ hv;generalize hg:a.eval x=xv at hv;cases hv<;>simp[execOp,X6,hg]
  .cases ho
 case binOp op t x y c=>
  split at ho
  .rename_i p q hp hq;rw[Option.map_eq_some_iff]at ho;obtain⟨z,h1,h2⟩:=ho;cases h2;simp only[execOp,X6];exact (Zaeq hC H (Zs H S hp) (Zs H S hq) h1).done
  .cases ho
 case unOp op t x=>
  rw[Option.map_eq_some_iff]at ho;obtain⟨z,h1,h2⟩:=ho;cases h2;rw[Option.bind_eq_some_iff]at h1;obtain⟨y,h1,h2⟩:=h1;simp only[execOp,X6];exact (Zaol H (Zs H S h1) h2).done
 case convert src dst x=>
  split at ho
  .rename_i ts td u hs hd hx;have hco:=Zzq hC H (hC _ _ hs) (hC _ _ hd) (Zs H S hx);obtain⟨c1,c2,c3,c4⟩:=hco;simp only[execOp,X6];refine Yj.done ?_;split at ho
   .rename_i k kk n hk;cases ho;exact c1 k kk n hk rfl
   .rename_i hk;cases ho;exact c2 _ hk rfl
   .rename_i e s _ hk;split at ho
    .rename_i te Vw;split at ho
     .rename_i hku;split at ho
      .rename_i hsz;cases ho;exact c3 e te s hk (hC _ _ Vw) hku rfl hsz
      .cases ho
     .cases ho
    .cases ho
   .rename_i e ad len c hk1 hk2;split at ho
    .rename_i te Vw;split at ho
     .rename_i hku;split at ho
      .rename_i hsz;rw[Option.map_eq_some_iff]at ho;obtain⟨z,h1,h2⟩:=ho;cases h2;rw[Option.bind_eq_some_iff]at h1;obtain⟨xs,h1,h2⟩:=h1;exact c4 e te ad len c xs z hk1 hk2 (hC _ _ Vw) hku rfl h1 h2
      .cases ho
     .cases ho
    .cases ho
   .cases ho
  .cases ho
 case makeInterface t x=>
  split at ho
  .rename_i ty ht;split at ho
   .cases ho
   .rename_i hk;rw[Option.map_eq_some_iff]at ho;obtain⟨z,h1,h2⟩:=ho;cases h2;simp only[execOp,X6];exact (Z7p H (hC _ _ ht) hk (Zs H S h1)).done
  .cases ho
 case makeFunc fn first captured=>
  split at ho
  .rename_i g p q hp hq;cases ho;have h1:=Zaj H S hp;have h2:=Zaj H S hq;refine Zgw.same H (v':=.func (.func g) (first.map a.eval) (captured.map a.eval)) (by simp[execOp,X6,Instr.makeFunc]) (.fn _ _ _ _ _ ?_ ?_)
   .simpa using h1
   .simpa using h2
  .cases ho
 case makeMap t r=>
  cases r with
  |none=>
   simp only[Option.some.injEq,Prod.mk.injEq]at ho;obtain⟨rfl,rfl⟩:=ho;simp only[execOp,X6,Option.map_none];exact (Zmu H).done
  |some r=>cases ho
 case makeSlice t l c=>
  split at ho
  .rename_i ty kn n km m ht hn hm;split at ho
   .rename_i e hk;split at ho
    .rename_i te Vw;split at ho
     .rename_i Wm;split at ho
      .rename_i hby;cases ho;have g1:=Zs H S hn;have g2:=Zs H S hm;generalize Qc:a.eval l=lv at g1;generalize hg2:a.eval c=cv at g2;cases g1;cases g2;simp only[execOp,X6,Qc,hg2];exact (Zhw H (hC _ _ ht) hk (hC _ _ Vw) Wm.1 Wm.2.1 Wm.2.2 hby).done
      .cases ho
     .cases ho
    .cases ho
   .cases ho
  .cases ho
 case slice t x lo hi mx=>
  cases mx with
  |some _=>cases ho
  |none=>
   dsimp only at ho;split at ho
   .rename_i ty u ht hx;split at ho
    .rename_i lo' hi' Sh hhi;have hv:=Zs H S hx;simp only[execOp,X6,Option.map_none];refine Yj.done ?_;split at ho
     .rename_i s hk;rw[Option.map_eq_some_iff]at ho;obtain⟨⟨l,r⟩,h1,h2⟩:=ho;cases h2;obtain⟨n1,n2⟩:=Zgu h1;rw[Zjh H S Sh n1,Zjh H S hhi n2];generalize a.eval x=xv at hv;cases hv;exact Zq9 H (hC _ _ ht) hk h1
     .rename_i e len c hk;split at ho
      .rename_i te l r Vw h1;cases ho;obtain⟨n1,n2⟩:=Zgu h1;rw[Zjh H S Sh n1,Zjh H S hhi n2];generalize a.eval x=xv at hv;cases hv;exact Zra H (hC _ _ ht) hk (hC _ _ Vw) h1
      .cases ho
     .rename_i e ad len c hk;split at ho
      .rename_i te l r cs e' own Vw h1 V7;split at ho
       .rename_i he;cases ho;subst he;obtain⟨n1,n2⟩:=Zgu h1;rw[Zjh H S Sh n1,Zjh H S hhi n2]
        have hsp:∃i o,ad=⟨i,o,none⟩:=by
         generalize a.eval x=xv at hv;cases hv with
         |slice i o _ _ _ _ _ _=>exact⟨_,_,rfl⟩
         |empty i o _ _ _=>exact⟨_,_,rfl⟩
        obtain⟨i,o2,rfl⟩:=hsp;exact Z6h (e':=e) H (hC _ _ ht) hk (hC _ _ Vw) hv V7 h1
       .cases ho
      .cases ho
     .cases ho
    .cases ho
   .cases ho
 case fieldAddr s x f=>
  split at ho
  .rename_i ty ad ht hx;split at ho
   .rename_i fs hk;split at ho
    .rename_i off u hf;split at ho
     .rename_i tu htu;split at ho
      .cases ho
      .rename_i Wm;cases ho;obtain⟨i,o',hlt,rfl,hv⟩:=(Zs H S hx).spot;simp only[execOp,X6,hv];exact (Zsg H (hC _ _ ht) hk hf (hC _ _ htu) (fun hh=>Wm (.inl hh)) hlt).done
     .cases ho
    .cases ho
   .cases ho
  .cases ho
 case field t x f=>
  split at ho
  .rename_i ty cs ht hx;split at ho
   .rename_i fs hk;split at ho
    .rename_i off u hf;split at ho
     .rename_i tu htu;rw[Option.map_eq_some_iff]at ho;obtain⟨z,h1,h2⟩:=ho;cases h2;rw[Option.bind_eq_some_iff]at h1;obtain⟨r,h1,h2⟩:=h1;have hv:=Zs H S hx;generalize hg:a.eval x=xv at hv;cases hv with
      |agg _ cs' hcs=>
       simp only[execOp,X6,hg];exact (Z9j H (hC _ _ ht) hk hf (hC _ _ htu) hcs h1 h2).done
     .cases ho
    .cases ho
   .cases ho
  .cases ho
 case indexAddr t x ix=>
  split at ho
  .rename_i ty u k i ht hx hi;have hv:=Zs H S hx;have hvi:=Zs H S hi;generalize hg2:a.eval ix=iv at hvi;cases hvi;simp only[execOp,X6,hg2];refine Yj.done ?_;split at ho
   .rename_i e ad len c hk;split at ho
    .rename_i te Vw;split at ho
     .rename_i Wm;split at ho
      .cases ho
      .rename_i hsp;cases ho;obtain⟨bk,of,sp⟩:=ad;have:sp=none:=by cases sp<;>simp_all
       subst this;exact Zgi H (hC _ _ ht) hk (hC _ _ Vw) hv Wm.1 Wm.2
     .cases ho
    .cases ho
   .rename_i n e ad hk;split at ho
    .rename_i te Vw;split at ho
     .rename_i Wm;split at ho
      .cases ho
      .cases ho;obtain⟨i,o',hlt,rfl,hv'⟩:=hv.spot;rw[hv'];exact Zgj H (hC _ _ ht) hk (hC _ _ Vw) hlt Wm.1 Wm.2
     .cases ho
    .cases ho
   .cases ho
  .cases ho
 case index t x ix=>
  split at ho
  .rename_i ty u k i ht hx hi;have hv:=Zs H S hx;have hvi:=Zs H S hi;generalize hg2:a.eval ix=iv at hvi;cases hvi;simp only[execOp,X6,hg2];refine Yj.done ?_;split at ho
   .rename_i n e cs hk;split at ho
    .rename_i te Vw;split at ho
     .rename_i Wm;rw[Option.map_eq_some_iff]at ho;obtain⟨z,h1,h2⟩:=ho;cases h2;rw[Option.bind_eq_some_iff]at h1;obtain⟨r,h1,h2⟩:=h1;generalize hg:a.eval x=xv at hv;cases hv with
      |agg _ cs' hcs=>exact Zm6 H (hC _ _ ht) hk (hC _ _ Vw) hcs Wm.1 Wm.2 h1 h2
     .cases ho
    .cases ho
   .rename_i s hk;split at ho
    .rename_i h0;rw[Option.map_eq_some_iff]at ho;obtain⟨b,h1,h2⟩:=ho;cases h2;generalize hg:a.eval x=xv at hv;cases hv;exact Zrq H (hC _ _ ht) hk h0 h1
    .cases ho
   .cases ho
  .cases ho
 case lookup t x ix ok=>
  split at ho
  .rename_i ty m k ht hm hk;split at ho
   .rename_i kt et hkt;split at ho
    .rename_i kty ety Zvy hety;split at ho
     .rename_i Si;have hm':=Zs H S hm;have hk':=Zs H S hk;simp only[execOp,X6];refine Yj.done ?_
      have main:∀es,(match m with
        | .map none=>some []
        | .map (some r)=>match h.get r with | some (.map es)=>some es | _=>none
        | _=>none)=some es->(m=.map none/\es=[]\/∃i,m=.map (some i)/\h.get i=some (.map es)):=by
       intro es hes;split at hes
       .cases hes;exact .inl ⟨rfl,rfl⟩
       .rename_i r;split at hes
        .rename_i S9 hg;cases hes;exact .inr ⟨r,rfl,hg⟩
        .cases hes
       .cases hes
      split at ho
      .cases ho
      .rename_i es hes;have hes':=main es hes;split at ho
       .rename_i u hf;cases ho;exact Zp0 (z:=.nilFunc) H (hC _ _ ht) hkt (hC _ _ Zvy) (hC _ _ hety) hm' hk' Si hes' hf (fun hn=>by cases hn) rfl
       .rename_i hf;rw[Option.map_eq_some_iff]at ho;obtain⟨z,h1,h2⟩:=ho;cases h2;exact Zp0 H (hC _ _ ht) hkt (hC _ _ Zvy) (hC _ _ hety) hm' hk' Si hes' hf (fun _=>h1) rfl
       .cases ho
     .cases ho
    .cases ho
   .cases ho
  .cases ho
 case mapUpdate t m k x=>
  split at ho
  .rename_i ty r kv u ht hm hk hx;split at ho
   .rename_i kt et hkt;split at ho
    .rename_i kty es Zvy hes;split at ho
     .rename_i Si;rw[Option.map_eq_some_iff]at ho;obtain⟨es2,h1,h2⟩:=ho;cases h2;have hm':=Zs H S hm;have hk':=Zs H S hk;have hx':=Zs H S hx;generalize hg:a.eval m=mv at hm';cases hm';simp only[execOp,X6,hg];exact (Zhu H (hC _ _ ht) hkt (hC _ _ Zvy) hk' hx' Si hes h1).done
     .cases ho
    .cases ho
   .cases ho
  .cases ho
 case insert t m k x=>
  split at ho
  .rename_i ty r kv u ht hm hk hx;split at ho
   .rename_i kt et hkt;split at ho
    .rename_i kty es Zvy hes;split at ho
     .rename_i Si;rw[Option.map_eq_some_iff]at ho;obtain⟨es2,h1,h2⟩:=ho;cases h2;have hm':=Zs H S hm;have hk':=Zs H S hk;have hx':=Zs H S hx;generalize hg:a.eval m=mv at hm';cases hm';simp only[execOp,X6,hg];exact (Zhu H (hC _ _ ht) hkt (hC _ _ Zvy) hk' hx' Si hes h1).done
     .cases ho
    .cases ho
   .cases ho
  .cases ho
 case extract t ix=>
  split at ho
  .rename_i vs hx;rw[Option.map_eq_some_iff]at ho;obtain⟨z,h1,h2⟩:=ho;cases h2;have hv:=Zs H S hx;generalize hg:a.eval t=xv at hv;cases hv with
   |tuple _ cs' hcs=>
    simp only[execOp,X6,hg];exact (Zzi H hcs h1).done
  .cases ho
 case call c=>exact absurd X6 (hno c)
end
section
variable {P:Program}{G:Nat}{Y:Nat->Blk}{h:VH}{w:World}{base:Nat}{v:Value}
theorem Zog {argTypes:Array TypeId}{t0 t1 e:TypeId}{ty ty0 ty1:Ty}{ret:TypeId}{k kk:IntKind}{n:Int}(H:HR G Y h w base)(h0:argTypes[0]?=some t0)(h1:argTypes[1]?=some t1)(hT0:TyOk P t0 ty0)(hk0:ty0.k=.slice e)
  (hT1:TyOk P t1 ty1) (hk1:ty1.k=.int kk) (hT:TyOk P e ty) (hn:0<=n) (hm:n<=maxLenV) (hby:ty.bytes<=2^16) (Tz:0 < ty.size):
  (n=0->Yj P G Y h w base (Builtin.append_ argTypes ret #[.slice none 0 0,.int k n]) (.slice none 0 0) h) /\
  (n≠0->Yj P G Y h w base (Builtin.append_ argTypes ret #[.slice none 0 0,.int k n]) (.slice (some ⟨h.next,0,none⟩) n.toNat n.toNat) (h.new (.row (Vv n.toNat ty.zero) ty.size true))):=by
 obtain⟨d0,u0,k0⟩:=hT0.run_und w;obtain⟨d1,u1,k1⟩:=hT1.run_und w;rw[hk0]at k0;rw[hk1]at k1;have hd0:d0=.slice e:=by cases d0<;>simp[Xd]at k0;rw[k0]
 have hd1:d1=.int kk:=by cases d1<;>simp[Xd]at k1;rw[k1]
 subst hd0 hd1;obtain⟨i,hi,hi1,hi2,z,hz1,hz2,_⟩:=hT.run_info w;have hm':n<=2^30:=by have:=hm;simp[maxLenV]at this;omega
 have hwn:IntKind.i64.wrap n=n:=wrap_small hn hm'
 have Z75:¬ (n*(i.bytes:Int) > 2^48):=by
  rw[hi2];have:n*(ty.bytes:Int)<=2^30*2^16:=Int.mul_le_mul hm' (by exact_mod_cast hby) (by omega) (by decide);omega
 refine⟨fun hn0=>?_,fun hn0=>?_⟩
 .subst hn0;refine Yj.same H ?_ .nilslice;simp only[Builtin.append_,h0,h1,List.getElem?_toArray,List.getElem?_cons_zero,List.getElem?_cons_succ,Sem.run_bind,u0,u1,Result.andThen_ok,hT.run_size w,Sem.run_pure,asInt,asIntOf,hwn,if_true,hi];simp[hi]
 .obtain ⟨m,hmn⟩:∃m:Nat,n=m:=⟨n.toNat,by omega⟩
  subst hmn;have hm0:m≠0:=by omega
  have hmax:m<=2^30:=by omega
  have Z8f:¬ ((0+m:Nat):Int) > IntKind.i64.max:=by simp[IntKind.max,IntKind.bits,IntKind.signed];omega
  have Z8z:=nextslicecap_le (0+m) 0 (by omega)
  have Zc0:¬ Builtin.nextslicecap (0+m) 0*i.bytes > 2^48:=by
   rw[hi2];have h1:Builtin.nextslicecap (0+m) 0*ty.bytes<=(2*2^30+1000)*2^16:=Nat.mul_le_mul (by omega) hby;omega
  have hge:m<=(Question.appendCap (0+m) 0 e).cut (w.tape w.drawn (.appendCap (0+m) 0 e)):=by simp[Question.cut]
  obtain⟨w1,W4⟩:∃w1:World,w1={w with drawn:=w.drawn+1}:=⟨_,rfl⟩
  have hh:w1.heap=w.heap:=by rw[W4]
  obtain⟨i1,hi1',_⟩:=hT.run_info w1;obtain⟨z1,hz1',hz2',_⟩:=hT.run_zero w1;have Zbs:z1.cells=ty.zero.toArray:=by rw[<- hz2']
  have hzs:ty.zero≠[]:=by intro e0;have:=hT.zlen;rw[e0]at this;simp at this;omega
  have Y5:(Builtin.append_ argTypes ret #[.slice none 0 0,.int k m]).run P w =
    .ok (.slice (some ⟨w.heap.size,0,none⟩) (0+m) ((Question.appendCap (0+m) 0 e).cut (w.tape w.drawn (.appendCap (0+m) 0 e)))) {w with heap:=w.heap.push (.cells (#[]++Builtin.zeroCells ty.zero.toArray m++Builtin.zeroCells ty.zero.toArray ((Question.appendCap (0+m) 0 e).cut (w.tape w.drawn (.appendCap (0+m) 0 e)) - (0+m))) e),drawn:=w.drawn+1}:=by
   simp only[Builtin.append_,h0,h1,List.getElem?_toArray,List.getElem?_cons_zero,List.getElem?_cons_succ,Sem.run_bind,u0,u1,Result.andThen_ok,hT.run_size w,Sem.run_pure,asInt,asIntOf,hwn,if_true];rw[if_neg (by omega)];simp only[Sem.run_bind,hi,Result.andThen_ok,Sem.run_pure];rw[if_neg Z75];simp only[Sem.run_bind,Sem.run_pure,Result.andThen_ok,Int.toNat_natCast];rw[if_neg (by omega)];simp only[Sem.run_bind,hi,Result.andThen_ok];rw[if_neg (show ¬ (_/\_) from fun hh=>Z8f hh.1)];simp only[Sem.run_bind,hi,Result.andThen_ok];rw[if_neg Zc0];simp only[Sem.run_bind,hi,Result.andThen_ok,run_choose,Question.forced,Bool.false_eq_true,if_false,run_askRoom];rw[<- W4];simp only[hi1',Result.andThen_ok,run_askRoom,Builtin.firstCells,Sem.run_pure];rw[if_neg (by simp)];rw[if_neg (by intro hh;rcases Nat.mul_eq_zero.1 hh with h | h<;>omega)];simp only[Sem.run_bind,hz1',Result.andThen_ok,newRow,run_newObj,Sem.run_pure,Zbs];rw[W4]
  generalize (Question.appendCap (0+m) 0 e).cut (w.tape w.drawn (.appendCap (0+m) 0 e))=cap at Y5 hge;have S5:(Vv m ty.zero).length=m*ty.size:=by rw[Zd0,hT.zlen]
  have hzc:Builtin.zeroCells ty.zero.toArray m=(Vv m ty.zero).toArray:=by
   apply Array.toList_inj.1;rw[Zml ty.zero m hzs];simp[Builtin.zeroCells]
  have Zjv:(#[]++Builtin.zeroCells ty.zero.toArray m++Builtin.zeroCells ty.zero.toArray (cap - (0+m))).size=cap*ty.size:=by
   simp only[Array.size_append,Sl,List.size_toArray,hT.zlen,<- Nat.add_mul];simp only[List.size_toArray,List.length_nil,Nat.zero_add,<- Nat.add_mul];congr 1;omega
  have:=Qt H (Vv m ty.zero) ty.size (w':=_) (c:=#[]++Builtin.zeroCells ty.zero.toArray m++Builtin.zeroCells ty.zero.toArray (cap - (0+m))) (el:=e) (fr:=(0,0)) (Zjb hT.zcell _)
   (fun j u hj=>by
     obtain⟨y,y1,y2⟩:=(Zb1 (Y:=Y) (h:=h) hT.zflat m).get hj;refine⟨y,?_,y2⟩;rw[hzc,Array.empty_append,Array.getElem?_append_left (by simpa using (List.getElem?_eq_some_iff.1 hj).1)];simpa using y1)
   (by rw[Zjv,S5];exact Nat.mul_le_mul_right _ hge) (Zaf w _ (w.drawn+1)) (by simp) (by simp) (Uk w _ (w.drawn+1)) rfl rfl rfl
  refine⟨_,_,_,Y5,this.1,?_,this.2⟩;have hsn:=T8 (Y:=Y) (h:=h) ⟨w.heap.size,0,cap*ty.size,ty.size,true,true⟩ m m cap hge (fun _=>Nat.le_refl _);rw[Zjv];simp only[Nat.zero_add,Int.toNat_natCast];exact hsn
theorem VRs.one {n:Nat}{x:Value}{l:List Value}(hh:VRs Y n [x] l):∃x',l=[x']/\VR Y n x x':=by
 cases hh with
 |cons h r=>cases r;exact⟨_,rfl,h⟩
theorem VRs.two {n:Nat}{x y:Value}{l:List Value}(hh:VRs Y n [x,y] l):∃x' y',l=[x',y']/\VR Y n x x'/\VR Y n y y':=by
 cases hh with
 |cons h r=>
  obtain⟨y',e,h2⟩:=r.one;subst e;exact⟨_,_,rfl,h,h2⟩
theorem Zj7 {l:Array Value}{m:List Value}(h:l.toList=m):l=m.toArray:=by rw[<- h]
theorem MR.length {n:Nat}{es:List (Value×Value)}{l:List MapEntry}(h:MR Y n es l):l.length=es.length:=by
 induction h with
 |nil=>rfl
 |cons _ _ _ ih=>simp[ih]
theorem Sc {a:Act}{c:Call}{b:Builtin}{args':Array Value}(t:TypeId)(ha:c.args.map a.eval=args')(hc:c.callee=.builtin b){s:Sem Value}
  (hb:∀consts,builtin b c.argTypes t consts args'=(do pure (.value (<- s)))) {h':VH} (hd:Yj P G Y h w base s v h'):Zgw P G Y h w base (do let d <- resolve a.eval c t;invoke d.target d.args) v h':=by
 obtain⟨YC,w',v',hr,hh⟩:=hd;refine⟨YC,w',v',.value v',?_,.inl rfl,hh⟩;simp only[resolve,hc,Sem.run_bind,Sem.run_pure,Result.andThen_ok,invoke,ha,hb,hr]
theorem bind_some {α β:Type}{x:Option α}{f:α->Option β}{y:β}(h:x.bind f=some y):∃a,x=some a/\f a=some y:=by
 cases x with
 |none=>cases h
 |some a=>exact⟨a,rfl,h⟩
theorem Zww {C:Ctx}{cf yf:Nat->List Value->VH->Option (Value×VH)}{sl:SL}{a:Act}{c:Call}{b:Builtin}{h':VH}(t:TypeId)(hC:TOk C P)(H:HR C.G Y h w base)(S:SR Y h.next sl a.tmps)(hc:c.callee=.builtin b)
  (ho:U6 C cf yf sl h c=some (v,h')):Zgw P C.G Y h w base (do let d <- resolve a.eval c t;invoke d.target d.args) v h':=by
 unfold U6 at ho;split at ho
 .cases ho
 .rename_i args Xt;have hv:=Zaj H S Xt;rw[<- Array.toList_map]at hv;simp only[hc]at ho;split at ho
  ·
   rename_i x;obtain⟨x',e,hx⟩:=hv.one;have e:=Zj7 e;split at ho
   .rename_i ty Rn;obtain⟨t0,ht0,Rn⟩:=bind_some Rn;obtain⟨d,hd,hkd⟩:=(hC _ _ Rn).run_und w;refine Sc t e hc (s:=Builtin.len_ c.argTypes t #[x']) (fun _=>rfl) ?_;split at ho
    .rename_i s hk;cases ho;cases hx;rw[hk]at hkd;refine Yj.same H (v':=.int .i64 s.size) ?_ (.int _ _);cases d<;>simp[Xd]at hkd;simp[Builtin.len_,ht0,hd,goInt]
    .rename_i e' bb n cc hk;cases ho;rw[hk]at hkd;refine Yj.same H (v':=.int .i64 n) ?_ (.int _ _);cases d<;>simp[Xd]at hkd;cases hx<;>simp[Builtin.len_,ht0,hd,goInt]
    .rename_i k1 k2 hk;cases ho;cases hx;rw[hk]at hkd;refine Yj.same H (v':=.int .i64 0) ?_ (.int _ _);cases d<;>simp[Xd]at hkd;simp[Builtin.len_,ht0,hd,goInt]
    .rename_i k1 k2 r hk;split at ho
     .rename_i es hes;cases ho;cases hx;rw[hk]at hkd;obtain⟨_,S9,ck,hh,hm⟩:=H.map r es hes;refine Yj.same H (v':=.int .i64 es.length) ?_ (.int _ _);cases d<;>simp[Xd]at hkd;have:=hm.length;simp at this;simp[Builtin.len_,ht0,hd,goInt,Vl hh,this]
     .cases ho
    .cases ho
   .cases ho
  ·
   obtain⟨x',e,hx⟩:=hv.one;have e:=Zj7 e;split at ho
   .rename_i ty Rn;obtain⟨t0,ht0,Rn⟩:=bind_some Rn;obtain⟨d,hd,hkd⟩:=(hC _ _ Rn).run_und w;refine Sc t e hc (s:=Builtin.cap_ c.argTypes t #[x']) (fun _=>rfl) ?_;split at ho
    .rename_i e' hk;cases ho;rw[hk]at hkd;refine Yj.same H (v':=.int .i64 0) ?_ (.int _ _);cases d<;>simp[Xd]at hkd;cases hx;simp[Builtin.cap_,ht0,hd,goInt]
    .cases ho
   .cases ho
  ·
   rename_i k p k' q;cases ho;obtain⟨x',y',e,hx,hy⟩:=hv.two;have e:=Zj7 e;cases hx;cases hy;refine Sc t e hc (s:=Builtin.min_ c.argTypes t #[.int k p,.int k' q]) (fun _=>rfl) ?_;exact Yj.same H (v':=.int k (if q < p then q else p)) (by simp[Builtin.min_,Builtin.min2]) (.int _ _)
  ·
   rename_i k p k' q;cases ho;obtain⟨x',y',e,hx,hy⟩:=hv.two;have e:=Zj7 e;cases hx;cases hy;refine Sc t e hc (s:=Builtin.max_ c.argTypes t #[.int k p,.int k' q]) (fun _=>rfl) ?_;exact Yj.same H (v':=.int k (if q > p then q else p)) (by simp[Builtin.max_,Builtin.max2]) (.int _ _)
  ·
   rename_i s x;obtain⟨s',x',e,hs,hx⟩:=hv.two;have e:=Zj7 e;refine Sc t e hc (s:=Builtin.append_ c.argTypes t #[s',x']) (fun _=>rfl) ?_;split at ho
   .rename_i ts tx hts htx;obtain⟨t0,ht0,hts⟩:=bind_some hts;obtain⟨t1,ht1,htx⟩:=bind_some htx;split at ho
    .rename_i e' hk;split at ho
     .rename_i ty Rn;unfold U7 at ho;split at ho
      .rename_i kk hkk;split at ho
       .rename_i n1 n2 k n;split at ho
        .rename_i Wm;cases hs;cases hx;obtain⟨g1,g2⟩:=Zog (ret:=t) (k:=k) (n:=n) H ht0 ht1 (hC _ _ hts) hk (hC _ _ htx) hkk (hC _ _ Rn) Wm.1 Wm.2.1 Wm.2.2.1 Wm.2.2.2;split at ho
         .rename_i hn;cases ho;exact g1 hn
         .rename_i hn;cases ho;exact g2 hn
        .cases ho
       .cases ho
      .rename_i hnk;split at ho
       .split at ho
        .rename_i hsz;exact Zqy H ht0 ht1 (hC _ _ hts) hk (hC _ _ htx) hnk (hC _ _ Rn) hs hx ho (fun b hb=>by simpa using hsz)
        .cases ho
       .rename_i hns;simp only[if_true]at ho;exact Zqy H ht0 ht1 (hC _ _ hts) hk (hC _ _ htx) hnk (hC _ _ Rn) hs hx ho (fun b hb=>absurd hb (hns b))
     .cases ho
    .cases ho
   .cases ho
  ·
   rename_i r k;obtain⟨s',x',e,hs,hx⟩:=hv.two;have e:=Zj7 e;split at ho
   .rename_i ts hts;obtain⟨t0,ht0,hts⟩:=bind_some hts;split at ho
    .rename_i kt et hk;split at ho
     .rename_i kty es Zvy hes;split at ho
      .rename_i Si;rw[Option.map_eq_some_iff]at ho;obtain⟨es2,h1,h2⟩:=ho;cases h2;cases hs;refine Sc t e hc (s:=Builtin.delete_ c.argTypes t #[.map (some (Y r).b),x']) (fun _=>rfl) ?_;exact Z4r H ht0 (hC _ _ hts) hk (hC _ _ Zvy) hx Si hes h1
      .cases ho
     .cases ho
    .cases ho
   .cases ho
  .cases ho
end
end Go.Virt
end
