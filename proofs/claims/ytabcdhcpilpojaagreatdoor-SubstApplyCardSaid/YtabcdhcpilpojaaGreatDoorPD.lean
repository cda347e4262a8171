/- Plain runs by rewriting. -/
import Derived.Test.YtabcdhcpilpojaaGreatDoorPE
set_option linter.unusedSimpArgs false
set_option linter.unusedVariables false
section
namespace Go.Pure
open Go
open Go.Virt (Ex Ctx Ty TK maxLenV Yh)
structure Tag {α:Type}(a:α):Type where
def wp {α:Type}(x:Option α)(Q:α->Prop)(_t:Tag Q:=⟨⟩):Prop:=match x with | some a=>Q a | none=>False
@[simp] theorem Zqq {α:Type}{a:α}{Q:α->Prop}{t:Tag Q}:wp (some a) Q t=Q a:=rfl
@[simp] theorem Zaat {α:Type}{Q:α->Prop}{t:Tag Q}:wp (none:Option α) Q t=False:=rfl
theorem wp_mono {α:Type}{x:Option α}{Q R:α->Prop}(h:wp x Q)(hq:∀a,Q a->R a):wp x R:=by
 cases x with
 |none=>exact h
 |some a=>exact hq a h
theorem Wb {α:Type}{x:Option α}{Q:α->Prop}:wp x Q↔∃a,x=some a/\Q a:=by
 cases x with
 |none=>simp
 |some a=>simp
def bO {α β:Type}(x:Option α)(f:α->Option β)(_t:Tag f:=⟨⟩):Option β:=match x with | some a=>f a | none=>none
@[simp] theorem X2 {α β:Type}{a:α}{f:α->Option β}{t:Tag f}:bO (some a) f t=f a:=rfl
@[simp] theorem Z0r {α β:Type}{f:α->Option β}{t:Tag f}:bO none f t=none:=rfl
@[simp] theorem Zaxz {α β:Type}{x:Option α}{f:α->Option β}{t:Tag f}{Q:β->Prop}{u:Tag Q}:wp (bO x f t) Q u=wp x fun a=>wp (f a) Q:=by cases x<;>rfl
@[simp] theorem wp_map {α β:Type}{x:Option α}{f:α->β}{Q:β->Prop}{u:Tag Q}:wp (x.map f) Q u=wp x fun a=>Q (f a):=by cases x<;>rfl
@[simp] theorem wp_bind {α β:Type}{x:Option α}{f:α->Option β}{Q:β->Prop}{u:Tag Q}:wp (x.bind f) Q u=wp x fun a=>wp (f a) Q:=by cases x<;>rfl
def ifB (b:Bool)(A B:Prop)(_t:Tag A:=⟨⟩)(_u:Tag B:=⟨⟩):Prop:=if b=true then A else B
@[simp] theorem Zur {A B:Prop}{t:Tag A}{u:Tag B}:ifB true A B t u=A:=rfl
@[simp] theorem Z17 {A B:Prop}{t:Tag A}{u:Tag B}:ifB false A B t u=B:=rfl
theorem Zb9 {b:Bool}{A B:Prop}{t:Tag A}{u:Tag B}(h1:b=true->A)(h2:b=false->B):ifB b A B t u:=by
 cases b with
 |true=>exact h1 rfl
 |false=>exact h2 rfl
@[simp] theorem Zarz {b:Bool}{A B:Prop}{t:Tag A}{u:Tag B}:ifB (!b) A B t u=ifB b B A u t:=by cases b<;>rfl
@[simp] theorem put_get (sl:Yw)(d t:Nat)(v:PV):(sl.put d v) t=if t=d then some v else sl t:=rfl
@[simp] theorem Zamq (args:List PV)(t:Nat):Sl 0 args t=args[t]?:=by simp[Sl]
@[simp] theorem Zale (sl Yy:Yw)(t:Nat):Zdb sl Yy t=bO (sl t) fun _=>Yy t:=by unfold Zdb bO;cases sl t<;>rfl
@[simp] theorem Zgb (h:PH)(i Zc:Nat)(o:PO)(j:Nat):(h.put i Zc o).get j=if j=i then some (Zc,o) else h.get j:=rfl
@[simp] theorem Zae4 (h:PH)(i Zc:Nat)(o:PO):(h.put i Zc o).next=h.next:=rfl
@[simp] theorem Zakz {sl:Yw}{n:Nat}{v:PV}:putP sl (some n) v=sl.put n v:=rfl
@[simp] theorem Zak0 {sl:Yw}{v:PV}:putP sl none v=sl:=rfl
@[simp] theorem Zann {sl:Yw}{t:Nat}:Yz sl (.tmp t)=sl t:=rfl
@[simp] theorem Zak7 {sl:Yw}{f:Nat}:Yz sl (.func f)=some (.fn f [] []):=rfl
@[simp] theorem Zanp {sl:Yw}{k:IntKind}{n:Int}:Yz sl (.const (.int k n))=some (.int k n):=rfl
@[simp] theorem Zak8 {sl:Yw}{b:Bool}:Yz sl (.const (.bool b))=some (.bool b):=rfl
@[simp] theorem Zano {sl:Yw}{b:ByteArray}:Yz sl (.const (.string b))=some (.str (b.data.toList.map UInt8.toNat)):=rfl
@[simp] theorem Zak2 {sl:Yw}:Yz sl (.const (.slice none 0 0))=some .nils:=rfl
@[simp] theorem Zak3 {sl:Yw}:Yz sl (.const (.pointer none))=some .nilp:=rfl
@[simp] theorem Zak4 {sl:Yw}:Yz sl (.const (.map none))=some .nilm:=rfl
@[simp] theorem Zak6 {sl:Yw}:Yz sl (.const .nilFunc)=some .nilf:=rfl
@[simp] theorem Zak5 {sl:Yw}:Yz sl (.const .nilIface)=some .nili:=rfl
@[simp] theorem Zanq {sl:Yw}{cs:Array Value}:Yz sl (.const (.agg cs))=(Yf.go 2 cs.toList).map .agg:=rfl
@[simp] theorem Zaxj {n:Nat}:Yf.go n []=some []:=by simp only[Yf.go]
@[simp] theorem Zasz {n:Nat}{v:Value}{r:List Value}:Yf.go n (v::r)=bO (Yf n v) fun p=>bO (Yf.go n r) fun ps=>some (p::ps):=by
 simp only[Yf.go];cases Yf n v<;>cases Yf.go n r<;>rfl
@[simp] theorem Zath {n:Nat}{k:IntKind}{i:Int}:Yf n (.int k i)=some (.int k i):=by cases n<;>rfl
@[simp] theorem Zaru {n:Nat}{b:Bool}:Yf n (.bool b)=some (.bool b):=by cases n<;>rfl
@[simp] theorem Zatg {n:Nat}{b:ByteArray}:Yf n (.string b)=some (.str (b.data.toList.map UInt8.toNat)):=by cases n<;>rfl
@[simp] theorem Zarp {n:Nat}:Yf n (.slice none 0 0)=some .nils:=by cases n<;>rfl
@[simp] theorem Zarq {n:Nat}:Yf n (.pointer none)=some .nilp:=by cases n<;>rfl
@[simp] theorem Zarr {n:Nat}:Yf n (.map none)=some .nilm:=by cases n<;>rfl
@[simp] theorem Zart {n:Nat}:Yf n .nilFunc=some .nilf:=by cases n<;>rfl
@[simp] theorem Zars {n:Nat}:Yf n .nilIface=some .nili:=by cases n<;>rfl
@[simp] theorem Zagz {l:List Value}:Zbd l=Yf.go 0 l:=rfl
@[simp] theorem Zi0 {sl:Yw}:W9 sl []=some []:=rfl
@[simp] theorem Zaj {sl:Yw}{x:Operand}{r:List Operand}:W9 sl (x::r)=bO (Yz sl x) fun v=>bO (W9 sl r) fun vs=>some (v::vs):=by
 simp only[W9];cases Yz sl x<;>cases W9 sl r<;>rfl
@[simp] theorem Zag0 {sl:Yw}:U1 sl []=some []:=rfl
@[simp] theorem Zj1 {sl:Yw}{i:Nat}{x:Operand}{r:List (Nat×Operand)}:U1 sl ((i,x)::r)=bO (Yz sl x) fun v=>bO (U1 sl r) fun vs=>some ((i,v)::vs):=by
 simp only[U1];cases Yz sl x<;>cases U1 sl r<;>rfl
section
variable {C:Ctx}{K:Loc}{Xx:Bool}{sl:Yw}{h:PH}{Q:Ex×Yw×PH->Prop}
@[simp] theorem wp_seq {a b:Code}:wp (Vh C K Xx (.seq a b) sl h) Q=wp (Vh C K Xx a sl h) fun r=>match r with
  | (.normal,sl,h)=>wp (Vh C K Xx b sl h) Q
  |r=>Q r:=by
 rw[Zact];cases Vh C K Xx a sl h with
 |none=>rfl
 |some r=>
  obtain⟨x,Yy,h'⟩:=r;cases x<;>rfl
@[simp] theorem wp_cond {c:Operand}{a b:Code}:wp (Vh C K Xx (.cond c a b) sl h) Q=wp (Yz sl c) fun v=>match v with
  | .bool x=>ifB x (wp (Vh C K Xx a sl h) Q) (wp (Vh C K Xx b sl h) Q)
  | _=>False:=by
 rw[Z8h];cases Yz sl c with
 |none=>rfl
 |some v=>
  cases v with
  |bool x=>cases x<;>rfl
  | _=>rfl
@[simp] theorem wp_block {id:Nat}{b:Code}:wp (Vh C K Xx (.block id b) sl h) Q=wp (Vh C K Xx b sl h) fun r=>match r with
  | (.exit id',sl,h)=>if id'=id then Q (.normal,sl,h) else Q (.exit id',sl,h)
  |r=>Q r:=by
 rw[Z3f];cases Vh C K Xx b sl h with
 |none=>rfl
 |some r=>
  obtain⟨x,Yy,h'⟩:=r;cases x with
  |exit id'=>simp only[Z81,Zqq];split<;>rfl
  | _=>rfl
theorem wp_loop {b:Code}:wp (Vh C K Xx (.loop b) sl h) Q=wp (Vh C K Xx b sl h) fun r=>match r with
  | (.normal,Yy,h')=>wp (Vh C K Xx (.loop b) (Zdb sl Yy) h') Q
  |r=>Q r:=by
 rw[Z8e];cases Vh C K Xx b sl h with
 |none=>rfl
 |some r=>
  obtain⟨x,Yy,h'⟩:=r;cases x<;>rfl
@[simp] theorem wp_skip {t0:Tag Q}:wp (Vh C K Xx .skip sl h) Q t0=Q (.normal,sl,h):=by rw[Z8d];rfl
@[simp] theorem wp_exit {id:Nat}:wp (Vh C K Xx (.exit id) sl h) Q=Q (.exit id,sl,h):=by rw[Z8f];rfl
@[simp] theorem wp_ret {t0:Tag Q}:wp (Vh C K Xx .ret sl h) Q t0=Q (.ret,sl,h):=by rw[Zacu];rfl
@[simp] theorem wp_region {id:Nat}{ops:Array Oper}:wp (Vh C K Xx (.region id ops false) sl h) Q=wp (Za1 C (Yx C) (Ut C) K ops.toList ops.toList sl h) fun p=>Q (.normal,p.1,p.2):=by
 rw[Zyn,wp_map]
end
section
variable {C:Ctx}{cf:CF}{yf:YF}{K:Loc}{all:List Oper}{sl:Yw}{h:PH}{d:Option Nat}{t:TypeId}{pos:String}{af:Array Edge}{gd:Option (Nat×Bool)}
@[simp] theorem Zagh {Q:Yw×PH->Prop}:wp (Za1 C cf yf K all [] sl h) Q=Q (sl,h):=rfl
@[simp] theorem Zaer {o:Oper}{r:List Oper}{Q:Yw×PH->Prop}:wp (Za1 C cf yf K all (o::r) sl h) Q =
  wp (Vv all sl o) fun w=>ifB w (wp (opP C cf yf all K sl h o) fun p=>wp (Za1 C cf yf K all r (putP sl o.dst p.1) p.2) Q) (wp (Za1 C cf yf K all r (putP sl o.dst (.tuple [])) h) Q):=by
 simp only[Za1];cases Vv all sl o with
 |none=>rfl
 |some w=>
  cases w with
  |true=>cases opP C cf yf all K sl h o<;>rfl
  |false=>rfl
@[simp] theorem Zaeu {op:Op}:Vv all sl ⟨d,op,t,pos,af,none⟩=some true:=rfl
@[simp] theorem Zaet {op:Op}{j:Nat}{want:Bool}:Vv all sl ⟨d,op,t,pos,af,some (j,want)⟩=(match (all[j]?).bind (·.dst) with
  |some d=>bO (sl d) fun v=>match v with | .bool b=>some (b==want) | _=>some false
  |none=>some false):=by
 simp only[Vv];cases hb:(all[j]?).bind (·.dst) with
 |none=>rfl
 |some d=>
  simp only;cases hs:sl d with
  |none=>rfl
  |some v=>cases v<;>rfl
end
attribute [simp low] Ym.eq_1 V1.eq_1 Zj.eq_1
section
variable {C:Ctx}{op:BinOp}{t:Nat}
@[simp] theorem Zaq7 {k k':IntKind}{a b:Int}:Zcm C op t (.int k a) (.int k' b)=Rb op k k' a b:=rfl
@[simp] theorem Zaq6 {a b:List Nat}:Zcm C op t (.str a) (.str b)=Zoc op a b:=rfl
@[simp] theorem Zaan {a b:Bool}:Zcm C .eql t (.bool a) (.bool b)=(eqP C t (.bool a) (.bool b)).map .bool:=rfl
@[simp] theorem Zaak {a b:Bool}:Zcm C .neq t (.bool a) (.bool b)=(eqP C t (.bool a) (.bool b)).map fun b=>.bool (!b):=rfl
@[simp] theorem Zaam {y:PV}:Zcm C .eql t .nilp y=(eqP C t .nilp y).map .bool:=rfl
@[simp] theorem Zaaj {y:PV}:Zcm C .neq t .nilp y=(eqP C t .nilp y).map fun b=>.bool (!b):=rfl
@[simp] theorem Zac7 {i v o:Nat}{y:PV}:Zcm C .eql t (.ptr i v o) y=(eqP C t (.ptr i v o) y).map .bool:=rfl
@[simp] theorem Zac4 {i v o:Nat}{y:PV}:Zcm C .neq t (.ptr i v o) y=(eqP C t (.ptr i v o) y).map fun b=>.bool (!b):=rfl
@[simp] theorem Zaal {cs:List PV}{y:PV}:Zcm C .eql t (.rptr cs) y=(eqP C t (.rptr cs) y).map .bool:=rfl
@[simp] theorem Zaah {cs:List PV}{y:PV}:Zcm C .neq t (.rptr cs) y=(eqP C t (.rptr cs) y).map fun b=>.bool (!b):=rfl
@[simp] theorem Zo3 {y:PV}:Zcm C .eql t .nils y=(eqP C t .nils y).map .bool:=rfl
@[simp] theorem Zaai {y:PV}:Zcm C .neq t .nils y=(eqP C t .nils y).map fun b=>.bool (!b):=rfl
@[simp] theorem Zr4 {g:Nat}{xs:List PV}{y:PV}:Zcm C .eql t (.lst g xs) y=(eqP C t (.lst g xs) y).map .bool:=rfl
@[simp] theorem Zac6 {g:Nat}{xs:List PV}{y:PV}:Zcm C .neq t (.lst g xs) y=(eqP C t (.lst g xs) y).map fun b=>.bool (!b):=rfl
@[simp] theorem Zac8 {i v g o n:Nat}{y:PV}:Zcm C .eql t (.own i v g o n) y=(eqP C t (.own i v g o n) y).map .bool:=rfl
@[simp] theorem Zac5 {i v g o n:Nat}{y:PV}:Zcm C .neq t (.own i v g o n) y=(eqP C t (.own i v g o n) y).map fun b=>.bool (!b):=rfl
end
attribute [simp] Mk.obj Mk.val toP Go.Virt.TK.agg Vz Ur Zcu Ug Zq8 Zko unP
attribute [simp] cellsOf.eq_1 cellsOf.eq_2 W0.eq_1 W0.eq_2 W0.eq_3 Z14.eq_1 Z14.eq_2 Z14.eq_3 Z14.eq_4 Z14.eq_5
@[simp] theorem Zanj {cs:List PV}{off n:Nat}:X7 cs off n=if off+n<=cs.length then some ((cs.drop off).take n) else none:=rfl
@[simp] theorem Zamr {ty:Ty}:Za6 ty=(Zbd ty.zero).bind (toP ty.k.agg):=rfl
def opF (x:Option PV)(Q:PV->Prop)(R:Prop)(_t:Tag Q:=⟨⟩)(_u:Tag R:=⟨⟩):Prop:=match x with | some v=>Q v | none=>R
@[simp] theorem Z5k {v:PV}{Q:PV->Prop}{R:Prop}{t:Tag Q}{u:Tag R}:opF (some v) Q R t u=Q v:=rfl
@[simp] theorem Zt8 {Q:PV->Prop}{R:Prop}{t:Tag Q}{u:Tag R}:opF none Q R t u=R:=rfl
def opM (x:Option Mk)(Q:Mk->Prop)(R:Prop)(_t:Tag Q:=⟨⟩)(_u:Tag R:=⟨⟩):Prop:=match x with | some v=>Q v | none=>R
@[simp] theorem Zt7 {v:Mk}{Q:Mk->Prop}{R:Prop}{t:Tag Q}{u:Tag R}:opM (some v) Q R t u=Q v:=rfl
@[simp] theorem Z5j {Q:Mk->Prop}{R:Prop}{t:Tag Q}{u:Tag R}:opM none Q R t u=R:=rfl
section
variable {C:Ctx}{cf:CF}{yf:YF}{K:Loc}{all:List Oper}{sl:Yw}{h:PH}{o:Oper}
@[simp] theorem Zaxy {Q:PV×PH->Prop}:wp (opP C cf yf all K sl h o) Q=opF (Ym C sl o) (fun v=>Q (v,h)) (opM (V1 C all sl o)
   (fun m=>match m.obj,o.dst with
     |none,_=>Q (m.val 0 0,h)
     |some ob,some d=>Q (m.val (K.base+d) (h.stamp (K.base+d)),h.put (K.base+d) (h.stamp (K.base+d)) ob)
     |some _,none=>False)
   (wp (Zj C cf yf all K sl h o) Q)):=by
 unfold opP;cases Ym C sl o with
 |some v=>rfl
 |none=>
  cases V1 C all sl o with
  |none=>rfl
  |some m=>
   simp only[Zt8,Zt7];cases m.obj with
   |none=>rfl
   |some ob=>cases o.dst<;>rfl
end
section
variable {C:Ctx}{sl:Yw}{h:PH}
@[simp] theorem Zanh:Uz C sl h []=some []:=rfl
@[simp] theorem Zang {t:Nat}{r:List ResultVar}:Uz C sl h (.tmp t::r)=bO (sl t) fun v=>bO (Uz C sl h r) fun vs=>some (v::vs):=by
 simp only[Uz];cases sl t<;>cases Uz C sl h r<;>rfl
attribute [simp] inlT.eq_1 inlT.eq_2 inlV.eq_1 inlV.eq_2 Qj.eq_1 Qj.eq_2 ownT.eq_1 ownT.eq_2 ownV.eq_1 ownV.eq_2 Tv.eq_1 Tv.eq_2 Wy Xd refs below extP plain Zqc PH.elems PH.row PH.freeze can Zmk Zj.bytesP
@[simp] theorem Z12 {α β:Type}{f:α->Option β}{x:α}{r:List α}:Xd f (x::r)=bO (f x) fun y=>bO (Xd f r) fun ys=>some (y::ys):=by
 simp only[Xd];cases f x<;>cases Xd f r<;>rfl
end
section
variable {sl:Yw}
attribute [simp] Sw
end
@[simp] theorem Zahd {t:Nat}:Virt.litNil (.tmp t)=false:=rfl
@[simp] theorem Z9s {t:Nat}:Virt.litNil (.global t)=false:=rfl
@[simp] theorem Zae9 {t:Nat}:Virt.litNil (.func t)=false:=rfl
@[simp] theorem Zafa {b:Bool}:Virt.litNil (.const (.bool b))=false:=rfl
@[simp] theorem Zahi {k:IntKind}{n:Int}:Virt.litNil (.const (.int k n))=false:=rfl
@[simp] theorem Zahe {b:ByteArray}:Virt.litNil (.const (.string b))=false:=rfl
@[simp] theorem Zahf {a:Option Addr}:Virt.litNil (.const (.pointer a))=false:=rfl
@[simp] theorem Zabo {a:Option Addr}{n m:Nat}:Virt.litNil (.const (.slice a n m))=false:=rfl
@[simp] theorem Zahh {a:Option Nat}:Virt.litNil (.const (.map a))=false:=rfl
@[simp] theorem Z5z:Virt.litNil (.const .nilFunc)=false:=rfl
@[simp] theorem Zahg:Virt.litNil (.const .nilIface)=true:=rfl
attribute [simp] Zud Virt.ifaceK
theorem Zch {C:Ctx}{f:Nat}{args:List PV}(Vt:(C.ext f []).isNone=true)(Xo:C.raw f=false):extP C f args=none:=by
 unfold extP;split
 .cases e:C.ext f []with
  |none=>rfl
  |some v=>rw[e]at Vt;cases Vt
 .rw [Xo];rfl
 .rfl
theorem Zd {C:Ctx}{K:Loc}{f:Nat}{args:List PV}{h:PH}{fn:Func}{c:Code}{v:PV}(Zh3:(C.ext f []).isNone=true)(hF:C.F f=some fn)(hb:fn.body=some c)(Xo:C.raw f=false)(ho:args.flatMap ownV=[])(hr:args.flatMap (refs 3)=[])
  (hx:wp (Vh C {base:=h.next,lo:=h.next,ok:=[]} true c (Sl 0 args) {h with next:=h.next+fn.ntmps}) fun r=>(r.1=.normal\/r.1=.ret)/\wp (Uz C r.2.1 r.2.2 fn.results.toList) fun vs=>
    inlT r.2.2 (Wy vs)=some v/\(ownT (Wy vs)).all (fun i=>Nat.ble h.next i)=true) (hv:below h.next 4 v=true):Yx C K f args h=some (v,h):=by
 have Vt:=Zch (args:=args) Zh3 Xo
 have hm:Xd (inlV h) args=some args:=by
  have Zfk:∀a,ownV a=[]->inlV h a=some a:=by
   intro a ha
   have hc:∀cs:List PV,cs.flatMap Tv=[]->Xd (Qj h) cs=some cs:=by
    intro cs
    induction cs with
    |nil=>intro _;rfl
    |cons c cs ih=>
     intro hh;rw[List.flatMap_cons,List.append_eq_nil_iff]at hh;simp only[Xd,ih hh.2];cases c<;>simp_all[Tv,Qj]
   cases a with
   |agg cs=>simp only[inlV];rw[hc cs ha];rfl
   |own=>simp[ownV,Tv]at ha
   | _=>rfl
  clear Vt hx hr
  induction args with
  |nil=>rfl
  |cons a l ih=>
   rw[List.flatMap_cons,List.append_eq_nil_iff]at ho;simp only[Xd,Zfk a ho.1,ih ho.2]
 obtain⟨⟨x,Yy,h2⟩,h1,h3,h4⟩:=Wb.1 hx;obtain⟨vs,h5,h6,h7⟩:=Wb.1 h4
 have hs:Xl h h2 [] [] (Wy vs)=some (v,h):=by
  unfold Xl;simp only at h6;rw[h6];simp only[List.any_nil,Bool.or_false,h7,hv,List.all_nil,Bool.and_true,if_true,Yj]
 rw[Uj];unfold callF;rw[Vt];simp only[hF,hb,Xo,Bool.false_eq_true,if_false,hm,ho,hr,reach,List.all_nil,Bool.and_true,if_true,PH.freeze];have h1':Vh C {base:=h.next,lo:=h.next,ok:=[]} true c (Sl 0 args) {next:=h.next+fn.ntmps,get:=h.get}=some (x,Yy,h2):=h1;rw[h1'];simp only at h5;rcases h3 with h3 | h3<;>simp only at h3<;>subst h3<;>simp only[h5]<;>exact hs
end Go.Pure
end
section
namespace Go.Pure
open Go
open Go.Virt (Ex Ctx Ty TK)
theorem Zs6 {C:Ctx}{K:Loc}{Xx:Bool}{b:Code}{Q:Ex×Yw×PH->Prop}(I:Nat->Yw->PH->Prop)
  (step:∀n sl h,I n sl h->wp (Vh C K Xx b sl h) fun r=>match r with | (.normal,Yy,h')=>∃m,m < n/\I m (Zdb sl Yy) h' | r=>Q r):
  ∀n sl h,I n sl h->wp (Vh C K Xx (.loop b) sl h) Q:=by
 intro n
 induction n using Nat.strongRecOn with
 | _ n ih=>
   intro sl h hi;rw[wp_loop];refine wp_mono (step n sl h hi) ?_;rintro⟨x,Yy,h'⟩ hq;cases x with
   |normal=>obtain⟨m,hm,hI⟩:=hq;exact ih m hm _ _ hI
   |exit id=>exact hq
   |ret=>exact hq
structure Hide (p:Prop):Prop where
 get:p
theorem wrap_i64 {n:Int}(h1 : -9223372036854775808<=n)(h2:n < 9223372036854775808):IntKind.i64.wrap n=n:=by
 simp only[IntKind.wrap,IntKind.bits,IntKind.signed,Bool.true_and,decide_eq_true_eq,ge_iff_le];split<;>omega
theorem wrap_u8 {n:Int}(h1:0<=n)(h2:n < 256):IntKind.u8.wrap n=n:=by
 simp only[IntKind.wrap,IntKind.bits,IntKind.signed,Bool.false_and,Bool.false_eq_true,if_false];omega
theorem wrap_u64 {n:Int}:0<=IntKind.u64.wrap n/\IntKind.u64.wrap n < 18446744073709551616:=by
 simp only[IntKind.wrap,IntKind.bits,IntKind.signed,Bool.false_and,Bool.false_eq_true,if_false];omega
theorem Zo6 {n:Int}(h1:0<=n)(h2:n < 18446744073709551616):IntKind.u64.wrap n=n:=by
 simp only[IntKind.wrap,IntKind.bits,IntKind.signed,Bool.false_and,Bool.false_eq_true,if_false];omega
def Zdd:PV->Bool
 | .bool _ | .int _ _ | .str _ | .nilp | .nils | .nilm | .nilf | .nili=>true
 | _=>false
abbrev Xw (C:Ctx)(f:Nat)(args:List PV)(v:PV):Prop:=∀K H,Yx C K f args H=some (v,H)
theorem Zyh {v:PV}(h:Zdd v=true)(m n:Nat):below m n v=true:=by
 cases v<;>simp_all[Zdd]<;>cases n<;>rfl
theorem Zyg {v:PV}(h:Zdd v=true)(m:Nat)(n:Nat):Y4 m n v=true:=by
 cases v<;>simp_all[Zdd]<;>cases n<;>rfl
theorem Znq {C:Ctx}{K:Loc}{f:Nat}{args args':List PV}{h:PH}{v:PV}(hA:Xw C f args' v)(hv:Zdd v=true)(Xo:C.raw f=false)(hm:Xd (inlV h) args=some args')(Yq:args.isEmpty=false)
  (ho:args'.flatMap ownV=[]) (hr:args'.flatMap (refs 3)=[])
  (hids:(args.flatMap ownV).all (fun i=>can K i&&match h.get i with | some (_,.row _ _ _)=>true | _=>false)=true):Yx C K f args h=some (v,h):=by
 have hx:∀l:List PV,l.isEmpty=false->extP C f l=none:=by
  intro l hl;unfold extP;split
  .cases hl
  .rw [Xo];rfl
  .rfl
 have Zkr:args'.isEmpty=false:=by
  cases args with
  |nil=>cases Yq
  |cons a l=>
   simp only[Xd]at hm;split at hm
   .injection hm with hm;subst hm;rfl
   .cases hm
 have hm':∀H,Xd (inlV H) args'=some args':=by
  intro H
  have Zfk:∀a,ownV a=[]->inlV H a=some a:=by
   intro a ha
   have hc:∀cs:List PV,cs.flatMap Tv=[]->Xd (Qj H) cs=some cs:=by
    intro cs
    induction cs with
    |nil=>intro _;rfl
    |cons c cs ih=>
     intro hh;rw[List.flatMap_cons,List.append_eq_nil_iff]at hh;simp only[Xd,ih hh.2];cases c<;>simp_all[Tv,Qj]
   cases a with
   |agg cs=>simp only[inlV];rw[hc cs ha];rfl
   |own=>simp[ownV,Tv]at ha
   | _=>rfl
  clear hm hr Zkr hA
  induction args' with
  |nil=>rfl
  |cons a l ih=>
   rw[List.flatMap_cons,List.append_eq_nil_iff]at ho;simp only[Xd,Zfk a ho.1,ih ho.2]
 have h0:=hA K (h.freeze (args.flatMap ownV))
 have Rc:∀(l:List Nat) (g:PH),(g.freeze l).next=g.next:=by
  intro l
  induction l with
  |nil=>intro g;rfl
  |cons i l ih=>intro g;simp only[PH.freeze];split<;>rw[ih];rfl
 rw[Uj]at h0 ⊢;unfold callF at h0 ⊢;rw[hx _ Zkr]at h0;rw[hx _ Yq];cases hF:C.F f with
 |none=>simp only[hF]at h0;cases h0
 |some fn=>
  simp only[hF]at h0 ⊢;cases hb:fn.body with
  |none=>simp only[hb]at h0;cases h0
  |some c=>
   simp only[hb,Xo,Bool.false_eq_true,if_false,hm',ho,hr,reach,List.all_nil,Bool.and_true,if_true]at h0
   have Zx:(args.flatMap ownV).all (can K)=true:=by
    rw[List.all_eq_true]at hids ⊢;intro i hi;have:=hids i hi;simp only[Bool.and_eq_true]at this;exact this.1
   simp only[Xo,Bool.false_eq_true,if_false,hm,hr,reach,List.all_nil,Bool.true_and,Zx,if_true];have e1:(PH.freeze (h.freeze (args.flatMap ownV)) [])=h.freeze (args.flatMap ownV):=rfl;rw[e1,Rc]at h0;cases hx:Vh C {base:=h.next,lo:=h.next,ok:=[]} true c (Sl 0 args') {h.freeze (args.flatMap ownV) with next:=h.next+fn.ntmps} with
   |none=>rw[hx]at h0;cases h0
   |some r=>
    obtain⟨x,Yy,h2⟩:=r;rw[hx]at h0
    have key:∀vs,Xl (h.freeze (args.flatMap ownV)) h2 [] [] (Wy vs)=some (v,h.freeze (args.flatMap ownV))->Xl h h2 [] (args.flatMap ownV) (Wy vs)=some (v,h):=by
     intro vs hs;unfold Xl at hs ⊢;cases hi:inlT h2 (Wy vs) with
     |none=>rw[hi]at hs;cases hs
     |some v'=>
      rw[hi]at hs;simp only[List.any_nil,Bool.or_false,Rc,List.all_nil,Bool.and_true,Yj]at hs ⊢;by_cases ha:((ownT (Wy vs)).all fun i=>Nat.ble h.next i)=true
      .rw [if_pos ha]at hs ⊢
       have hvv:v'=v:=by
        by_cases hb:below h.next 4 v'=true
        .rw [if_pos hb]at hs;simp only[if_true,Option.some.injEq,Prod.mk.injEq]at hs;exact hs.1
        .rw [if_neg hb]at hs;split at hs
         .simp only [Option.some.injEq,Prod.mk.injEq]at hs;exact hs.1
         .cases hs
       subst hvv;rw[if_pos (Zyh hv _ _),if_pos];rw[List.all_eq_true]at hids ⊢;intro i hi;have:=hids i hi;simp only[Bool.and_eq_true]at this;simp only[Bool.not_false,Bool.true_and];have h2:=this.2;split at h2
       .rename_i Zc g own xs hg;rw[hg];cases own<;>simp[Zyg hv]
       .cases h2
      .rw [if_neg ha]at hs;cases hs
    cases x with
    |exit=>simp only at h0;cases h0
    |normal=>
     simp only at h0 ⊢;cases Wr:Uz C Yy h2 fn.results.toList with
     |none=>rw[Wr]at h0;cases h0
     |some vs=>rw[Wr]at h0;exact key vs h0
    |ret=>
     simp only at h0 ⊢;cases Wr:Uz C Yy h2 fn.results.toList with
     |none=>rw[Wr]at h0;cases h0
     |some vs=>rw[Wr]at h0;exact key vs h0
theorem Zt4 {C:Ctx}{f g:Nat}{x:PV}{ys:List PV}{v:PV}(hA:Xw C f [x,.lst g ys] v)(hv:Zdd v=true)(hx:Zdd x=true)(Xo:C.raw f=false):
  ∀(K:Loc) (h:PH) (i Zc n:Nat) (own:Bool),K.lo<=i->h.get i=some (Zc,.row g own ys)->n=ys.length->Yx C K f [x,.own i Zc g 0 n] h=some (v,h):=by
 intro K h i Zc n own hK hg hn;have h1:inlV h x=some x:=by cases x<;>simp_all[Zdd]
 have h2:ownV x=[]:=by cases x<;>simp_all[Zdd]
 have h3:refs 3 x=[]:=by cases x<;>simp_all[Zdd]
 refine Znq hA hv Xo ?_ rfl ?_ ?_ ?_
 .rw [Z12,h1];simp[hg,hn]
 .rw [List.flatMap_cons,h2];rfl
 .rw [List.flatMap_cons,h3];rfl
 .rw [List.flatMap_cons,h2];simp[hg,hK]
def Zas:Code->List Nat
 | .region _ ops _=>ops.toList.filterMap (·.dst)
 | .seq a b=>Zas a++Zas b
 | .cond _ a b=>Zas a++Zas b
 | .block _ b=>Zas b
 | .loop b=>Zas b
 | _=>[]
theorem U0 {sl:Yw}{d:Option Nat}{v:PV}{t:Nat}(h:d≠some t):putP sl d v t=sl t:=by
 cases d with
 |none=>rfl
 |some d=>
  show (if t=d then some v else sl t)=sl t;rw[if_neg];rintro rfl;exact h rfl
theorem Zmo {sl Yy:Yw}{t:Nat}(h:Yy t=sl t):Zdb sl Yy t=sl t:=by
 unfold Zdb;cases hs:sl t with
 |none=>rfl
 |some v=>simp only;rw[h,hs]
section
variable {C:Ctx}{cf:CF}{yf:YF}{K:Loc}
theorem Zgf {all:List Oper}{t:Nat}:∀ {l:List Oper} {sl:Yw} {h:PH} {r:Yw×PH},Za1 C cf yf K all l sl h=some r->t∉l.filterMap (·.dst)->r.1 t=sl t
 | [],sl,h,r,he,ht=>by simp only[Za1,Option.some.injEq]at he;subst he;rfl
 |o::l,sl,h,r,he,ht=>by
  have h1:o.dst≠some t:=by
   intro e;exact ht (List.mem_filterMap.2 ⟨o,List.mem_cons_self,e⟩)
  have h2:t∉l.filterMap (·.dst):=by
   intro e;obtain⟨o',hm,e'⟩:=List.mem_filterMap.1 e;exact ht (List.mem_filterMap.2 ⟨o',List.mem_cons_of_mem _ hm,e'⟩)
  simp only[Za1]at he;split at he
  .split at he
   .rw [Zgf he h2,U0 h1]
   .cases he
  .rw [Zgf he h2,U0 h1]
  .cases he
theorem Ztp {all:List Oper}{masks:Array Nat}{o:Oper}{i:Nat}{s s':PD}{t:Nat}(he:Zc7 C cf yf K all masks o i s=some s')(ht:o.dst≠some t):s'.sl t=s.sl t:=by
 unfold Zc7 at he;dsimp only at he;split at he
 .cases he
 .simp only [Option.some.injEq]at he;subst he;exact U0 ht
 .split at he
  .split at he
   .simp only [Option.some.injEq]at he;subst he;exact U0 ht
   .cases he
  .split at he
   .split at he
    .simp only [Option.some.injEq]at he;subst he;exact U0 ht
    .rename_i d _ hd;simp only[Option.some.injEq]at he;subst he;rw[hd]at ht;exact U0 (d:=some d) ht
    .cases he
   .split at he
    .unfold Zzo at he;split at he
     .split at he
      .simp only [Option.some.injEq]at he;subst he;exact U0 ht
      .cases he
     .split at he
      .simp only [Option.some.injEq]at he;subst he;exact U0 ht
      .cases he
    .cases he
theorem Zj0 {all:List Oper}{masks:Array Nat}{t:Nat}:∀ {l:List Oper} {i:Nat} {s s':PD},Qm C cf yf K all masks l i s=some s'->t∉l.filterMap (·.dst)->s'.sl t=s.sl t
 | [],i,s,s',he,ht=>by simp only[Qm,Option.some.injEq]at he;subst he;rfl
 |o::l,i,s,s',he,ht=>by
  have h1:o.dst≠some t:=by
   intro e;exact ht (List.mem_filterMap.2 ⟨o,List.mem_cons_self,e⟩)
  have h2:t∉l.filterMap (·.dst):=by
   intro e;obtain⟨o',hm,e'⟩:=List.mem_filterMap.1 e;exact ht (List.mem_filterMap.2 ⟨o',List.mem_cons_of_mem _ hm,e'⟩)
  simp only[Qm]at he;split at he
  .rename_i s1 hs1;rw[Zj0 he h2,Ztp hs1 h1]
  .cases he
end
theorem Vc {C:Ctx}{t:Nat}:∀(n:Nat) {K:Loc} {Xx:Bool} {c:Code} {sl:Yw} {h:PH} {x:Ex} {Yy:Yw} {h':PH},exec C n K Xx c sl h=some (x,Yy,h')->t∉Zas c->Yy t=sl t
 | 0,K,Xx,c,sl,h,x,Yy,h',he,ht=>by simp only[exec]at he;cases he
 |n+1,K,Xx,c,sl,h,x,Yy,h',he,ht=>by
  cases c with
  |skip=>simp only[exec,Option.some.injEq,Prod.mk.injEq]at he;rw[<- he.2.1]
  |region id ops draw=>
   cases draw with
   |true=>
    simp only[exec,if_true,Option.map_eq_some_iff,Zcj]at he;obtain⟨⟨s1,h1⟩,⟨s,hs,e1⟩,e2⟩:=he;simp only[Prod.mk.injEq]at e1 e2;rw[<- e2.2.1,<- e1.1];exact Zj0 hs ht
   |false=>
    simp only[exec,Bool.false_eq_true,if_false,Option.map_eq_some_iff]at he;obtain⟨⟨s1,h1⟩,hs,e2⟩:=he;simp only[Prod.mk.injEq]at e2;rw[<- e2.2.1];exact Zgf hs ht
  |seq a b=>
   simp only[Zas,List.mem_append,not_or]at ht;simp only[exec]at he;split at he
   .rename_i Qr h1 ha;rw[Vc n he ht.2,Vc n ha ht.1]
   .rename_i Yq;exact Vc n he ht.1
  |cond c a b=>
   simp only[Zas,List.mem_append,not_or]at ht;simp only[exec]at he;split at he
   .exact Vc n he ht.1
   .exact Vc n he ht.2
   .cases he
  |block id b=>
   simp only[Zas]at ht;simp only[exec]at he;split at he
   .rename_i id' Qr h1 hb;have:=Vc n hb ht;split at he
    .simp only [Option.some.injEq,Prod.mk.injEq]at he;rw[<- he.2.1];exact this
    .simp only [Option.some.injEq,Prod.mk.injEq]at he;rw[<- he.2.1];exact this
   .exact Vc n he ht
  |loop b=>
   simp only[Zas]at ht;simp only[exec]at he;split at he
   .rename_i Qr h1 hb;rw[Vc n he (by simpa only[Zas]using ht)];exact Zmo (Vc n hb ht)
   .exact Vc n he ht
  |exit id=>simp only[exec,Option.some.injEq,Prod.mk.injEq]at he;rw[<- he.2.1]
  |ret=>simp only[exec,Option.some.injEq,Prod.mk.injEq]at he;rw[<- he.2.1]
  |rangeFunc f ps assign body=>
   simp only[exec]at he;split at he
   .split at he
    .split at he
     .split at he
      .split at he
       .simp only [Option.some.injEq,Prod.mk.injEq]at he;rw[<- he.2.1]
       .cases he
      .cases he
     .cases he
    .cases he
   .cases he
  |scope b=>simp only[exec]at he;cases he
  |label l=>simp only[exec]at he;cases he
  |goto l=>simp only[exec]at he;cases he
  |refuse w=>simp only[exec]at he;cases he
theorem Z3e {C:Ctx}{t:Nat}{K:Loc}{Xx:Bool}{c:Code}{sl:Yw}{h:PH}{x:Ex}{Yy:Yw}{h':PH}(he:Vh C K Xx c sl h=some (x,Yy,h'))(ht:t∉Zas c):Yy t=sl t:=by
 obtain⟨n,hn⟩:=X0.1 he;exact Vc n hn ht
def Zwe (sl V9:Yw):List Nat->Prop
 | []=>True
 |t::r=>sl t=V9 t/\Zwe sl V9 r
@[simp] theorem Zane {sl V9:Yw}:Zwe sl V9 []=True:=rfl
@[simp] theorem Zakx {sl V9:Yw}{t:Nat}{r:List Nat}:Zwe sl V9 (t::r)=(sl t=V9 t/\Zwe sl V9 r):=rfl
theorem Zq0 {sl V9:Yw}:∀ {F:List Nat},(∀t,t∈F->sl t=V9 t)->Zwe sl V9 F
 | [],_=>trivial
 |t::r,h=>⟨h t List.mem_cons_self,Zq0 fun u hu=>h u (List.mem_cons_of_mem _ hu)⟩
theorem Ztr {sl V9:Yw}:∀ {F:List Nat},Zwe sl V9 F->∀t,t∈F->sl t=V9 t
 | [],_,t,ht=>by cases ht
 |u::r,h,t,ht=>by
  rcases List.mem_cons.1 ht with rfl | ht
  .exact h.1
  .exact Ztr h.2 t ht
theorem Zn {C:Ctx}{K:Loc}{Xx:Bool}{b:Code}{Q:Ex×Yw×PH->Prop}{V9:Yw}{h0:PH}(F:List Nat)
  (I:Nat->Yw->PH->Prop) (n0:Nat) (hF:F.all (fun t=>!(Zas b).contains t)=true) (h00:I n0 V9 h0)
  (step:∀n sl h,Zwe sl V9 F->I n sl h->wp (Vh C K Xx b sl h) fun r=>match r with | (.normal,Yy,h')=>∃m,m < n/\I m (Zdb sl Yy) h' | r=>Q r):
  wp (Vh C K Xx (.loop b) V9 h0) Q:=by
 refine Zs6 (fun n sl h=>Zwe sl V9 F/\I n sl h) ?_ n0 V9 h0 ⟨Zq0 fun _ _=>rfl,h00⟩;rintro n sl h ⟨hf,hi⟩;have hs:=step n sl h hf hi;obtain⟨⟨x,Yy,h'⟩,he,hq⟩:=Wb.1 hs;refine Wb.2 ⟨_,he,?_⟩
 have hb:∀t,t∈F->t∉Zas b:=fun t ht=>by
  have:=List.all_eq_true.1 hF t ht;simpa using this
 cases x with
 |normal=>
  obtain⟨m,hm,hI⟩:=hq;refine⟨m,hm,Zq0 fun t ht=>?_,hI⟩;rw[Zmo (Z3e he (hb t ht)),Ztr hf t ht]
 |exit id=>exact hq
 |ret=>exact hq
def L (g:Nat)(b:Bool)(xs:List PV):PV:=if b&&xs.isEmpty then .nils else .lst g xs
theorem Wi {g:Nat}:L g true []=.nils:=rfl
theorem Zbl {g:Nat}{xs:List PV}:L g false xs=.lst g xs:=rfl
theorem Xq {g:Nat}{b:Bool}{x:PV}{xs:List PV}:L g b (x::xs)=.lst g (x::xs):=by simp[L]
theorem Zwf (g:Nat)(b:Bool)(xs:List PV):(L g b xs=.nils/\b=true/\xs=[])\/(L g b xs=.lst g xs/\(b&&xs.isEmpty)=false):=by
 unfold L;cases h:(b&&xs.isEmpty)
 .exact Or.inr ⟨rfl,rfl⟩
 .simp at h;exact Or.inl ⟨rfl,h.1,h.2⟩
section
variable {g:Nat}{b:Bool}{xs:List PV}
@[simp high] theorem Zaml:cellsOf (L g b xs)=[L g b xs]:=by unfold L;split<;>rfl
@[simp high] theorem Zas2:W0 (L g b xs)=true:=by unfold L;split<;>rfl
@[simp high] theorem Zatv {h:PH}:Qj h (L g b xs)=some (L g b xs):=by unfold L;split<;>rfl
@[simp high] theorem Zatt {h:PH}:inlV h (L g b xs)=some (L g b xs):=by unfold L;split<;>rfl
@[simp high] theorem Zatu {h:PH}:inlT h (L g b xs)=some (L g b xs):=by unfold L;split<;>rfl
@[simp high] theorem Zatk:Tv (L g b xs)=[]:=by unfold L;split<;>rfl
@[simp high] theorem Zati:ownV (L g b xs)=[]:=by unfold L;split<;>rfl
@[simp high] theorem Zatj:ownT (L g b xs)=[]:=by unfold L;split<;>rfl
@[simp high] theorem Zate {n:Nat}:refs n (L g b xs)=[]:=by unfold L;split<;>cases n<;>rfl
@[simp high] theorem Zas3 {m n:Nat}:below m n (L g b xs)=true:=by unfold L;split<;>cases n<;>rfl
@[simp high] theorem Zaro {n:Nat}:plain n (L g b xs)=true:=by unfold L;split<;>cases n<;>rfl
@[simp high] theorem Zarm {n:Nat}:W5 n (L g b xs)=true:=by unfold L;split<;>cases n<;>rfl
@[simp high] theorem Zas0 {h:PH}:h.elems g (L g b xs)=some xs:=by
 unfold L;split
 .rename_i h;simp at h;simp[PH.elems,h.2]
 .simp [PH.elems]
end
attribute [simp] eqP Zog.eq_1 Zog.eq_2 Zog.eq_3 Zog.eq_4 Zq7 Zxh Zqd
def lenK (k:TK)(v:PV):Option PV:=match k,v with
 | .str,.str s=>some (.int .i64 s.length)
 | .slice _,.nils=>some (.int .i64 0)
 | .slice _,.lst _ xs=>some (.int .i64 xs.length)
 | .slice _,.own _ _ _ _ n=>some (.int .i64 n)
 | .map _ _,.nilm=>some (.int .i64 0)
 | _,_=>none
def Zol (C:Ctx)(k:TK)(v i:PV):Option PV:=match i with
 | .int _ i=>match k,v with
   | .slice e,.lst g xs=>
     match C.T e with
     |some te=>if e=g/\0<=i/\i < xs.length then (xs[i.toNat]?).map fun x=>.rptr (cellsOf x) else none
     |none=>none
   | .array n e,.ptr b v o=>
     match C.T e with
     |some te=>if 0<=i/\i < n then some (.ptr b v (o+i.toNat*te.size)) else none
     |none=>none
   | .array n e,.rptr cs=>
     match C.T e with
     |some te=>if 0<=i/\i < n/\i.toNat*te.size+te.size<=cs.length then some (.rptr (cs.drop (i.toNat*te.size))) else none
     |none=>none
   | _,_=>none
 | _=>none
def Z6l (C:Ctx)(h:PH)(k:TK)(v i:PV):Option (PV×PH):=match v,i with
 | .own b Zc g off len,.int _ i=>match k with
   | .slice e=>match C.T e,h.row b Zc g with
     |some te,some (_,xs)=>if e=g/\0<=i/\i < len/\off+len<=xs.length then some (.eptr b Zc g (off+i.toNat) 0,h) else none
     | _,_=>none
   | _=>none
 | _,_=>none
def Z6i (C:Ctx)(k:TK)(v i:PV):Option PV:=match i with
 | .int _ i=>match k,v with
   | .array n e,.agg cs=>
     match C.T e with
     |some te=>if 0<=i/\i < n then (X7 cs (i.toNat*te.size) te.size).bind (toP te.k.agg) else none
     |none=>none
   | .str,.str s=>if 0<=i then (s[i.toNat]?).map fun (b:Nat)=>.int .u8 (b:Int) else none
   | _,_=>none
 | _=>none
def Zqy (C:Ctx)(k:TK)(v:PV)(lo hi:Option PV):Option PV:=match k,v with
 | .str,.str s=>(X1 s.length lo hi).map fun (l,u)=>.str ((s.drop l).take (u - l))
 | .slice e,.nils=>match C.T e,X1 0 lo hi with
   |some _,some _=>some .nils
   | _,_=>none
 | .slice e,.lst g xs=>match C.T e,X1 xs.length lo hi with
   |some te,some (l,u)=>if e=g then some (.lst g ((xs.drop l).take (u - l))) else none
   | _,_=>none
 | _,_=>none
def sliO (C:Ctx)(h:PH)(k:TK)(v:PV)(lo hi:Option PV):Option (PV×PH):=match v with
 | .own i Zc g off len=>match k with
   | .slice e=>match C.T e,X1 len lo hi,h.row i Zc g with
     |some te,some (l,u),some _=>if e=g then some (.own i Zc g (off+l) (u - l),h) else none
     | _,_,_=>none
   | _=>none
 | _=>none
def Zzv (T:Ty)(v:PV):Option PV:=match v with
 | .rptr cs=>(X7 cs 0 T.size).bind (toP T.k.agg)
 | _=>none
def Zun (h:PH)(T:Ty)(v:PV):Option (PV×PH):=match v with
 | .ptr i Zc off=>match h.get i with
   |some (v,.cells cs)=>if v=Zc then ((X7 cs off T.size).bind (toP T.k.agg)).map (·,h) else none
   | _=>none
 | .eptr i Zc g ix off=>match h.row i Zc g with
   |some (_,xs)=>match xs[ix]? with
    |some x=>((X7 (cellsOf x) off T.size).bind (toP T.k.agg)).map (·,h)
    |none=>none
   |none=>none
 | _=>none
def Zlv (K:Loc)(h:PH)(T:Ty)(a v:PV):Option (PV×PH):=match a with
 | .ptr i Zc off=>
   if (cellsOf v).length=T.size/\(cellsOf v).all W0=true/\can K i=true then
    match h.get i with
    |some (w,.cells cs)=>if w=Zc then (Yp cs off (cellsOf v)).map fun cs=>(.tuple [],h.put i Zc (.cells cs)) else none
    | _=>none
   else none
 | .eptr i Zc g ix off=>match inlV h v with
   |none=>none
   |some v'=>
    if (cellsOf v').length=T.size/\(cellsOf v').all W0=true/\(cellsOf v').all (plain 3)=true/\can K i=true/\(ownV v).all (can K)=true then
     match (h.freeze (ownV v)).row i Zc g with
     |some (true,xs)=>match xs[ix]? with
      |some x=>(setCells x off (cellsOf v')).map fun x=>(.tuple [],(h.freeze (ownV v)).put i Zc (.row g true (xs.set ix x)))
      |none=>none
     | _=>none
    else none
 | _=>none
def mksK (C:Ctx)(k:TK)(n m:PV):Option Mk:=match n,m with
 | .int _ n,.int _ m=>match k with
   | .slice e=>match C.T e with
     |some te=>if 0<=n/\n<=m/\m<=Virt.maxLenV/\te.bytes<=2^16 then
       match Za6 te with
       |some z=>if (cellsOf z).length=te.size/\(cellsOf z).all W0=true/\plain 4 z=true then some (.slice e n.toNat (.row e true (List.replicate n.toNat z))) else none
       |none=>none
      else none
     |none=>none
   | _=>none
 | _,_=>none
def Zv9 (C:Ctx)(K:Loc)(h:PH)(d:Nat)(k k':TK)(s x:PV):Option (PV×PH):=match k with
 | .slice e=>match C.T e with
   |some ty=>match k' with
    | .int _=>match s,x with
      | .nils,.int _ n=>
        if 0<=n/\n<=Virt.maxLenV/\ty.bytes<=2^16/\0 < ty.size then
         if n=0 then some (.nils,h) else
         match Za6 ty with
         |some z=>if (cellsOf z).length=ty.size/\(cellsOf z).all W0=true/\plain 4 z=true then some (.own (K.base+d) (h.stamp (K.base+d)) e 0 n.toNat,h.put (K.base+d) (h.stamp (K.base+d)) (.row e true (List.replicate n.toNat z))) else none
         |none=>none
        else none
      | _,_=>none
    | _=>match x with
      | .str b=>if ty.size=1 then Xu K h d e ty b.length (b.map fun (b:Nat)=>.int .u8 (b:Int)) s else none
      | _=>match h.elems e x with
        |some ys=>Xu K h d e ty ys.length ys s
        |none=>none
   |none=>none
 | _=>none
def Z3n (k k':TK)(v:PV):Option PV:=match k,k',v with
 | _,.int k,.int _ n=>some (.int k (k.wrap n))
 | _,.str,.str s=>some (.str s)
 | _,_,_=>none
def Z3m (C:Ctx)(K:Loc)(h:PH)(d:Option Nat)(k k':TK)(v:PV):Option (PV×PH):=match k,k',v with
 | .str,.slice e,.str s=>
   match C.T e,d with
   |some te,some d=>match te.k with
    | .int .u8=>if s.length<=Virt.maxLenV/\te.size=1 then some (.own (K.base+d) (h.stamp (K.base+d)) e 0 s.length,h.put (K.base+d) (h.stamp (K.base+d)) (.row e true (s.map fun (b:Nat)=>.int .u8 (b:Int)))) else none
    | _=>none
   | _,_=>none
 | .slice e,.str,v=>
   match C.T e with
   |some te=>match te.k with
    | .int .u8=>if te.size=1 then ((h.elems e v).bind Zj.bytesP).map fun b=>(.str b,h) else none
    | _=>none
   |none=>none
 | _,_,_=>none
section
variable {C:Ctx}{cf:CF}{yf:YF}{K:Loc}{all:List Oper}{sl:Yw}{h:PH}{d:Option Nat}{ty:TypeId}{pos:String}{af:Array Edge}{gd:Option (Nat×Bool)}{x y ix:Operand}{t t':TypeId}
@[simp high] theorem Zaqz {ats:Array TypeId}:Ym C sl ⟨d,.call ⟨.builtin .len,#[x],ats⟩,ty,pos,af,gd⟩=bO (Yz sl x) fun v=>bO ((ats[0]?).bind C.T) fun T=>lenK T.k v:=by
 simp only[Ym,Zaj,Zi0];cases Yz sl x with
 |none=>rfl
 |some v=>
  simp only[X2];cases (ats[0]?).bind C.T with
  |none=>rfl
  |some T=>rfl
@[simp high] theorem Zei:Ym C sl ⟨d,.indexAddr t x ix,ty,pos,af,gd⟩=bO (C.T t) fun T=>bO (Yz sl x) fun v=>bO (Yz sl ix) fun i=>Zol C T.k v i:=by
 simp only[Ym];cases C.T t<;>cases Yz sl x<;>cases hi:Yz sl ix<;>try rfl
 rename_i i;cases i<;>rfl
@[simp high] theorem Qh:Zj C cf yf all K sl h ⟨d,.indexAddr t x ix,ty,pos,af,gd⟩=bO (C.T t) fun T=>bO (Yz sl x) fun v=>bO (Yz sl ix) fun i=>Z6l C h T.k v i:=by
 simp only[Zj];cases C.T t<;>cases Yz sl x<;>cases Yz sl ix<;>try rfl
 .rename_i v;cases v<;>rfl
 .rename_i v i;cases v<;>cases i<;>rfl
@[simp high] theorem Znb:Ym C sl ⟨d,.index t x ix,ty,pos,af,gd⟩=bO (C.T t) fun T=>bO (Yz sl x) fun v=>bO (Yz sl ix) fun i=>Z6i C T.k v i:=by
 simp only[Ym];cases C.T t<;>cases Yz sl x<;>cases hi:Yz sl ix<;>try rfl
 rename_i i;cases i<;>rfl
@[simp high] theorem Zna {lo hi:Option Operand}:Ym C sl ⟨d,.slice t x lo hi none,ty,pos,af,gd⟩=bO (C.T t) fun T=>bO (Yz sl x) fun v=>bO (Sw sl lo) fun l=>bO (Sw sl hi) fun u=>Zqy C T.k v l u:=by
 simp only[Ym];cases C.T t<;>cases Yz sl x<;>try rfl
 simp only[X2];cases Sw sl lo<;>cases Sw sl hi<;>try rfl
@[simp high] theorem Zds {lo hi:Option Operand}:Zj C cf yf all K sl h ⟨d,.slice t x lo hi none,ty,pos,af,gd⟩=bO (C.T t) fun T=>bO (Yz sl x) fun v=>bO (Sw sl lo) fun l=>bO (Sw sl hi) fun u=>sliO C h T.k v l u:=by
 simp only[Zj];cases C.T t<;>cases Yz sl x<;>try rfl
 rename_i T v;simp only[X2];cases v<;>cases Sw sl lo<;>cases Sw sl hi<;>rfl
@[simp high] theorem Zp8:Ym C sl ⟨d,.load t x,ty,pos,af,gd⟩=bO (C.T t) fun T=>bO (Yz sl x) fun v=>Zzv T v:=by
 simp only[Ym];cases C.T t<;>cases Yz sl x<;>try rfl
 rename_i T v;cases v<;>rfl
@[simp high] theorem Zlx:Zj C cf yf all K sl h ⟨d,.load t x,ty,pos,af,gd⟩=bO (C.T t) fun T=>bO (Yz sl x) fun v=>Zun h T v:=by
 simp only[Zj];cases C.T t<;>cases Yz sl x<;>try rfl
 rename_i T v;cases v<;>rfl
@[simp high] theorem Zjy:Zj C cf yf all K sl h ⟨d,.store t x y,ty,pos,af,gd⟩=bO (C.T t) fun T=>bO (Yz sl x) fun a=>bO (Yz sl y) fun v=>Zlv K h T a v:=by
 simp only[Zj];cases C.T t<;>cases Yz sl x<;>cases Yz sl y<;>try rfl
 .rename_i a;cases a<;>rfl
 .rename_i T a v;cases a<;>rfl
@[simp high] theorem Zd7 {l c:Operand}:V1 C all sl ⟨d,.makeSlice t l c,ty,pos,af,gd⟩=bO (C.T t) fun T=>bO (Yz sl l) fun n=>bO (Yz sl c) fun m=>mksK C T.k n m:=by
 simp only[V1];cases C.T t<;>cases Yz sl l<;>cases Yz sl c<;>try rfl
 .rename_i n;cases n<;>rfl
 .rename_i T n m;cases n<;>cases m<;>rfl
@[simp high] theorem Zaa3 {ats:Array TypeId}{dd:Nat}:Zj C cf yf all K sl h ⟨some dd,.call ⟨.builtin .append,#[x,y],ats⟩,ty,pos,af,gd⟩=bO (Yz sl x) fun s=>bO (Yz sl y) fun v=>bO ((ats[0]?).bind C.T) fun T=>bO ((ats[1]?).bind C.T) fun T'=>Zv9 C K h dd T.k T'.k s v:=by
 simp only[Zj,Zaj,Zi0];cases Yz sl x with
 |none=>rfl
 |some s=>
  simp only[X2,Zaj,Zi0];cases Yz sl y with
  |none=>rfl
  |some v=>
   simp only[X2];cases (ats[0]?).bind C.T with
   |none=>rfl
   |some T=>
    cases (ats[1]?).bind C.T with
    |none=>rfl
    |some T'=>
     simp only[X2,Zv9];cases hk:T.k<;>rfl
@[simp high] theorem Zh5:Ym C sl ⟨d,.convert t t' x,ty,pos,af,gd⟩=bO (C.T t) fun T=>bO (C.T t') fun T'=>bO (Yz sl x) fun v=>Z3n T.k T'.k v:=by
 simp only[Ym];cases C.T t<;>cases C.T t'<;>cases Yz sl x<;>rfl
@[simp high] theorem Zbn:Zj C cf yf all K sl h ⟨d,.convert t t' x,ty,pos,af,gd⟩=bO (C.T t) fun T=>bO (C.T t') fun T'=>bO (Yz sl x) fun v=>Z3m C K h d T.k T'.k v:=by
 simp only[Zj];cases C.T t<;>cases C.T t'<;>cases Yz sl x<;>rfl
end
section
variable {C:Ctx}{K:Loc}{h:PH}{g e:Nat}{b:Bool}{xs:List PV}{k:IntKind}{i:Int}
@[simp] theorem Zanw {s:List Nat}:lenK .str (.str s)=some (.int .i64 s.length):=rfl
@[simp] theorem Zalb:lenK (.slice e) .nils=some (.int .i64 0):=rfl
@[simp] theorem Zanz:lenK (.slice e) (.lst g xs)=some (.int .i64 xs.length):=rfl
@[simp] theorem Zanx {i v o n:Nat}:lenK (.slice e) (.own i v g o n)=some (.int .i64 n):=rfl
@[simp] theorem Zatn:lenK (.slice e) (L g b xs)=some (.int .i64 xs.length):=by
 rcases Zwf g b xs with⟨e,_,rfl⟩ | ⟨e,_⟩<;>rw[e]<;>rfl
@[simp] theorem Zalc {a c:Nat}:lenK (.map a c) .nilm=some (.int .i64 0):=rfl
@[simp] theorem Zany {a c j v:Nat}:lenK (.map a c) (.map j v)=none:=rfl
@[simp] theorem Z6n (hg:(C.T g).isSome=true)(h0:0<=i)(h1:i < xs.length):Zol C (.slice g) (.lst g xs) (.int k i)=some (.rptr (cellsOf (xs[i.toNat]'(by omega)))):=by
 obtain⟨T,hT⟩:=Option.isSome_iff_exists.1 hg;have hl:i.toNat < xs.length:=by omega
 simp only[Zol,hT,h0,h1,and_self,if_true,List.getElem?_eq_getElem hl,Option.map_some]
@[simp] theorem Zatx (hg:(C.T g).isSome=true)(h0:0<=i)(h1:i < xs.length):Zol C (.slice g) (L g b xs) (.int k i)=some (.rptr (cellsOf (xs[i.toNat]'(by omega)))):=by
 rcases Zwf g b xs with⟨e,_,rfl⟩ | ⟨e,_⟩
 .simp at h1;omega
 .rw [e];exact Z6n hg h0 h1
@[simp] theorem Z6m {j v o n:Nat}{x:PV}:Zol C (.slice e) (.own j v g o n) x=none:=by cases x<;>rfl
@[simp] theorem Zaof {n a v o:Nat}:Zol C (.array n e) (.ptr a v o) (.int k i)=bO (C.T e) fun te=>if 0<=i/\i < n then some (.ptr a v (o+i.toNat*te.size)) else none:=by
 simp only[Zol];cases C.T e<;>rfl
@[simp] theorem Zalg {n:Nat}{cs:List PV}:Zol C (.array n e) (.rptr cs) (.int k i)=bO (C.T e) fun te=>if 0<=i/\i < n/\i.toNat*te.size+te.size<=cs.length then some (.rptr (cs.drop (i.toNat*te.size))) else none:=by
 simp only[Zol];cases C.T e<;>rfl
def Zzy (h:PH)(a Zc g off len:Nat)(i:Int)(n:Nat):Option (PV×PH):=if 0<=i/\i < len/\off+len<=n then some (.eptr a Zc g (off+i.toNat) 0,h) else none
@[simp] theorem Z6k {a Zc off len n:Nat}(h0:0<=i)(h1:i < len)(h2:off+len<=n):Zzy h a Zc g off len i n=some (.eptr a Zc g (off+i.toNat) 0,h):=by
 rw[Zzy,if_pos ⟨h0,h1,h2⟩]
@[simp] theorem Z6j {a Zc off len:Nat}(hg:(C.T g).isSome=true):Z6l C h (.slice g) (.own a Zc g off len) (.int k i)=bO (h.row a Zc g) fun p=>Zzy h a Zc g off len i p.2.length:=by
 obtain⟨T,hT⟩:=Option.isSome_iff_exists.1 hg;simp only[Z6l,hT];cases h.row a Zc g with
 |none=>rfl
 |some p=>simp only[X2,Zzy,true_and]
@[simp] theorem Zaoe {s:List Nat}(h0:0<=i)(h1:i < s.length):Z6i C .str (.str s) (.int k i)=some (.int .u8 ((s[i.toNat]'(by omega):Nat):Int)):=by
 have hl:i.toNat < s.length:=by omega
 simp only[Z6i,h0,if_true,List.getElem?_eq_getElem hl,Option.map_some]
@[simp] theorem Zahm {n:Nat}{cs:List PV}:Z6i C (.array n e) (.agg cs) (.int k i)=bO (C.T e) fun te=>if 0<=i/\i < n then (X7 cs (i.toNat*te.size) te.size).bind (toP te.k.agg) else none:=by
 simp only[Z6i];cases C.T e<;>rfl
@[simp] theorem Zanb {s:List Nat}{lo hi:Option PV}:Zqy C .str (.str s) lo hi=bO (X1 s.length lo hi) fun p=>some (.str ((s.drop p.1).take (p.2 - p.1))):=by
 simp only[Zqy];cases X1 s.length lo hi<;>rfl
@[simp] theorem Z1j {lo hi:Option PV}(hg:(C.T e).isSome=true):Zqy C (.slice e) .nils lo hi=bO (X1 0 lo hi) fun p=>some .nils:=by
 obtain⟨T,hT⟩:=Option.isSome_iff_exists.1 hg;simp only[Zqy,hT];cases X1 0 lo hi<;>rfl
@[simp] theorem Z42 {lo hi:Option PV}(hg:(C.T g).isSome=true):Zqy C (.slice g) (.lst g xs) lo hi=bO (X1 xs.length lo hi) fun p=>some (.lst g ((xs.drop p.1).take (p.2 - p.1))):=by
 obtain⟨T,hT⟩:=Option.isSome_iff_exists.1 hg;simp only[Zqy,hT];cases X1 xs.length lo hi with
 |none=>rfl
 |some p=>simp only[if_true,X2]
@[simp] theorem Zatb {lo hi:Option PV}(hg:(C.T g).isSome=true):Zqy C (.slice g) (L g b xs) lo hi=bO (X1 xs.length lo hi) fun p=>some (L g (b&&xs.isEmpty) ((xs.drop p.1).take (p.2 - p.1))):=by
 rcases Zwf g b xs with⟨e,rfl,rfl⟩ | ⟨e,e2⟩
 .rw [e,Z1j hg];simp only[List.length_nil,List.drop_nil,List.take_nil];cases X1 0 lo hi<;>simp[L]
 .rw [e,Z42 hg,e2];rfl
@[simp] theorem Zanc {j v o n:Nat}{lo hi:Option PV}:Zqy C (.slice e) (.own j v g o n) lo hi=none:=rfl
@[simp] theorem Zana {j v o n:Nat}{lo hi:Option PV}(hg:(C.T g).isSome=true):sliO C h (.slice g) (.own j v g o n) lo hi=bO (X1 n lo hi) fun p=>bO (h.row j v g) fun _=>some (.own j v g (o+p.1) (p.2 - p.1),h):=by
 obtain⟨T,hT⟩:=Option.isSome_iff_exists.1 hg;simp only[sliO,hT];cases X1 n lo hi<;>cases h.row j v g<;>simp
@[simp] theorem Zaha {T:Ty}{cs:List PV}:Zzv T (.rptr cs)=(X7 cs 0 T.size).bind (toP T.k.agg):=rfl
@[simp] theorem Zala {T:Ty}{i v o:Nat}:Zzv T (.ptr i v o)=none:=rfl
@[simp] theorem Zahb {T:Ty}{i v g ix o:Nat}:Zzv T (.eptr i v g ix o)=none:=rfl
def Z5x (h:PH)(T:Ty)(Zc off:Nat)(p:Nat×PO):Option (PV×PH):=match p with
 | (v,.cells cs)=>if v=Zc then ((X7 cs off T.size).bind (toP T.k.agg)).map (·,h) else none
 | _=>none
@[simp] theorem Zae7 {T:Ty}{Zc off:Nat}{cs:List PV}:Z5x h T Zc off (Zc,.cells cs)=((X7 cs off T.size).bind (toP T.k.agg)).map (·,h):=by simp[Z5x]
@[simp] theorem Zak9 {T:Ty}{i Zc off:Nat}:Zun h T (.ptr i Zc off)=bO (h.get i) fun p=>Z5x h T Zc off p:=by
 simp only[Zun];cases h.get i with
 |none=>rfl
 |some p=>
  obtain⟨v,o⟩:=p;cases o<;>rfl
def Z5y (h:PH)(T:Ty)(ix off:Nat)(xs:List PV):Option (PV×PH):=match xs[ix]? with
 |some x=>((X7 (cellsOf x) off T.size).bind (toP T.k.agg)).map (·,h)
 |none=>none
@[simp] theorem Zant {T:Ty}{ix off:Nat}(h1:ix < xs.length):Z5y h T ix off xs=((X7 (cellsOf (xs[ix]'h1)) off T.size).bind (toP T.k.agg)).map (·,h):=by
 simp only[Z5y,List.getElem?_eq_getElem h1]
@[simp] theorem Zag9 {T:Ty}{i Zc ix off:Nat}:Zun h T (.eptr i Zc g ix off)=bO (h.row i Zc g) fun p=>Z5y h T ix off p.2:=by
 simp only[Zun];cases h.row i Zc g<;>rfl
def Zw0 (h:PH)(i Zc off:Nat)(v:PV)(p:Nat×PO):Option (PV×PH):=match p with
 | (w,.cells cs)=>if w=Zc then (Yp cs off (cellsOf v)).map fun cs=>(.tuple [],h.put i Zc (.cells cs)) else none
 | _=>none
@[simp] theorem Zaa2 {i Zc off:Nat}{v:PV}{cs:List PV}:Zw0 h i Zc off v (Zc,.cells cs)=(Yp cs off (cellsOf v)).map fun cs=>(.tuple [],h.put i Zc (.cells cs)):=by simp[Zw0]
@[simp] theorem Zagq {T:Ty}{i Zc off:Nat}{v:PV}(h1:(cellsOf v).length=T.size)(h2:(cellsOf v).all W0=true)(h3:can K i=true):Zlv K h T (.ptr i Zc off) v=bO (h.get i) fun p=>Zw0 h i Zc off v p:=by
 simp only[Zlv];rw[if_pos ⟨h1,h2,h3⟩];cases h.get i with
 |none=>rfl
 |some p=>
  obtain⟨v,o⟩:=p;cases o<;>rfl
def Zw1 (h:PH)(i Zc g ix off:Nat)(v:PV)(p:Bool×List PV):Option (PV×PH):=match p with
 | (true,xs)=>match xs[ix]? with
   |some x=>(setCells x off (cellsOf v)).map fun x=>(.tuple [],h.put i Zc (.row g true (xs.set ix x)))
   |none=>none
 | _=>none
@[simp] theorem Zakv {i Zc ix off:Nat}{v:PV}(h1:ix < xs.length):Zw1 h i Zc g ix off v (true,xs)=(setCells (xs[ix]'h1) off (cellsOf v)).map fun x=>(.tuple [],h.put i Zc (.row g true (xs.set ix x))):=by
 simp only[Zw1,List.getElem?_eq_getElem h1]
@[simp] theorem Zaez {T:Ty}{i Zc ix off:Nat}{v:PV}(h0:ownV v=[])(h1:(cellsOf v).length=T.size)(h2:(cellsOf v).all W0=true)(h4:(cellsOf v).all (plain 3)=true)(h3:can K i=true):Zlv K h T (.eptr i Zc g ix off) v=bO (h.row i Zc g) fun p=>Zw1 h i Zc g ix off v p:=by
 have hi:inlV h v=some v:=by
  have hc:∀cs:List PV,cs.flatMap Tv=[]->Xd (Qj h) cs=some cs:=by
   intro cs
   induction cs with
   |nil=>intro _;rfl
   |cons c cs ih=>
    intro hh;rw[List.flatMap_cons,List.append_eq_nil_iff]at hh;simp only[Xd,ih hh.2];cases c<;>simp_all[Tv,Qj]
  cases v with
  |agg cs=>simp only[inlV];rw[hc cs h0];rfl
  |own=>simp[ownV,Tv]at h0
  | _=>rfl
 simp only[Zlv,hi,h0,List.all_nil,PH.freeze];rw[if_pos ⟨h1,h2,h4,h3,trivial⟩];cases h.row i Zc g with
 |none=>rfl
 |some p=>
  obtain⟨own,xs⟩:=p;cases own<;>rfl
def Z5s (e:Nat)(te:Ty)(n m:Int)(z:PV):Option Mk:=if 0<=n/\n<=m/\m<=Virt.maxLenV/\te.bytes<=2^16/\(cellsOf z).length=te.size/\(cellsOf z).all W0=true/\plain 4 z=true then some (.slice e n.toNat (.row e true (List.replicate n.toNat z))) else none
@[simp] theorem Zarx {te:Ty}{n m:Int}{z:PV}(h0:0<=n)(h1:n<=m)(h2:m<=1073741824):
  Z5s e te n m z=if te.bytes<=65536/\(cellsOf z).length=te.size/\(cellsOf z).all W0=true/\plain 4 z=true then some (.slice e n.toNat (.row e true (List.replicate n.toNat z))) else none:=by
 have h2':m<=(Virt.maxLenV:Int):=h2;by_cases h:te.bytes<=65536/\(cellsOf z).length=te.size/\(cellsOf z).all W0=true/\plain 4 z=true
 .rw [if_pos h,Z5s,if_pos ⟨h0,h1,h2',h⟩]
 .rw [if_neg h,Z5s,if_neg (fun hh=>h hh.2.2.2)]
@[simp] theorem Zag2 {n m:Int}{k':IntKind}:mksK C (.slice e) (.int k n) (.int k' m)=bO (C.T e) fun te=>bO (Za6 te) fun z=>Z5s e te n m z:=by
 simp only[mksK];cases C.T e with
 |none=>rfl
 |some te=>
  simp only[X2];cases Za6 te with
  |none=>simp only[Z0r];split<;>rfl
  |some z=>
   simp only[X2,Z5s];by_cases hc:0<=n/\n<=m/\m<=(Virt.maxLenV:Int)/\te.bytes<=2^16
   .rw [if_pos hc];by_cases hc2:(cellsOf z).length=te.size/\(cellsOf z).all W0=true/\plain 4 z=true
    .rw [if_pos hc2,if_pos ⟨hc.1,hc.2.1,hc.2.2.1,hc.2.2.2,hc2⟩]
    .rw [if_neg hc2,if_neg (fun hh=>hc2 hh.2.2.2.2)]
   .rw [if_neg hc,if_neg (fun hh=>hc ⟨hh.1,hh.2.1,hh.2.2.1,hh.2.2.2.1⟩)]
@[simp] theorem Zaj0 {d:Nat}{k':TK}{s x:PV}(hk:∀j,k'≠.int j)(hx:∀b,x≠.str b):Zv9 C K h d (.slice e) k' s x=bO (C.T e) fun ty=>bO (h.elems e x) fun ys=>Xu K h d e ty ys.length ys s:=by
 simp only[Zv9];cases C.T e with
 |none=>rfl
 |some ty=>
  simp only[X2];cases k' with
  |int j=>exact absurd rfl (hk j)
  | _=>
    cases x with
    |str b=>exact absurd rfl (hx b)
    | _=>first | rfl | (generalize PH.elems _ _ _=z;cases z<;>rfl)
@[simp] theorem Zarb {d:Nat}{s:PV}{b:List Nat}:Zv9 C K h d (.slice e) .str s (.str b)=bO (C.T e) fun ty=>if ty.size=1 then Xu K h d e ty b.length (b.map fun (b:Nat)=>.int .u8 (b:Int)) s else none:=by
 simp only[Zv9];cases C.T e<;>rfl
@[simp] theorem Zamo {s:List Nat}:(L g b xs=.str s)=False:=by
 rcases Zwf g b xs with⟨e,_⟩ | ⟨e,_⟩<;>rw[e]<;>simp
def Zwa (K:Loc)(h:PH)(T:Ty)(g i Zc off len n:Nat)(ys:List PV)(p:Bool×List PV):Option (PV×PH):=
 if len+n<=Virt.maxLenV/\T.bytes<=2^16/\0 < T.size/\can K i=true/\p.1=true/\off+len<=p.2.length then some (.own i (Zc+1) g 0 (len+n),h.put i (Zc+1) (.row g true ((p.2.drop off).take len++ys))) else none
@[simp] theorem Zle {T:Ty}{i Zc off len n:Nat}{ys:List PV}{p:Bool×List PV}(h1:len+n<=1073741824)(h2:T.bytes<=65536)(h3:0 < T.size)(h4:can K i=true)(h5:p.1=true)(h6:off+len<=p.2.length):
  Zwa K h T g i Zc off len n ys p=some (.own i (Zc+1) g 0 (len+n),h.put i (Zc+1) (.row g true ((p.2.drop off).take len++ys))):=by
 have h1':len+n<=Virt.maxLenV:=h1;rw[Zwa,if_pos ⟨h1',h2,h3,h4,h5,h6⟩]
theorem Qf {T:Ty}{i Zc off len n d:Nat}{ys:List PV}:Xu K h d g T n ys (.own i Zc g off len)=bO (h.row i Zc g) fun p=>Zwa K h T g i Zc off len n ys p:=by
 simp only[Xu,true_and];cases h.row i Zc g with
 |none=>simp only[Z0r];split<;>rfl
 |some p=>
  obtain⟨own,zs⟩:=p;simp only[X2,Zwa];by_cases hc:len+n<=Virt.maxLenV/\T.bytes<=2^16/\0 < T.size/\can K i=true
  .rw [if_pos hc];cases own with
   |false=>
    rw[if_neg (fun hh=>by have:=hh.2.2.2.2.1;cases this)]
   |true=>
    by_cases hd:off+len<=zs.length
    .simp only [hd,if_true];rw[if_pos ⟨hc.1,hc.2.1,hc.2.2.1,hc.2.2.2,trivial,trivial⟩]
    .simp only [hd,if_false];rw[if_neg (fun hh=>by have:=hh.2.2.2.2.2;exact this)]
  .rw [if_neg hc,if_neg (fun hh=>hc ⟨hh.1,hh.2.1,hh.2.2.1,hh.2.2.2.1⟩)]
theorem Q1 {T:Ty}{n d:Nat}{ys:List PV}(h1:n<=1073741824)(h2:T.bytes<=65536)(h3:0 < T.size)(h4:n≠0):
  Xu K h d g T n ys .nils=some (.own (K.base+d) (h.stamp (K.base+d)) g 0 n,h.put (K.base+d) (h.stamp (K.base+d)) (.row g true ys)):=by
 have h1':n<=Virt.maxLenV:=h1;simp only[Xu];rw[if_pos ⟨h1',h2,h3⟩,if_neg h4]
attribute [simp] Qf Q1
@[simp] theorem Zaq5 {k:TK}{j j':IntKind}{n:Int}:Z3n k (.int j) (.int j' n)=some (.int j (j.wrap n)):=by cases k<;>rfl
@[simp] theorem Zaq4 {k:TK}{s:List Nat}:Z3n k .str (.str s)=some (.str s):=by cases k<;>rfl
@[simp] theorem Zajr {s:List Nat}:Z3n .str (.slice e) (.str s)=none:=rfl
@[simp] theorem Zajq {v:PV}(hv:∀s,v≠.str s):Z3n (.slice e) .str v=none:=by
 cases v<;>first | rfl | exact absurd rfl (hv _)
@[simp] theorem Zamk {e':Nat}{v:PV}:Z3n (.slice e) (.slice e') v=none:=by cases v<;>rfl
@[simp] theorem Zajp {d:Nat}{s:List Nat}:Z3m C K h (some d) .str (.slice e) (.str s)=bO (C.T e) fun te=>match te.k with
  | .int .u8=>if s.length<=Virt.maxLenV/\te.size=1 then some (.own (K.base+d) (h.stamp (K.base+d)) e 0 s.length,h.put (K.base+d) (h.stamp (K.base+d)) (.row e true (s.map fun (b:Nat)=>.int .u8 (b:Int)))) else none
  | _=>none:=by
 simp only[Z3m];cases C.T e<;>rfl
@[simp] theorem Zajo {d:Option Nat}{v:PV}:Z3m C K h d (.slice e) .str v=bO (C.T e) fun te=>match te.k with
  | .int .u8=>if te.size=1 then bO (h.elems e v) fun xs=>bO (Zj.bytesP xs) fun b=>some (.str b,h) else none
  | _=>none:=by
 simp only[Z3m];cases C.T e with
 |none=>rfl
 |some te=>
  simp only[X2];split
  .split
   .cases h.elems e v with
    |none=>rfl
    |some xs=>simp only[Option.bind_some,X2];cases Zj.bytesP xs<;>rfl
   .rfl
  .rfl
@[simp high] theorem Zamm {C:Ctx}{t:Nat}:Zcm C .eql t (L g b xs) .nils=bO (C.T t) fun T=>match T.k with | .slice _=>some (.bool (b&&xs.isEmpty)) | _=>none:=by
 cases hT:C.T t with
 |none=>rcases Zwf g b xs with⟨e,rfl,rfl⟩ | ⟨e,e2⟩<;>rw[e]<;>simp[hT]
 |some T=>
  simp only[X2];rcases Zwf g b xs with⟨e,rfl,rfl⟩ | ⟨e,e2⟩
  .rw [e];simp only[Zo3,eqP,hT];cases T.k<;>rfl
  .rw [e,e2];simp only[Zr4,eqP,hT];cases T.k<;>rfl
end
@[simp high] theorem Zagu {g:Nat}{b:Bool}{xs:List PV}{v:PV}:setCells (L g b xs) 0 [v]=some v:=by
 rcases Zwf g b xs with⟨e,_⟩ | ⟨e,_⟩<;>rw[e]<;>rfl
attribute [simp] setCells.eq_1 setCells.eq_2 Yp
def resC (h:PH)(T:Ty)(v:PV)(vs:List PV):Option (List PV):=match v with
 | .ptr i Zc off=>match h.get i with
   |some (w,.cells cs)=>if w=Zc then ((X7 cs off T.size).bind (toP T.k.agg)).map (·::vs) else none
   | _=>none
 | _=>none
@[simp] theorem Zaky {C:Ctx}{sl:Yw}{h:PH}{a t:Nat}{r:List ResultVar}:Uz C sl h (.cell a t::r)=bO (sl a) fun v=>bO (C.T t) fun T=>bO (Uz C sl h r) fun vs=>resC h T v vs:=by
 simp only[Uz];cases sl a with
 |none=>rfl
 |some v=>
  cases C.T t with
  |none=>cases v<;>rfl
  |some T=>
   cases Uz C sl h r with
   |none=>cases v<;>rfl
   |some vs=>cases v<;>rfl
def resD (T:Ty)(Zc off:Nat)(vs:List PV)(p:Nat×PO):Option (List PV):=match p with
 | (w,.cells cs)=>if w=Zc then ((X7 cs off T.size).bind (toP T.k.agg)).map (·::vs) else none
 | _=>none
@[simp] theorem Zagw {T:Ty}{Zc off:Nat}{vs cs:List PV}:resD T Zc off vs (Zc,.cells cs)=((X7 cs off T.size).bind (toP T.k.agg)).map (·::vs):=by simp[resD]
@[simp] theorem Zani {h:PH}{T:Ty}{i Zc off:Nat}{vs:List PV}:resC h T (.ptr i Zc off) vs=bO (h.get i) fun p=>resD T Zc off vs p:=by
 simp only[resC];cases h.get i with
 |none=>rfl
 |some p=>
  obtain⟨w,o⟩:=p;cases o<;>rfl
@[simp] theorem Zami {pl:Nat->Option (Nat×Nat)}{cells:List PV}:Zfz pl cells []=some cells:=rfl
@[simp] theorem Zajm {pl:Nat->Option (Nat×Nat)}{cells:List PV}{i:Nat}{v:PV}{r:List (Nat×PV)}:Zfz pl cells ((i,v)::r) =
  bO (pl i) fun p=>if (cellsOf v).length=p.2/\p.1+p.2<=cells.length/\(cellsOf v).all W0=true then bO (Yp cells p.1 (cellsOf v)) fun Ww=>Zfz pl Ww r else none:=by
 simp only[Zfz];cases pl i with
 |none=>rfl
 |some p=>
  obtain⟨o,s⟩:=p;simp only[X2];split
  .cases Yp cells o (cellsOf v)<;>rfl
  .rfl
section
variable {k:IntKind}{a b:Int}
@[simp] theorem Zaoc:Rb .add k k a b=some (.int k (k.wrap (a+b))):=by simp[Rb]
@[simp] theorem Zan1:Rb .sub k k a b=some (.int k (k.wrap (a - b))):=by simp[Rb]
@[simp] theorem Zan6:Rb .mul k k a b=some (.int k (k.wrap (a*b))):=by simp[Rb]
@[simp] theorem Zan4:Rb .quo k k a b=if b=0 then none else some (.int k (k.wrap (a.tdiv b))):=by simp[Rb]
@[simp] theorem Zan3:Rb .rem k k a b=if b=0 then none else some (.int k (a.tmod b)):=by simp[Rb]
@[simp] theorem Zaob:Rb .eql k k a b=some (.bool (a==b)):=by simp[Rb]
@[simp] theorem Zan5:Rb .neq k k a b=some (.bool (!(a==b))):=by simp[Rb,bne]
@[simp] theorem Zan7:Rb .lss k k a b=some (.bool (a < b)):=by simp[Rb]
@[simp] theorem Zan8:Rb .leq k k a b=some (.bool (a<=b)):=by simp[Rb]
@[simp] theorem Zan9:Rb .gtr k k a b=some (.bool (b < a)):=by simp[Rb]
@[simp] theorem Zaoa:Rb .geq k k a b=some (.bool (b<=a)):=by simp[Rb]
@[simp] theorem Zan2 {k':IntKind}(h:0<=b):Rb .shl k k' a b=some (.int k (k.wrap (a*2^min b.toNat k.bits))):=by
 simp only[Rb];rw[if_neg (by omega)]
end
@[simp high] theorem Zam7 {a b:List Nat}(h:a.length+b.length<=4611686018427387904):Zoc .add a b=some (.str (a++b)):=by simp[Zoc,h]
@[simp] theorem Zam6 {a b:List Nat}:Zoc .eql a b=some (.bool (a==b)):=rfl
@[simp] theorem Zam3 {a b:List Nat}:Zoc .neq a b=some (.bool (!(a==b))):=rfl
@[simp] theorem Zam4 {a b:List Nat}:Zoc .lss a b=some (.bool (ltL a b)):=rfl
@[simp] theorem Zam5 {a b:List Nat}:Zoc .gtr a b=some (.bool (!(ltL a b||a==b))):=rfl
section
variable {k k':IntKind}{i j:Int}{n:Nat}
@[simp high] theorem Zajv (h0:0<=i)(h:i<=n):X1 n (some (.int k i)) none=some (i.toNat,n):=by
 have:i.toNat<=n:=by omega
 simp[X1,Zko,h0,this]
@[simp high] theorem Zaju (h0:0<=j)(h:j<=n):X1 n none (some (.int k j))=some (0,j.toNat):=by
 have:j.toNat<=n:=by omega
 simp[X1,Zko,h0,this]
@[simp high] theorem Zajw (h0:0<=i)(h1:i<=j)(h:j<=n):X1 n (some (.int k i)) (some (.int k' j))=some (i.toNat,j.toNat):=by
 have h2:j.toNat<=n:=by omega
 have h3:i.toNat<=j.toNat:=by omega
 have h4:0<=j:=by omega
 simp[X1,Zko,h0,h2,h3,h4]
end
end Go.Pure
end
section
namespace Go.Pure
open Go
open Go.Virt (Ex Ctx Ty TK Yh)
def Vi (sl Yy:Yw)(l:List Operand):Prop:=∀x,x∈l->Yz sl x=Yz Yy x
theorem Vi.opds {sl Yy:Yw}:∀ {l:List Operand},Vi sl Yy l->W9 sl l=W9 Yy l
 | [],_=>rfl
 |x::r,h=>by
  have h1:=h x List.mem_cons_self;have h2:=Vi.opds (l:=r) fun y hy=>h y (List.mem_cons_of_mem _ hy)
  rw[Zaj,Zaj,h1,h2]
theorem Vi.parts {sl Yy:Yw}:∀ {l:List (Nat×Operand)},Vi sl Yy (l.map (·.2))->U1 sl l=U1 Yy l
 | [],_=>rfl
 | (i,x)::r,h=>by
   have h1:=h x (by simp);have h2:=Vi.parts (l:=r) fun y hy=>h y (by simp at hy ⊢;exact Or.inr hy)
   rw[Zj1,Zj1,h1,h2]
theorem Vi.opt {sl Yy:Yw}{o:Option Operand}(h:Vi sl Yy o.toList):Sw sl o=Sw Yy o:=by
 cases o with
 |none=>rfl
 |some x=>simp only[Sw];rw[h x (by simp)]
theorem Vi.mono {sl Yy:Yw}{l l':List Operand}(h:Vi sl Yy l)(hm:∀x,x∈l'->x∈l):Vi sl Yy l':=fun x hx=>h x (hm x hx)
section
variable {C:Ctx}{cf:CF}{yf:YF}{K:Loc}{all:List Oper}{sl Yy:Yw}{h:PH}
theorem Zvk {o:Oper}(ha:Vi sl Yy o.op.operands.toList):Ym C sl o=Ym C Yy o:=by
 obtain⟨d,op,ty,pos,af,gd⟩:=o;cases op with
 |move x=>simp only[Ym];rw[ha x (by simp[Op.operands])]
 |assign x=>simp only[Ym];rw[ha x (by simp[Op.operands])]
 |pick c a b=>simp only[Ym];rw[ha c (by simp[Op.operands]),ha a (by simp[Op.operands]),ha b (by simp[Op.operands])]
 |build t ps=>
  have:U1 sl ps.toList=U1 Yy ps.toList:=Vi.parts (ha.mono fun x hx=>by simpa[Op.operands]using hx);simp only[Ym,this]
 |load t a=>rw[Zp8,Zp8,ha a (by simp[Op.operands])]
 |nilCheck x=>simp only[Ym];rw[ha x (by simp[Op.operands])]
 |binOp op t x y yt=>simp only[Ym];rw[ha x (by simp[Op.operands]),ha y (by simp[Op.operands])]
 |unOp op t x=>simp only[Ym];rw[ha x (by simp[Op.operands])]
 |convert s t x=>rw[Zh5,Zh5,ha x (by simp[Op.operands])]
 |makeInterface t x=>simp only[Ym];rw[ha x (by simp[Op.operands])]
 |makeFunc f a b=>
  have h1:W9 sl a.toList=W9 Yy a.toList:=Vi.opds (ha.mono fun x hx=>by simp[Op.operands];exact Or.inl (by simpa using hx));have h2:W9 sl b.toList=W9 Yy b.toList:=Vi.opds (ha.mono fun x hx=>by simp[Op.operands];exact Or.inr (by simpa using hx));simp only[Ym,h1,h2]
 |slice t x lo hi mx=>
  have h1:=ha x (by simp[Op.operands]);have h2:Sw sl lo=Sw Yy lo:=Vi.opt (ha.mono fun y hy=>by simp[Op.operands];right;left;simpa using hy);have h3:Sw sl hi=Sw Yy hi:=Vi.opt (ha.mono fun y hy=>by simp[Op.operands];right;right;left;simpa using hy);cases mx with
  |none=>rw[Zna,Zna,h1,h2,h3]
  |some m=>simp only[Ym]
 |fieldAddr s x f=>simp only[Ym];rw[ha x (by simp[Op.operands])]
 |field s x f=>simp only[Ym];rw[ha x (by simp[Op.operands])]
 |indexAddr t x i=>rw[Zei,Zei,ha x (by simp[Op.operands]),ha i (by simp[Op.operands])]
 |index t x i=>rw[Znb,Znb,ha x (by simp[Op.operands]),ha i (by simp[Op.operands])]
 |lookup t x i ok=>simp only[Ym];rw[ha x (by simp[Op.operands]),ha i (by simp[Op.operands])]
 |extract t i=>simp only[Ym];rw[ha t (by simp[Op.operands])]
 |call c=>
  have:W9 sl c.args.toList=W9 Yy c.args.toList:=Vi.opds (ha.mono fun x hx=>by simp[Op.operands,Call.operands];exact Or.inr (by simpa using hx));simp only[Ym,this]
 | _=>rfl
theorem Zul {o:Oper}(ha:Vi sl Yy o.op.operands.toList):V1 C all sl o=V1 C all Yy o:=by
 obtain⟨d,op,ty,pos,af,gd⟩:=o;cases op with
 |box t x=>simp only[V1];rw[ha x (by simp[Op.operands])]
 |buildSlice t n ps=>
  have:U1 sl ps.toList=U1 Yy ps.toList:=Vi.parts (ha.mono fun x hx=>by simpa[Op.operands]using hx);simp only[V1,this]
 |makeSlice t l c=>rw[Zd7,Zd7,ha l (by simp[Op.operands]),ha c (by simp[Op.operands])]
 |makeMap t r=>cases r<;>rfl
 | _=>rfl
theorem Zqv {o:Oper}(ha:Vi sl Yy o.op.operands.toList):Zj C cf yf all K sl h o=Zj C cf yf all K Yy h o:=by
 obtain⟨d,op,ty,pos,af,gd⟩:=o;cases op with
 |load t a=>rw[Zlx,Zlx,ha a (by simp[Op.operands])]
 |store t a x=>rw[Zjy,Zjy,ha a (by simp[Op.operands]),ha x (by simp[Op.operands])]
 |convert s t x=>rw[Zbn,Zbn,ha x (by simp[Op.operands])]
 |slice t x lo hi mx=>
  have h1:=ha x (by simp[Op.operands]);have h2:Sw sl lo=Sw Yy lo:=Vi.opt (ha.mono fun y hy=>by simp[Op.operands];right;left;simpa using hy);have h3:Sw sl hi=Sw Yy hi:=Vi.opt (ha.mono fun y hy=>by simp[Op.operands];right;right;left;simpa using hy);cases mx with
  |none=>rw[Zds,Zds,h1,h2,h3]
  |some m=>simp only[Zj]
 |indexAddr t x i=>rw[Qh,Qh,ha x (by simp[Op.operands]),ha i (by simp[Op.operands])]
 |lookup t x i ok=>simp only[Zj];rw[ha x (by simp[Op.operands]),ha i (by simp[Op.operands])]
 |mapUpdate t m k x=>simp only[Zj];rw[ha m (by simp[Op.operands]),ha k (by simp[Op.operands]),ha x (by simp[Op.operands])]
 |insert t m k x=>simp only[Zj];rw[ha m (by simp[Op.operands]),ha k (by simp[Op.operands]),ha x (by simp[Op.operands])]
 |call c=>
  have h1:W9 sl c.args.toList=W9 Yy c.args.toList:=Vi.opds (ha.mono fun x hx=>by simp[Op.operands,Call.operands];exact Or.inr (by simpa using hx));obtain⟨cal,args,ats⟩:=c;cases cal with
  |value f=>
   have h2:=ha f (by simp[Op.operands,Call.operands]);simp only[Zj,h1,h2]
  |invoke r m=>simp only[Zj,h1]
  |builtin b=>simp only[Zj,h1]
 | _=>rfl
end
def Zpb (C:Ctx):Op->Bool
 | .load _ _ | .store _ _ _ | .lookup _ _ _ _ | .mapUpdate _ _ _ _ | .insert _ _ _ _=>true
 | .slice t _ _ _ _ | .indexAddr t _ _=>match C.T t with
   |some a=>match a.k with | .slice _=>true | _=>false
   |none=>false
 | .convert s t _=>match C.T s,C.T t with
   |some a,some b=>match a.k,b.k with
    | .str,.slice _=>true
    | .slice _,.str=>true
    | _,_=>false
   | _,_=>false
 | .call c=>match c.callee with
   | .value _=>true
   | .builtin b=>match b with
     | .append | .delete=>true
     | .len=>match (c.argTypes[0]?).bind C.T with
       |some a=>match a.k with | .map _ _=>true | _=>false
       |none=>false
     | _=>false
   | _=>false
 | _=>false
def Zae6:Op->Bool
 | .alloc _ | .box _ _ | .buildSlice _ _ _ | .makeSlice _ _ _ | .makeMap _ _=>true
 | _=>false
def litO (all:List Oper)(o:Oper):Bool:=match o.op with
 | .buildSlice _ _ _=>match o.dst with | some d=>Zmk all d | none=>false
 | _=>false
def Zmg (all:List Oper)(o:Oper):Bool:=Zae6 o.op&&!litO all o
def Zv2:Op->Bool
 | .call c=>match c.callee with | .value _=>true | _=>false
 | _=>false
def Zae8:Op->Bool
 | .load _ _ | .indexAddr _ _ _=>true
 | _=>false
structure Md where
 pf:Bool
 ld:Bool
 fr:List Nat
 rd:List Nat:=[]
 ids:List Nat:=[]
 fl:List Nat:=[]
 ls:Bool:=false
def Md.inRd (m:Md)(o:Oper):Bool:=match o.dst with | some d=>m.rd.contains d | none=>false
def Md.inFl (m:Md)(o:Oper):Bool:=match o.dst with | some d=>m.fl.contains d | none=>m.fl.contains 1000000
def Z3o (h0 h:PH)(u:Nat):Bool:=match h.get u,h0.get u with
 |some (v,_),some (w,_)=>Nat.beq v w
 | _,_=>false
def Z8o (h:PH)(u:Nat):Bool:=match h.get u with | some (_,.cells _)=>true | some (_,.row _ true _)=>true | _=>false
def Md.okB (m:Md)(h0 h:PH)(sl:Yw)(o:Oper)(v:PV):Bool:=match Zhq sl o with
 |some (u,Zc)=>m.ids.contains u&&(match h0.get u with | some (w,_)=>Nat.beq w Zc | none=>false)&&(X4 4 v||(m.ls&&Z8o h u))&&W5 3 v
 |none=>false
def Md.free (m:Md)(o:Oper):Bool:=(m.ld&&Zae8 o.op)||(match o.dst with | some d=>m.fr.contains d | none=>false)
def Vm (pf:Md)(o:Oper):Bool:=U8 o&&!(pf.pf&&Zv2 o.op)
def Zaa (C:Ctx)(pf:Md)(o:Oper):Bool:=Zpb C o.op&&!pf.free o
def Zam8 (C:Ctx)(pf:Md)(ops:Array Oper):Bool:=
 let masks:=Region.before ops
 ops.toList.zipIdx.all fun (o,i)=>!Zaa C pf o||ops.toList.zipIdx.all fun (p,j)=>!Nat.blt j i||((!Zmg ops.toList p||(masks.getD i 0).testBit j||pf.inRd o)&&(!Zaa C pf p||(!Vm pf o&&!Vm pf p)||(masks.getD i 0).testBit j||(pf.inRd o&&pf.inFl p)||(pf.inRd p&&pf.inFl o&&!Vm pf p)))
def Zae0 (C:Ctx)(pf:Md)(ops:Array Oper):Bool:=!pf.ls||ops.toList.zipIdx.all fun (o,i)=>!pf.inRd o||ops.toList.zipIdx.all fun (p,j)=>!Nat.blt j i||!Zaa C pf p||!Vm pf p||pf.inFl p
def Zg7 (C:Ctx)(pf:Md)(ops:Array Oper):Bool:=Zam8 C pf ops&&Zae0 C pf ops
structure Stat (C:Ctx)(pf:Md)(ops:Array Oper):Prop where
 ok:Zg7 C pf ops=true
def Qi (pf:Md)(h0:PH)(C:Ctx)(cf:CF)(yf:YF)(K:Loc)(all:List Oper):List Oper->Yw->PH->Option (Yw×PH)
 | [],sl,h=>some (sl,h)
 |o::r,sl,h=>
  match Vv all sl o with
  |some true=>match Ym C sl o with
   |some v=>if W5 3 v=true then Qi pf h0 C cf yf K all r (putP sl o.dst v) h else none
   |none=>match V1 C all sl o with
    |some m=>match m.obj,o.dst with
     |none,_=>Qi pf h0 C cf yf K all r (putP sl o.dst (m.val 0 0)) h
     |some ob,some d=>Qi pf h0 C cf yf K all r (sl.put d (m.val (K.base+d) (h.stamp (K.base+d)))) (h.put (K.base+d) (h.stamp (K.base+d)) ob)
     |some _,none=>none
    |none=>match Zj C cf yf all K sl h o with
     |some (v,h')=>if (!pf.free o&&(!(pf.pf&&Zv2 o.op)||Rg C sl o v)&&(!pf.inRd o||pf.okB h0 h sl o v)&&(!pf.inFl o||pf.ids.all fun u=>Wk (X9 C K sl h o) u&&Z3o h0 h u))=true then Qi pf h0 C cf yf K all r (putP sl o.dst v) h' else none
     |none=>none
  |some false=>Qi pf h0 C cf yf K all r (putP sl o.dst (.tuple [])) h
  |none=>none
section
variable {C:Ctx}{cf:CF}{yf:YF}{K:Loc}
theorem Zty {sl Yy:Yw}{o:Oper}{v:PV}(ha:Vi sl Yy o.op.operands.toList):Rg C sl o v=Rg C Yy o v:=by
 obtain⟨d,op,ty,pos,af,gd⟩:=o;cases op with
 |call c=>
  obtain⟨cal,args,ats⟩:=c;have h1:W9 sl args.toList=W9 Yy args.toList:=Vi.opds (ha.mono fun x hx=>by simp[Op.operands,Call.operands];exact Or.inr (by simpa using hx));cases cal with
  |value f=>
   have h2:=ha f (by simp[Op.operands,Call.operands]);simp only[Rg,h1,h2]
  | _=>rfl
 | _=>rfl
theorem Zum {sl Yy:Yw}{o:Oper}(ha:Vi sl Yy o.op.operands.toList):Zhq sl o=Zhq Yy o:=by
 obtain⟨d,op,ty,pos,af,gd⟩:=o;cases op with
 |load t a=>simp only[Zhq];rw[ha a (by simp[Op.operands])]
 | _=>rfl
theorem Zg3 {sl Yy:Yw}{h:PH}{o:Oper}(ha:Vi sl Yy o.op.operands.toList):X9 C K sl h o=X9 C K Yy h o:=by
 obtain⟨d,op,ty,pos,af,gd⟩:=o;cases op with
 |store t a x=>simp only[X9];rw[ha a (by simp[Op.operands]),ha x (by simp[Op.operands])]
 |call c=>
  obtain⟨cal,args,ats⟩:=c;have h1:W9 sl args.toList=W9 Yy args.toList:=Vi.opds (ha.mono fun x hx=>by simp[Op.operands,Call.operands];exact Or.inr (by simpa using hx));cases cal with
  |value f=>
   have h2:=ha f (by simp[Op.operands,Call.operands]);simp only[X9,h1,h2]
  |builtin b=>
   cases b with
   |append=>
    simp only[X9];cases hl:args.toList with
    |nil=>rfl
    |cons x r=>
     have hm:x∈args.toList:=by rw[hl];simp
     have hx:=ha x (by simp[Op.operands,Call.operands];simpa using hm);cases d with
     |none=>rfl
     |some d=>simp only[hx]
   | _=>rfl
  | _=>rfl
 | _=>rfl
theorem Zuj {all:List Oper}{sl:Yw}{o:Oper}{m:Mk}(h:V1 C all sl o=some m):Zae6 o.op=true:=by
 obtain⟨d,op,ty,pos,af,gd⟩:=o;cases op<;>first | rfl | (simp only[V1]at h;cases h)
theorem Zuk {all:List Oper}{sl:Yw}{o:Oper}{m:Mk}{ob:PO}(h:V1 C all sl o=some m)(Tl:m.obj=some ob):Zmg all o=true:=by
 have h1:=Zuj h;unfold Zmg;rw[h1];obtain⟨d,op,ty,pos,af,gd⟩:=o;cases op with
 |buildSlice t len ps=>
  cases d with
  |none=>rfl
  |some d=>
   cases hl:Zmk all d with
   |false=>simp only[litO,hl];rfl
   |true=>
    simp only[V1,hl,if_true]at h;split at h
    .split at h
     .split at h
      .split at h
       .split at h
        .split at h
         .split at h
          .cases h;cases Tl
          .cases h
         .cases h
        .cases h
       .cases h
      .cases h
     .cases h
    .cases h
 | _=>rfl
theorem Zqu {all:List Oper}{sl:Yw}{h:PH}{o:Oper}{r:PV×PH}(he:Zj C cf yf all K sl h o=some r):Zpb C o.op=true:=by
 obtain⟨d,op,ty,pos,af,gd⟩:=o;cases op with
 |convert s t x=>
  rw[Zbn]at he;simp only[Zpb];cases hs:C.T s with
  |none=>rw[hs]at he;cases he
  |some a=>
   cases ht:C.T t with
   |none=>rw[hs,ht]at he;cases he
   |some b=>
    simp only[hs,ht,X2]at he ⊢;cases hx:Yz sl x with
    |none=>rw[hx]at he;cases he
    |some v=>
     rw[hx]at he;simp only[X2,Z3m]at he;split at he
     .rename_i h1 h2;simp only[h1,h2]
     .rename_i h1 h2;simp only[h1,h2]
     .cases he
 |call c=>
  obtain⟨cal,args,ats⟩:=c;simp only[Zj]at he;split at he
  .cases he
  .cases cal with
   |value f=>rfl
   |invoke r m=>cases he
   |builtin b=>
    cases b with
    |append=>rfl
    |delete=>rfl
    |len=>
     simp only[Zpb];simp only at he;split at he
     .rename_i hb hx;cases hT:(ats[0]?).bind C.T with
      |none=>rw[hT]at he;cases he
      |some T=>
       rw[hT]at he;simp only at he ⊢;cases hk:T.k<;>first | rfl | (rw[hk]at he;cases he)
     .rename_i hb hx;cases hb
     .rename_i hb hx;cases hb
     .cases he
    | _=>simp only at he;cases he
 |slice t x lo hi mx=>
  cases mx with
  |some m=>simp only[Zj]at he;cases he
  |none=>
   rw[Zds]at he;simp only[Zpb];cases hT:C.T t with
   |none=>rw[hT]at he;cases he
   |some T=>
    rw[hT]at he;simp only[X2]at he ⊢;cases hx:Yz sl x with
    |none=>rw[hx]at he;cases he
    |some v=>
     rw[hx]at he;simp only[X2]at he;cases h1:Sw sl lo with
     |none=>rw[h1]at he;cases he
     |some l=>
      rw[h1]at he;simp only[X2]at he;cases h2:Sw sl hi with
      |none=>rw[h2]at he;cases he
      |some u=>
       rw[h2]at he;simp only[X2,sliO]at he;cases v<;>first | (cases he;done) | skip
       cases hk:T.k<;>first | rfl | (rw[hk]at he;cases he)
 |indexAddr t x i=>
  rw[Qh]at he;simp only[Zpb];cases hT:C.T t with
  |none=>rw[hT]at he;cases he
  |some T=>
   rw[hT]at he;simp only[X2]at he ⊢;cases hx:Yz sl x with
   |none=>rw[hx]at he;cases he
   |some v=>
    rw[hx]at he;simp only[X2]at he;cases hi:Yz sl i with
    |none=>rw[hi]at he;cases he
    |some w=>
     rw[hi]at he;simp only[X2,Z6l]at he;cases v<;>first | (cases he;done) | skip
     cases w<;>first | (cases he;done) | skip
     cases hk:T.k<;>first | rfl | (rw[hk]at he;cases he)
 | _=>first | rfl | (simp only[Zj]at he;cases he)
theorem Zq5 {pf:Md}{h0:PH}{ops:Array Oper}(hS:Stat C pf ops):∀(l done:List Oper) (s:PD) (r:Yw×PH),ops.toList=done++l ->
  (∀p,p∈s.st->∃o,ops.toList[p.1]?=some o/\p.1 < done.length/\Zaa C pf o=true/\(p.2=true->Vm pf o=true)/\pf.inRd o=false)->(∀j,j∈s.made->∃o,ops.toList[j]?=some o/\j < done.length/\Zmg ops.toList o=true) ->
  (∀p,p∈s.rb->∃o,ops.toList[p.1]?=some o/\p.1 < done.length/\Zaa C pf o=true/\(pf.inRd o=true->p.2∈pf.ids))->(∀p,p∈s.wt->∃o,ops.toList[p.1]?=some o/\p.1 < done.length/\Zaa C pf o=true/\Vm pf o=true/\(pf.inFl o=true->∀u,u∈pf.ids->Wk p.2 u=true))->(∀u,s.old u=(h0.get u).map (·.1)) ->
  Qi pf h0 C cf yf K ops.toList l s.sl s.h=some r->∃s',Qm C cf yf K ops.toList (Region.before ops) l done.length s=some s'/\(s'.sl,s'.h)=r:=by
 intro l
 induction l with
 |nil=>
  intro done s r hd h1 h2 h3 h4 hol he;simp only[Qi,Option.some.injEq]at he;exact⟨s,rfl,he⟩
 |cons o l ih=>
  intro done s r hd h1 h2 h3 h4 hol he;have hd':ops.toList=(done++[o])++l:=by rw[hd];simp
  have hlen:(done++[o]).length=done.length+1:=by simp
  have hio:ops.toList[done.length]?=some o:=by rw[hd];simp
  have hpk:∀t,t∈Yh ops.toList o->(fun t=>if (Yh ops.toList o).contains t then s.sl t else none) t=s.sl t:=by
   intro t ht;have:(Yh ops.toList o).contains t=true:=by simpa using ht
   simp only[this,if_true]
  have hag:Vi (fun t=>if (Yh ops.toList o).contains t then s.sl t else none) s.sl o.op.operands.toList:=by
   intro x hx;cases x with
   |tmp t=>
    refine hpk t ?_;unfold Yh;refine List.mem_append_left _ (List.mem_filterMap.2 ⟨.tmp t,hx,rfl⟩)
   | _=>rfl
  have hw:Vv ops.toList (fun t=>if (Yh ops.toList o).contains t then s.sl t else none) o=Vv ops.toList s.sl o:=by
   unfold Vv;cases hg:o.guard with
   |none=>rfl
   |some p=>
    obtain⟨j,want⟩:=p;simp only;cases hj:(ops.toList[j]?).bind (·.dst) with
    |none=>rfl
    |some d=>
     simp only
     have:d∈Yh ops.toList o:=by
      unfold Yh;refine List.mem_append_right _ ?_;rw[hg];simp only[hj,Option.toList,List.mem_singleton]
     have:=hpk d this;simp only at this;rw[this]
  have Zax8:∀p,p∈s.st->∃o,ops.toList[p.1]?=some o/\p.1 < (done++[o]).length/\Zaa C pf o=true/\(p.2=true->Vm pf o=true)/\pf.inRd o=false:=fun p hp=>by
   obtain⟨o',a,b,c⟩:=h1 p hp;exact⟨o',a,by simp;omega,c⟩
  have Zps:∀j,j∈s.made->∃o',ops.toList[j]?=some o'/\j < (done++[o]).length/\Zmg ops.toList o'=true:=fun j hj=>by
   obtain⟨o',a,b,c⟩:=h2 j hj;exact⟨o',a,by simp;omega,c⟩
  have Zi6:∀p,p∈s.st->∃o',ops.toList[p.1]?=some o'/\p.1 < (done++[o]).length/\Zaa C pf o'=true/\(p.2=true->Vm pf o'=true)/\pf.inRd o'=false:=fun p hp=>by
   obtain⟨o',a,b,c⟩:=h1 p hp;exact⟨o',a,by simp;omega,c⟩
  have Zax7:∀p,p∈s.rb->∃o,ops.toList[p.1]?=some o/\p.1 < (done++[o]).length/\Zaa C pf o=true/\(pf.inRd o=true->p.2∈pf.ids):=fun p hp=>by
   obtain⟨o',a,b,c⟩:=h3 p hp;exact⟨o',a,by simp;omega,c⟩
  have Zmm:∀p,p∈s.wt->∃o',ops.toList[p.1]?=some o'/\p.1 < (done++[o]).length/\Zaa C pf o'=true/\Vm pf o'=true/\(pf.inFl o'=true->∀u,u∈pf.ids->Wk p.2 u=true):=fun p hp=>by
   obtain⟨o',a,b,c⟩:=h4 p hp;exact⟨o',a,by simp;omega,c⟩
  have Zi5:∀p,p∈s.rb->∃o',ops.toList[p.1]?=some o'/\p.1 < (done++[o]).length/\Zaa C pf o'=true/\(pf.inRd o'=true->p.2∈pf.ids):=fun p hp=>by
   obtain⟨o',a,b,c⟩:=h3 p hp;exact⟨o',a,by simp;omega,c⟩
  simp only[Qi]at he;simp only[Qm,Zc7,hw,Zvk hag,Zul hag,Zqv hag];cases hwt:Vv ops.toList s.sl o with
  |none=>rw[hwt]at he;cases he
  |some w=>
   rw[hwt]at he;cases w with
   |false=>
    simp only at he ⊢;have:=ih (done++[o]) {s with sl:=putP s.sl o.dst (.tuple [])} r hd' Zi6 Zps Zi5 Zmm hol he
    rwa [hlen]at this
   |true=>
    simp only at he ⊢;cases hf:Ym C s.sl o with
    |some v=>
     rw[hf]at he;simp only at he ⊢;split at he
     .rename_i hsm;rw[if_pos hsm];have:=ih (done++[o]) {s with sl:=putP s.sl o.dst v} r hd' Zi6 Zps Zi5 Zmm hol he
      rwa [hlen]at this
     .cases he
    |none=>
     rw[hf]at he;simp only at he ⊢;cases hm:V1 C ops.toList s.sl o with
     |some m=>
      rw[hm]at he;simp only at he ⊢;cases Tl:m.obj with
      |none=>
       rw[Tl]at he;simp only at he ⊢;have:=ih (done++[o]) {s with sl:=putP s.sl o.dst (m.val 0 0)} r hd' Zi6 Zps Zi5 Zmm hol he
       rwa [hlen]at this
      |some ob=>
       rw[Tl]at he;cases Rd:o.dst with
       |none=>rw[Rd]at he;cases he
       |some d=>
        rw[Rd]at he;simp only at he ⊢
        have:=ih (done++[o]) {s with sl:=s.sl.put d (m.val (K.base+d) (s.h.stamp (K.base+d))),h:=s.h.put (K.base+d) (s.h.stamp (K.base+d)) ob,made:=done.length::s.made} r hd' Zi6 (fun j hj=>by
         rcases List.mem_cons.1 hj with rfl | hj
         .exact ⟨o,hio,by simp,Zuk hm Tl⟩
         .exact Zps j hj) Zi5 Zmm hol he
        rwa [hlen]at this
     |none=>
      rw[hm]at he;simp only at he ⊢;cases X3:Zj C cf yf ops.toList K s.sl s.h o with
      |none=>rw[X3]at he;cases he
      |some p=>
       obtain⟨v,h'⟩:=p;rw[X3]at he;simp only at he ⊢;split at he
       .rename_i hpc;rw[Bool.and_eq_true,Bool.and_eq_true,Bool.and_eq_true]at hpc;obtain⟨⟨⟨hpf,hpc⟩,hrd⟩,Ul⟩:=hpc
        have hwi:(U8 o&&!Rg C s.sl o v)=true->Vm pf o=true:=by
         intro hh;rw[Bool.and_eq_true,Bool.not_eq_true']at hh;unfold Vm;rw[hh.1,Bool.true_and];rw[hh.2,Bool.or_false]at hpc;exact hpc
        have hso:Zaa C pf o=true:=by unfold Zaa;rw[Zqu X3,hpf];rfl
        have hok:=hS.ok;unfold Zg7 at hok;rw[Bool.and_eq_true]at hok
        have hB:=List.all_eq_true.1 hok.1 (o,done.length) (by
         rw[List.mem_zipIdx_iff_getElem?];simpa using hio)
        simp only[hso,Bool.not_true,Bool.false_or]at hB
        have hB':∀j p,ops.toList[j]?=some p->j < done.length->((!Zmg ops.toList p||((Region.before ops).getD done.length 0).testBit j||pf.inRd o)&&(!Zaa C pf p||(!Vm pf o&&!Vm pf p)||((Region.before ops).getD done.length 0).testBit j||(pf.inRd o&&pf.inFl p)||(pf.inRd p&&pf.inFl o&&!Vm pf p)))=true:=fun j p hj hlt=>by
         have:=List.all_eq_true.1 hB (p,j) (by rw[List.mem_zipIdx_iff_getElem?];simpa using hj);have hb:Nat.blt j done.length=true:=by simpa using hlt
         simp only[hb,Bool.not_true,Bool.false_or]at this;exact this
        have hwd:Qo C (fun t=>if (Yh ops.toList o).contains t then s.sl t else none) o v=(U8 o&&!Rg C s.sl o v):=by
         simp only[Qo,Zty hag]
        have hold:∀u,s.old u=(h0.get u).map (·.1):=hol
        have hrd1:pf.inRd o=true->∃u,u∈pf.ids/\Znt s (fun t=>if (Yh ops.toList o).contains t then s.sl t else none) o v=some u:=fun Wz=>by
         rw[Wz,Bool.not_true,Bool.false_or]at hrd;unfold Md.okB at hrd;unfold Znt;rw[Zum hag];cases hlk:Zhq s.sl o with
         |none=>rw[hlk]at hrd;cases hrd
         |some q=>
          obtain⟨u,Zc⟩:=q;rw[hlk]at hrd;simp only[Bool.and_eq_true]at hrd;obtain⟨⟨⟨a1,a2⟩,a3⟩,a4⟩:=hrd;have hu1:u∈pf.ids:=by simpa using a1
          refine⟨u,hu1,?_⟩
          have a3':(X4 4 v||s.clear u)=true:=by
           rw[Bool.or_eq_true]at a3 ⊢;refine a3.imp id fun a3=>?_
           rw[Bool.and_eq_true]at a3;unfold PD.clear;rw[Bool.and_eq_true];refine⟨List.all_eq_true.2 ?_,a3.2⟩;rintro⟨j,t⟩ hj;obtain⟨o',b1,b2,b3,b4,b5⟩:=h4 _ hj;refine b5 ?_ u hu1;have h9:=hok.2;unfold Zae0 at h9;rw[a3.1,Bool.not_true,Bool.false_or]at h9;have h9:=List.all_eq_true.1 h9 (o,done.length) (by rw[List.mem_zipIdx_iff_getElem?];simpa using hio);simp only[Wz,Bool.not_true,Bool.false_or]at h9;have h9:=List.all_eq_true.1 h9 (o',j) (by rw[List.mem_zipIdx_iff_getElem?];simpa using b1);have hb:Nat.blt j done.length=true:=by simpa using b2
           simpa only[hb,b3,b4,Bool.not_true,Bool.false_or]using h9
          simp only[hold];cases hx:h0.get u with
          |none=>rw[hx]at a2;cases a2
          |some x=>
           rw[hx]at a2;simp only[Option.map_some];rw[if_pos (by simp only[a2,a3',a4,Bool.and_self])]
        have Zm3:∀u,Z3o h0 s.h u=true->s.cur u=true:=fun u hu=>by
         unfold Z3o at hu;unfold PD.cur;rw[hold];cases hx:s.h.get u with
         |none=>rw[hx]at hu;cases hu
         |some x=>
          cases hy:h0.get u with
          |none=>rw[hx,hy]at hu;cases hu
          |some y=>rw[hx,hy]at hu;exact hu
        unfold Zzo;simp only[hwd];cases hbl:Znt s (fun t=>if (Yh ops.toList o).contains t then s.sl t else none) o v with
        |some u=>
         have hru:pf.inRd o=true->u∈pf.ids:=fun Wz=>by
          obtain⟨u',a1,a2⟩:=hrd1 Wz;rw[hbl]at a2;cases a2;exact a1
         simp only
         rw[if_pos (List.all_eq_true.2 fun p hp=>by
          obtain⟨o',a,b,c,e,f⟩:=h4 p hp;have:=hB' p.1 o' a b;simp only[c,e,Bool.not_true,Bool.false_or,Bool.and_false,Bool.and_eq_true,Bool.or_eq_true]at this;simp only[Bool.or_eq_true];rcases this.2 with (h7 | h7) | h7
          .exact .inl h7
          .exact .inr (f h7.2 u (hru h7.1))
          .cases h7)]
         have:=ih (done++[o]) {s with sl:=putP s.sl o.dst v,h:=h',rb:=(done.length,u)::s.rb} r hd' Zi6 Zps (fun p hp=>by
          rcases List.mem_cons.1 hp with rfl | hp
          .exact ⟨o,hio,by simp,hso,hru⟩
          .exact Zi5 p hp) Zmm hol he
         rwa [hlen]at this
        |none=>
         have hno:pf.inRd o=false:=by
          cases Wz:pf.inRd o with
          |false=>rfl
          |true=>
           obtain⟨u',a1,a2⟩:=hrd1 Wz;rw[hbl]at a2;cases a2
         have hB2:∀j p,ops.toList[j]?=some p->j < done.length->((!Zmg ops.toList p||((Region.before ops).getD done.length 0).testBit j)&&(!Zaa C pf p||(!Vm pf o&&!Vm pf p)||((Region.before ops).getD done.length 0).testBit j||(pf.inRd p&&pf.inFl o&&!Vm pf p)))=true:=fun j p hj hlt=>by
          have:=hB' j p hj hlt
          rwa [hno,Bool.or_false,Bool.false_and,Bool.or_false]at this
         have c1:(s.st.all fun x=>match x with | (j,w)=>(!w&&!(U8 o&&!Rg C s.sl o v))||((Region.before ops).getD done.length 0).testBit j)=true:=by
          rw[List.all_eq_true];rintro⟨j,w⟩ hj;obtain⟨p,a,b,c,e,f⟩:=h1 _ hj;have:=hB2 j p a b;simp only at e c f;simp only[c,f,Bool.not_true,Bool.false_or,Bool.and_eq_true,Bool.false_and,Bool.or_false]at this;simp only;have h2:=this.2;rw[Bool.or_eq_true]at h2 ⊢;rcases h2 with h2 | h2
          .left;rw[Bool.and_eq_true,Bool.not_eq_true',Bool.not_eq_true']at h2 ⊢;constructor
           .cases w with
            |false=>rfl
            |true=>rw[e rfl]at h2;cases h2.2
           .cases hx:(U8 o&&!Rg C s.sl o v) with
            |false=>rfl
            |true=>rw[hwi hx]at h2;cases h2.1
          .exact Or.inr h2
         have c2:(s.made.all fun j=>((Region.before ops).getD done.length 0).testBit j)=true:=by
          rw[List.all_eq_true];intro j hj;obtain⟨p,a,b,c⟩:=h2 _ hj;have:=hB2 j p a b;simp only[c,Bool.not_true,Bool.false_or,Bool.and_eq_true]at this;exact this.1
         have c5:(!(U8 o&&!Rg C s.sl o v)||s.rb.all fun x=>match x with | (c,u)=>((Region.before ops).getD done.length 0).testBit c||(Wk (X9 C K (fun t=>if (Yh ops.toList o).contains t then s.sl t else none) s.h o) u&&s.cur u))=true:=by
          cases hx:(U8 o&&!Rg C s.sl o v) with
          |false=>rfl
          |true=>
           simp only[Bool.not_true,Bool.false_or];refine List.all_eq_true.2 fun p hp=>?_
           obtain⟨o',a,b,c,f⟩:=h3 p hp;have:=hB2 p.1 o' a b;simp only[c,hwi hx,Bool.not_true,Bool.false_or,Bool.false_and,Bool.and_eq_true,Bool.or_eq_true]at this;simp only[Bool.or_eq_true,Bool.and_eq_true];rcases this.2 with h7 | h7
           .exact .inl h7
           .right;rw[h7.1.2,Bool.not_true,Bool.false_or]at Ul;have h8:=List.all_eq_true.1 Ul p.2 (f h7.1.1);rw[Bool.and_eq_true]at h8;exact⟨by rw[Zg3 hag];exact h8.1,Zm3 _ h8.2⟩
         simp only;rw[if_pos (by rw[c1,c2,c5];rfl)]
         have:=ih (done++[o]) {s with sl:=putP s.sl o.dst v,h:=h',st:=(done.length,U8 o&&!Rg C s.sl o v)::s.st,wt:=if (U8 o&&!Rg C s.sl o v)=true then (done.length,X9 C K (fun t=>if (Yh ops.toList o).contains t then s.sl t else none) s.h o)::s.wt else s.wt} r hd' (fun q hq=>by
          rcases List.mem_cons.1 hq with rfl | hq
          .exact ⟨o,hio,by simp,hso,hwi,hno⟩
          .exact Zi6 q hq) Zps Zi5 (fun p hp=>by
          simp only at hp;split at hp
          .rename_i hx;rcases List.mem_cons.1 hp with rfl | hp
           .refine ⟨o,hio,by simp,hso,hwi hx,fun Wz u hu=>?_⟩;rw[Wz,Bool.not_true,Bool.false_or]at Ul;have h8:=List.all_eq_true.1 Ul u hu;rw[Bool.and_eq_true]at h8;simp only[Zg3 hag];exact h8.1
           .exact Zmm p hp
          .exact Zmm p hp) hol he
         rwa [hlen]at this
       .cases he
theorem Zry {pf:Md}{ops:Array Oper}(hS:Stat C pf ops){sl:Yw}{h:PH}{r:Yw×PH}(he:Qi pf h C cf yf K ops.toList ops.toList sl h=some r):Zcj C cf yf K ops sl h=some r:=by
 obtain⟨s',h1,h2⟩:=Zq5 hS ops.toList [] {sl,h,st:=[],made:=[],old:=fun u=>(h.get u).map (·.1),rb:=[],wt:=[]} r rfl (by simp) (by simp) (by simp) (by simp) (fun _=>rfl) he;unfold Zcj;rw[show (0:Nat)=([]:List Oper).length from rfl,h1,Option.map_some,h2]
end
section
variable {C:Ctx}{K:Loc}{Xx:Bool}{sl:Yw}{h:PH}
theorem Q7 (pf:Md){Q:Ex×Yw×PH->Prop}{id:Nat}{ops:Array Oper}(hS:Stat C pf ops)(hx:wp (Qi pf h C (Yx C) (Ut C) K ops.toList ops.toList sl h) fun p=>Q (.normal,p.1,p.2)):wp (Vh C K Xx (.region id ops true) sl h) Q:=by
 obtain⟨r,h1,h2⟩:=Wb.1 hx;rw[Z8g,Zry hS h1];exact h2
end
theorem Yk {C:Ctx}{K:Loc}{Xx:Bool}{sl:Yw}{h:PH}(pf ld:Bool)(fr rd ids fl:List Nat)(ls:Bool){Q:Ex×Yw×PH->Prop}{id:Nat}{ops:Array Oper}(hS:Zg7 C {pf:=pf,ld:=ld,fr:=fr,rd:=rd,ids:=[],fl:=fl,ls:=ls} ops=true)
  (hx:wp (Qi {pf:=pf,ld:=ld,fr:=fr,rd:=rd,ids:=ids,fl:=fl,ls:=ls} h C (Yx C) (Ut C) K ops.toList ops.toList sl h) fun p=>Q (.normal,p.1,p.2)):wp (Vh C K Xx (.region id ops true) sl h) Q:=
 Q7 {pf:=pf,ld:=ld,fr:=fr,rd:=rd,ids:=ids,fl:=fl,ls:=ls} ⟨hS⟩ hx
section
variable {C:Ctx}{cf:CF}{yf:YF}{K:Loc}{all:List Oper}{sl:Yw}{h h0:PH}{pf:Md}
@[simp] theorem Zaes {Q:Yw×PH->Prop}:wp (Qi pf h0 C cf yf K all [] sl h) Q=Q (sl,h):=rfl
@[simp] theorem Zaas {o:Oper}{r:List Oper}{Q:Yw×PH->Prop}:wp (Qi pf h0 C cf yf K all (o::r) sl h) Q =
  wp (Vv all sl o) fun w=>ifB w
   (opF (Ym C sl o) (fun v=>ifB (W5 3 v) (wp (Qi pf h0 C cf yf K all r (putP sl o.dst v) h) Q) False)
     (opM (V1 C all sl o) (fun m=>match m.obj,o.dst with
       |none,_=>wp (Qi pf h0 C cf yf K all r (putP sl o.dst (m.val 0 0)) h) Q
       |some ob,some d=>wp (Qi pf h0 C cf yf K all r (sl.put d (m.val (K.base+d) (h.stamp (K.base+d)))) (h.put (K.base+d) (h.stamp (K.base+d)) ob)) Q
       |some _,none=>False)
     (wp (Zj C cf yf all K sl h o) fun p=>ifB (!pf.free o&&(!(pf.pf&&Zv2 o.op)||Rg C sl o p.1)&&(!pf.inRd o||pf.okB h0 h sl o p.1)&&(!pf.inFl o||pf.ids.all fun u=>Wk (X9 C K sl h o) u&&Z3o h0 h u)) (wp (Qi pf h0 C cf yf K all r (putP sl o.dst p.1) p.2) Q) False)))
   (wp (Qi pf h0 C cf yf K all r (putP sl o.dst (.tuple [])) h) Q):=by
 simp only[Qi];cases Vv all sl o with
 |none=>rfl
 |some w=>
  cases w with
  |false=>rfl
  |true=>
   simp only[Zqq,Zur];cases Ym C sl o with
   |some v=>
    simp only[Z5k];cases hs:W5 3 v<;>simp[ifB]
   |none=>
    simp only[Zt8];cases V1 C all sl o with
    |some m=>
     simp only[Zt7];cases m.obj with
     |none=>rfl
     |some ob=>cases o.dst<;>rfl
    |none=>
     simp only[Z5j];cases Zj C cf yf all K sl h o with
     |none=>rfl
     |some p=>
      simp only[Zqq];cases hs:(!pf.free o&&(!(pf.pf&&Zv2 o.op)||Rg C sl o p.1)&&(!pf.inRd o||pf.okB h0 h sl o p.1)&&(!pf.inFl o||pf.ids.all fun u=>Wk (X9 C K sl h o) u&&Z3o h0 h u))<;>simp only[Bool.false_eq_true,if_false,if_true,Zur,Z17,Zaat]
end
attribute [simp] W5 Zv2 Rg X4 Zae8 Md.free Md.inRd Md.inFl Md.okB Z8o Z3o Zhq X9 Wk
end Go.Pure
end
section
namespace Go.Pure
open Go
open Go.Virt (Ex Ctx Ty TK)
theorem Rm:Virt.maxLenV=1073741824:=rfl
def Acc (S:List Nat)(K:Loc)(h:PH)(g:Nat)(v:PV)(xs:List PV):Prop:=
 (xs=[]/\v=.nils)\/∃d Zc,xs≠[]/\d∈S/\v=.own (K.base+d) Zc g 0 xs.length/\h.get (K.base+d)=some (Zc,.row g true xs)
theorem Acc.nil {S:List Nat}{K:Loc}{h:PH}{g:Nat}:Acc S K h g .nils []:=Or.inl ⟨rfl,rfl⟩
theorem Acc.inl {S:List Nat}{K:Loc}{h:PH}{g:Nat}{v:PV}{xs:List PV}(hA:Acc S K h g v xs):inlV h v=some (L g true xs):=by
 rcases hA with⟨rfl,rfl⟩ | ⟨d,Zc,Yq,_,rfl,hg⟩
 .rfl
 .cases xs with
  |nil=>exact absurd rfl Yq
  |cons=>simp[inlV,Qj,PH.elems,PH.row,hg,L]
theorem Acc.inlT {S:List Nat}{K:Loc}{h:PH}{g:Nat}{v:PV}{xs:List PV}(hA:Acc S K h g v xs):inlT h v=inlV h v:=by
 rcases hA with⟨rfl,rfl⟩ | ⟨d,Zc,Yq,_,rfl,hg⟩<;>rfl
theorem Acc.len {S:List Nat}{K:Loc}{h:PH}{g:Nat}{v:PV}{xs:List PV}(hA:Acc S K h g v xs):Z14 v=some xs.length:=by
 rcases hA with⟨rfl,rfl⟩ | ⟨d,Zc,Yq,_,rfl,hg⟩<;>rfl
theorem Acc.frame {S:List Nat}{K:Loc}{h h':PH}{g:Nat}{v:PV}{xs:List PV}(hA:Acc S K h g v xs)(hf:∀d,d∈S->h'.get (K.base+d)=h.get (K.base+d)):Acc S K h' g v xs:=by
 rcases hA with h1 | ⟨d,Zc,Yq,hd,e,hg⟩
 .exact Or.inl h1
 .exact Or.inr ⟨d,Zc,Yq,hd,e,by rw[hf d hd,hg]⟩
theorem Acc.own {S:List Nat}{K:Loc}{h:PH}{g:Nat}{v:PV}{xs:List PV}(hA:Acc S K h g v xs)(Yq:xs≠[]):∃d Zc,d∈S/\v=.own (K.base+d) Zc g 0 xs.length/\h.get (K.base+d)=some (Zc,.row g true xs):=by
 rcases hA with⟨e,_⟩ | h1
 .exact absurd e Yq
 .obtain ⟨d,Zc,_,h2,h3,h4⟩:=h1;exact⟨d,Zc,h2,h3,h4⟩
theorem Acc.app {S:List Nat}{K:Loc}{h:PH}{g:Nat}{v:PV}{xs ys:List PV}{T:Ty}{dd:Nat}(hA:Acc S K h g v xs)(hd:dd∈S)(hK:K.lo=K.base)(h1:xs.length+ys.length<=1073741824)(h2:T.bytes<=65536)(h3:0 < T.size)(h4:ys≠[]):
  ∃v' h',Xu K h dd g T ys.length ys v=some (v',h')/\Acc S K h' g v' (xs++ys)/\h'.next=h.next/\∀j,(∀d,d∈S->j≠K.base+d)->h'.get j=h.get j:=by
 have hl:ys.length≠0:=by
  cases ys with
  |nil=>exact absurd rfl h4
  |cons=>simp
 rcases hA with⟨rfl,rfl⟩ | ⟨d,Zc,Yq,hdS,rfl,hg⟩
 .refine ⟨_,_,Q1 (by omega) h2 h3 hl,Or.inr ⟨dd,h.stamp (K.base+dd),by simpa using h4,hd,by simp,by simp⟩,rfl,fun j hj=>?_⟩;simp[hj dd hd]
 .have hr:h.row (K.base+d) Zc g=some (true,xs):=by simp[PH.row,hg]
  refine⟨_,_,((by rw[Qf,hr];rfl:Xu K h dd g T ys.length ys (.own (K.base+d) Zc g 0 xs.length)=Zwa K h T g (K.base+d) Zc 0 xs.length ys.length ys (true,xs)).trans (Zle h1 h2 h3 (by simp[can,hK]) rfl (by simp))),Or.inr ⟨d,Zc+1,by simp[h4],hdS,by simp,by simp⟩,rfl,fun j hj=>?_⟩;simp[hj d hdS]
theorem Wu {h:PH}:∀ {args:List PV},args.flatMap ownV=[]->Xd (inlV h) args=some args:=by
 have Zfk:∀a,ownV a=[]->inlV h a=some a:=by
  intro a ha
  have hc:∀cs:List PV,cs.flatMap Tv=[]->Xd (Qj h) cs=some cs:=by
   intro cs
   induction cs with
   |nil=>intro _;rfl
   |cons c cs ih=>
    intro hh;rw[List.flatMap_cons,List.append_eq_nil_iff]at hh;simp only[Xd,ih hh.2];cases c<;>simp_all[Tv,Qj]
  cases a with
  |agg cs=>simp only[inlV];rw[hc cs ha];rfl
  |own=>simp[ownV,Tv]at ha
  | _=>rfl
 intro args
 induction args with
 |nil=>intro _;rfl
 |cons a l ih=>
  intro ho;rw[List.flatMap_cons,List.append_eq_nil_iff]at ho;simp only[Xd,Zfk a ho.1,ih ho.2]
theorem Acc.call {C:Ctx}{S:List Nat}{K:Loc}{h:PH}{g f:Nat}{v w:PV}{xs:List PV}(hA:Acc S K h g v xs)(hK:K.lo=K.base)(Xo:C.raw f=false)(pre post:List PV)(Zyb:Xw C f (pre++L g true xs::post) w)(hw:Zdd w=true)
  (h1:(pre++post).flatMap ownV=[]) (h2:(pre++post).flatMap (refs 3)=[]):Yx C K f (pre++v::post) h=some (w,h):=by
 rw[List.flatMap_append,List.append_eq_nil_iff]at h1 h2
 have Zm5:∀(a b:List PV) (a' b':List PV),Xd (inlV h) a=some a'->Xd (inlV h) b=some b'->Xd (inlV h) (a++b)=some (a'++b'):=by
  intro a
  induction a with
  |nil=>intro b a' b' e1 e2;simp only[Xd,Option.some.injEq]at e1;subst e1;exact e2
  |cons x a ih=>
   intro b a' b' e1 e2;simp only[Xd]at e1;simp only[List.cons_append,Xd];split at e1
   .rename_i y ys hy hys;cases e1;rw[hy,ih b ys b' hys e2];rfl
   .cases e1
 refine Znq Zyb hw Xo (Zm5 _ _ _ _ (Wu h1.1) ?_) (by cases pre<;>rfl) ?_ ?_ ?_
 .simp only [Xd,hA.inl,Wu h1.2]
 .rw [List.flatMap_append,List.flatMap_cons,h1.1,h1.2];simp
 .rw [List.flatMap_append,List.flatMap_cons,h2.1,h2.2];simp
 .rw [List.flatMap_append,List.flatMap_cons,h1.1,h1.2];rcases hA with⟨_,rfl⟩ | ⟨d,Zc,_,_,rfl,hg⟩
  .simp
  .simp [hg,can,hK]
theorem Zzx {p:Prop}[Decidable p]{A B:Prop}{t:Tag A}{u:Tag B}(h1:p->A)(h2:¬p->B):ifB (decide p) A B t u:=by
 by_cases h:p
 .rw [decide_eq_true h];exact h1 h
 .rw [decide_eq_false h];exact h2 h
theorem Zk4 {α:Type}[BEq α][LawfulBEq α]{a b:α}{A B:Prop}{t:Tag A}{u:Tag B}(h1:a=b->A)(h2:(a==b)=false->a≠b->B):ifB (a==b) A B t u:=by
 by_cases h:a=b
 .subst h;rw[BEq.rfl];exact h1 rfl
 .rw [beq_false_of_ne h];exact h2 (beq_false_of_ne h) h
theorem Zus {p:Prop}[Decidable p]{A B:Prop}{t:Tag A}{u:Tag B}(h:p)(hA:p->A):ifB (decide p) A B t u:=by rw[decide_eq_true h];exact hA h
theorem Zut {p:Prop}[Decidable p]{A B:Prop}{t:Tag A}{u:Tag B}(h:¬p)(hB:¬p->B):ifB (decide p) A B t u:=by rw[decide_eq_false h];exact hB h
theorem Z6e {a b:Int}{A B:Prop}{t:Tag A}{u:Tag B}(h:a=b)(hA:a=b->A):ifB (a==b) A B t u:=by subst h;rw[BEq.rfl];exact hA rfl
theorem Z6f {a b:Int}{A B:Prop}{t:Tag A}{u:Tag B}(h:a≠b)(hB:(a==b)=false->a≠b->B):ifB (a==b) A B t u:=by rw[beq_false_of_ne h];exact hB (beq_false_of_ne h) h
@[simp] theorem Zam9 {n i:Nat}{h:PH}:PH.stamp ⟨n,h.get⟩ i=h.stamp i:=rfl
@[simp] theorem Zakw {i j v:Nat}{o:PO}{h:PH}:PH.stamp (h.put i v o) j=if j=i then v+1 else h.stamp j:=by
 simp only[PH.stamp,PH.put];split<;>rename_i hh
 .split at hh
  .rename_i e;cases hh;simp[e]
  .rename_i e;rw[hh];simp[e]
 .split at hh
  .cases hh
  .rename_i e;rw[hh];simp[e]
theorem Zs4 {n:Int}(h1 : -9223372036854775808<=n)(h2:n < 9223372036854775808):IntKind.i64.wrap n=n:=wrap_i64 h1 h2
theorem Z4j {n:Int}(h1:0<=n)(h2:n < 256):IntKind.u8.wrap n=n:=wrap_u8 h1 h2
theorem Zams {n:Int}(h1:0<=n)(h2:n < 18446744073709551616):IntKind.u64.wrap n=n:=Zo6 h1 h2
theorem wrap32 {n:Int}(h1:0<=n)(h2:n < 4294967296):IntKind.u32.wrap n=n:=by
 simp only[IntKind.wrap,IntKind.bits,IntKind.signed,Bool.false_and,Bool.false_eq_true,if_false];omega
theorem toNat_add_nat (a b:Nat):((a:Int)+(b:Int)).toNat=a+b:=by omega
theorem Zsi (a b:Int):a+b - a=b:=by omega
theorem Z59 {a b:Int}:(if a < b then b else a)=max a b:=by omega
theorem Z57 {a b:Int}:(if a < b then a else b)=min a b:=by omega
theorem Z58 {a b:Nat}:(if a < b then (b:Int) else (a:Int))=((max a b:Nat):Int):=by omega
theorem Z56 {a b:Nat}:(if a < b then (a:Int) else (b:Int))=((min a b:Nat):Int):=by omega
theorem Zc3 {l:List Nat}(h:∀c,c∈l->c < 256):Zj.bytesP (l.map fun c:Nat=>PV.int .u8 (c:Int))=some l:=by
 induction l with
 |nil=>rfl
 |cons c l ih=>
  have h1:c < 256:=h c List.mem_cons_self;have h2:=ih fun d hd=>h d (List.mem_cons_of_mem _ hd)
  simp only[List.map_cons,Zj.bytesP,h2,Option.map_some];congr 2;omega
def Stop (P:Prop)(_t:Tag P:=⟨⟩):Prop:=P
theorem Zky {P:Prop}{t:Tag P}(h:P):Stop P t:=h
theorem Zkw {C:Ctx}{K:Loc}{Xx:Bool}{A B:Code}{sl:Yw}{h:PH}{Q:Ex×Yw×PH->Prop}(hx:wp (Vh C K Xx A sl h) fun r=>match r with
  | (.normal,Yy,h')=>Stop (wp (Vh C K Xx B Yy h') Q)
  |r=>Q r):wp (Vh C K Xx (.seq A B) sl h) Q:=by
 rw[wp_seq];exact hx
theorem Z4l {C:Ctx}{K:Loc}{Xx:Bool}{A B:Code}{sl:Yw}{h:PH}{Q:Ex×Yw×PH->Prop}(R:Yw->PH->Prop)(hx:wp (Vh C K Xx A sl h) fun r=>match r with
  | (.normal,Yy,h')=>R Yy h'
  |r=>Q r) (hB:∀sl h,R sl h->wp (Vh C K Xx B sl h) Q):wp (Vh C K Xx (.seq A B) sl h) Q:=by
 rw[wp_seq];refine wp_mono hx ?_;rintro⟨x,Yy,h'⟩ hr;cases x with
 |normal=>exact hB _ _ hr
 |exit id=>exact hr
 |ret=>exact hr
theorem Zz:(∀ {n:Int}, -9223372036854775808<=n->n < 9223372036854775808->IntKind.i64.wrap n=n)/\(∀ {n:Int},0<=n->n < 256->IntKind.u8.wrap n=n)/\(∀ {n:Int},0<=n->n < 18446744073709551616->IntKind.u64.wrap n=n)/\(∀ {n:Int},0<=n->n < 4294967296->IntKind.u32.wrap n=n)/\(∀a b:Nat,((a:Int)+(b:Int)).toNat=a+b)/\(∀a b:Int,a+b - a=b)/\(∀ {a b:Int},(if a < b then b else a)=max a b)/\(∀ {a b:Int},(if a < b then a else b)=min a b)/\(∀ {a b:Nat},(if a < b then (b:Int) else (a:Int))=((max a b:Nat):Int))/\∀ {a b:Nat},(if a < b then (a:Int) else (b:Int))=((min a b:Nat):Int):=
 ⟨Zs4,Z4j,Zams,wrap32,toNat_add_nat,Zsi,Z59,Z57,Z58,Z56⟩
theorem Yi:(∀ {g:Nat},L g true []=.nils)/\(∀ {g:Nat} {b:Bool} {x:PV} {xs:List PV},L g b (x::xs)=.lst g (x::xs))/\(∀ {n:Int}, -9223372036854775808<=n->n < 9223372036854775808->IntKind.i64.wrap n=n)/\(∀ {n:Int},0<=n->n < 256->IntKind.u8.wrap n=n)/\(∀ {n:Int},0<=n->n < 18446744073709551616->IntKind.u64.wrap n=n)/\(∀ {n:Int},0<=n->n < 4294967296->IntKind.u32.wrap n=n)/\(∀a b:Nat,((a:Int)+(b:Int)).toNat=a+b)/\(∀a b:Int,a+b - a=b)/\(∀ {a b:Int},(if a < b then b else a)=max a b)/\(∀ {a b:Int},(if a < b then a else b)=min a b)/\(∀ {a b:Nat},(if a < b then (b:Int) else (a:Int))=((max a b:Nat):Int))/\∀ {a b:Nat},(if a < b then (a:Int) else (b:Int))=((min a b:Nat):Int):=⟨Wi,Xq,Zz⟩
theorem Zq {P:Prop}(h:P:=by first|omega|(simp<;>omega)|fail):P:=h
theorem Zw {P:Prop}(h:P:=by first|omega|(simp<;>omega)|(simp[*];done)|fail):P:=h
structure Im (p A:Prop)(s:Tag p:=⟨⟩)(t:Tag A:=⟨⟩):Prop where
 h:p->A
theorem Zi {p A:Prop}{s:Tag p}{t:Tag A}(h:p->A):Im p A s t:=⟨h⟩
theorem Zm {A:Prop}(h:Im True A):A:=h.h trivial
structure Cn (b:Bool)(p:Prop)(T F:Prop->Prop):Prop where
 h:∀ {A B:Prop} {t:Tag A} {u:Tag B},(p->T A->ifB b A B t u)/\(¬p->F B->ifB b A B t u)/\(T A->F B->ifB b A B t u)
theorem Y3 {b:Bool}:Cn b (b=true) (fun A=>Im (b=true) A) (fun B=>Im (b=false) B):=⟨fun {A B t u}=>⟨fun h a=>Zb9 (t:=t) (u:=u) a.h (fun e=>absurd h (by simp[e])),fun h a=>Zb9 (t:=t) (u:=u) (fun e=>absurd e h) a.h,fun a c=>Zb9 a.h c.h⟩⟩
theorem Y2 {p:Prop}[Decidable p]:Cn (decide p) p (fun A=>Im p A) (fun B=>Im (¬p) B):=⟨fun {A B t u}=>⟨fun h a=>Zus h a.h,fun h a=>Zut h a.h,fun a c=>Zzx a.h c.h⟩⟩
theorem Y1 {α:Type}[BEq α][LawfulBEq α]{a b:α}:Cn (a==b) (a=b) (fun A=>Im (a=b) A) (fun B=>Im ((a==b)=false) (Im (a≠b) B)):=⟨fun {A B t u}=>⟨fun h x=>Zk4 (t:=t) (u:=u) x.h (fun _ e=>absurd h e),fun h x=>Zk4 (t:=t) (u:=u) (fun e=>absurd e h) (fun e f=>(x.h e).h f),fun x y=>Zk4 x.h (fun e f=>(y.h e).h f)⟩⟩
theorem Y0 {a b:Int}:Cn (a==b) (a=b) (fun A=>Im (a=b) A) (fun B=>Im ((a==b)=false) (Im (a≠b) B)):=Y1
section
variable {b:Bool}{p:Prop}{T F:Prop->Prop}{A B:Prop}{t:Tag A}{u:Tag B}
theorem Zt (hA:T A)(c:Cn b p T F:=by first|exact Y0|((fail_if_success exact Y1);exact Y2))(h:p:=by omega):ifB b A B t u:=c.h.1 h hA
theorem Zf (hB:F B)(c:Cn b p T F:=by first|exact Y0|((fail_if_success exact Y1);exact Y2))(h:¬p:=by omega):ifB b A B t u:=c.h.2.1 h hB
theorem Zb (hA:T A)(hB:F B)(c:Cn b p T F:=by first|exact Y1|exact Y2|exact Y3):ifB b A B t u:=c.h.2.2 hA hB
end
section
variable {A B:Prop}{t:Tag A}{u:Tag B}
theorem Z1 {a b:Int}(hA:a=b->A)(h:a=b:=by omega):ifB (a==b) A B t u:=Z6e h hA
theorem Z2 {a b:Int}(hB:(a==b)=false->a≠b->B)(h:a≠b:=by omega):ifB (a==b) A B t u:=Z6f h hB
theorem Z3 {α:Type}[BEq α][LawfulBEq α]{a b:α}(h1:a=b->A)(h2:(a==b)=false->a≠b->B):ifB (a==b) A B t u:=Zk4 h1 h2
theorem Z4 {p:Prop}[Decidable p](hA:p->A)(h:p:=by omega):ifB (decide p) A B t u:=Zus h hA
theorem Z5 {p:Prop}[Decidable p](hB:¬p->B)(h:¬p:=by omega):ifB (decide p) A B t u:=Zut h hB
theorem Z6 {p:Prop}[Decidable p](h1:p->A)(h2:¬p->B):ifB (decide p) A B t u:=Zzx h1 h2
theorem Z7 {b:Bool}(h1:b=true->A)(h2:b=false->B):ifB b A B t u:=Zb9 h1 h2
end
section
variable {C:Ctx}{K:Loc}{Xx:Bool}{sl:Yw}{h:PH}{Q:Ex×Yw×PH->Prop}{id:Nat}{ops:Array Oper}
theorem Z8 (hx:wp (Qi {pf:=false,ld:=false,fr:=[]} h C (Yx C) (Ut C) K ops.toList ops.toList sl h) fun p=>Q (.normal,p.1,p.2))(hS:Zg7 C {pf:=false,ld:=false,fr:=[]} ops=true:=by decide +kernel):wp (Vh C K Xx (.region id ops true) sl h) Q:=Q7 _ ⟨hS⟩ hx
theorem Z9 (hx:wp (Qi {pf:=true,ld:=false,fr:=[]} h C (Yx C) (Ut C) K ops.toList ops.toList sl h) fun p=>Q (.normal,p.1,p.2))(hS:Zg7 C {pf:=true,ld:=false,fr:=[]} ops=true:=by decide +kernel):wp (Vh C K Xx (.region id ops true) sl h) Q:=Q7 _ ⟨hS⟩ hx
theorem Z0 (hx:wp (Qi {pf:=false,ld:=true,fr:=[]} h C (Yx C) (Ut C) K ops.toList ops.toList sl h) fun p=>Q (.normal,p.1,p.2))(hS:Zg7 C {pf:=false,ld:=true,fr:=[]} ops=true:=by decide +kernel):wp (Vh C K Xx (.region id ops true) sl h) Q:=Q7 _ ⟨hS⟩ hx
theorem Yb (hx:Im True (wp (Qi {pf:=false,ld:=false,fr:=[]} h C (Yx C) (Ut C) K ops.toList ops.toList sl h) fun p=>Q (.normal,p.1,p.2)))(hS:Zg7 C {pf:=false,ld:=false,fr:=[]} ops=true:=by decide +kernel):wp (Vh C K Xx (.region id ops true) sl h) Q:=Q7 _ ⟨hS⟩ (hx.h trivial)
theorem Yc (hx:Im True (wp (Qi {pf:=true,ld:=false,fr:=[]} h C (Yx C) (Ut C) K ops.toList ops.toList sl h) fun p=>Q (.normal,p.1,p.2)))(hS:Zg7 C {pf:=true,ld:=false,fr:=[]} ops=true:=by decide +kernel):wp (Vh C K Xx (.region id ops true) sl h) Q:=Q7 _ ⟨hS⟩ (hx.h trivial)
theorem Yd (hx:Im True (wp (Qi {pf:=false,ld:=true,fr:=[]} h C (Yx C) (Ut C) K ops.toList ops.toList sl h) fun p=>Q (.normal,p.1,p.2)))(hS:Zg7 C {pf:=false,ld:=true,fr:=[]} ops=true:=by decide +kernel):wp (Vh C K Xx (.region id ops true) sl h) Q:=Q7 _ ⟨hS⟩ (hx.h trivial)
end
theorem Acc.lenK {S:List Nat}{K:Loc}{h:PH}{g e:Nat}{v:PV}{xs:List PV}(hA:Acc S K h g v xs):Pure.lenK (.slice e) v=some (.int .i64 xs.length):=by
 rcases hA with⟨rfl,rfl⟩ | ⟨d,Zc,Yq,_,rfl,hg⟩<;>rfl
theorem Acc.ownT {S:List Nat}{K:Loc}{h:PH}{g:Nat}{v:PV}{xs:List PV}(hA:Acc S K h g v xs):∀x,x∈ownT v->K.base<=x:=by
 rcases hA with⟨rfl,rfl⟩ | ⟨d,Zc,Yq,_,rfl,hg⟩
 .intro x hx;simp[Pure.ownT]at hx
 .intro x hx;simp[Pure.ownT]at hx;omega
theorem Acc.same {S:List Nat}{K:Loc}{h:PH}{g n:Nat}{v:PV}{xs:List PV}(hA:Acc S K h g v xs):W5 n v=true:=by
 rcases hA with⟨rfl,rfl⟩ | ⟨d,Zc,Yq,_,rfl,hg⟩<;>cases n<;>rfl
theorem Acc.pos {S:List Nat}{K:Loc}{h:PH}{g k:Nat}{v:PV}{α:Type}{f:α->PV}{l:List α}(hA:Acc S K h g v (l.map f))(hk:k < l.length):∃d Zc,d∈S/\v=.own (K.base+d) Zc g 0 l.length/\h.get (K.base+d)=some (Zc,.row g true (l.map f)):=by
 obtain⟨d,Zc,h1,h2,h3⟩:=hA.own (by intro e;simp at e;rw[e]at hk;simp at hk);rw[List.length_map]at h2;exact⟨d,Zc,h1,h2,h3⟩
theorem Acc.app' {S:List Nat}{K:Loc}{h:PH}{g:Nat}{v:PV}{xs ys:List PV}{T:Ty}{dd:Nat}(hA:Acc S K h g v xs)(hd:dd∈S)(hK:K.lo=K.base)(h1:xs.length+ys.length<=1073741824)(h2:T.bytes<=65536)(h3:0 < T.size):
  ∃v' h',Xu K h dd g T ys.length ys v=some (v',h')/\Acc S K h' g v' (xs++ys)/\h'.next=h.next/\∀j,(∀d,d∈S->j≠K.base+d)->h'.get j=h.get j:=by
 by_cases h4:ys=[]
 .subst h4;rcases hA with⟨rfl,rfl⟩ | ⟨d,Zc,Yq,hdS,rfl,hg⟩
  .refine ⟨.nils,h,?_,Or.inl ⟨rfl,rfl⟩,rfl,fun j hj=>rfl⟩;simp only[Xu,List.length_nil];rw[if_pos ⟨by decide,h2,h3⟩,if_pos trivial]
  .have hr:h.row (K.base+d) Zc g=some (true,xs):=by simp[PH.row,hg]
   refine⟨_,_,((by rw[Qf,hr];rfl:Xu K h dd g T ([]:List PV).length [] (.own (K.base+d) Zc g 0 xs.length)=Zwa K h T g (K.base+d) Zc 0 xs.length ([]:List PV).length [] (true,xs)).trans (Zle h1 h2 h3 (by simp[can,hK]) rfl (by simp))),Or.inr ⟨d,Zc+1,by simpa using Yq,hdS,by simp,by simp⟩,rfl,fun j hj=>?_⟩;simp[hj d hdS]
 .exact hA.app hd hK h1 h2 h3 h4
theorem S5 {p:Nat}:∀ {l:List Nat} {h:PH},(∀i∈l,i≠p)->(h.freeze l).get p=h.get p
 | [],h,_=>rfl
 |i::r,h,hp=>by
  have h1:=hp i (by simp);have h2:∀j∈r,j≠p:=fun j hj=>hp j (by simp[hj])
  simp only[PH.freeze];split
  .rw [S5 h2];simp[PH.put,Ne.symm h1]
  .exact S5 h2
theorem Zo {C:Ctx}{K:Loc}{f p Zc off:Nat}{rest:List PV}{h:PH}{o o':PO}{ver':Nat}{fn:Func}{c:Code}{v:PV}(hF:C.F f=some fn)(hb:fn.body=some c)(Xo:C.raw f=false)(ho:rest.flatMap ownV=[])(hr:rest.flatMap (refs 3)=[])
  (Zx:can K p=true) (hlt:p < h.next) (hp:h.get p=some (Zc,o)) (hro:refsO o=[])
  (hx:wp (Vh C {base:=h.next,lo:=h.next,ok:=[p]} true c (Sl 0 (.ptr p Zc off::rest)) {h with next:=h.next+fn.ntmps}) fun r=>(r.1=.normal\/r.1=.ret)/\wp (Uz C r.2.1 r.2.2 fn.results.toList) fun vs=>
    inlT r.2.2 (Wy vs)=some v/\(ownT (Wy vs)).all (fun i=>Nat.ble h.next i)=true/\r.2.2.get p=some (ver',o')) (hv:below h.next 4 v=true) (hbo:Zu h.next o'=true):
  Yx C K f (.ptr p Zc off::rest) h=some (v,h.put p ver' o'):=by
 have hm:Xd (inlV h) (.ptr p Zc off::rest)=some (.ptr p Zc off::rest):=Wu (by simpa[ownV,Tv]using ho);obtain⟨⟨x,Yy,h2⟩,h1,h3,h4⟩:=Wb.1 hx;obtain⟨vs,h5,h6,h7,h8⟩:=Wb.1 h4;simp only at h6 h7 h8;have hids:(PV.ptr p Zc off::rest).flatMap ownV=[]:=by simpa[ownV,Tv]using ho
 have hrf:(PV.ptr p Zc off::rest).flatMap (refs 3)=[p]:=by rw[List.flatMap_cons,hr];rfl
 have hre:reach h 4 [p]=[p]:=by simp[reach,hp,hro]
 have hfz:(h2.freeze (ownT (Wy vs))).get p=some (ver',o'):=by
  rw[S5,h8];intro i hi;have:=List.all_eq_true.1 h7 i hi;simp at this;omega
 have hs:Xl h h2 [p] [] (Wy vs)=some (v,h.put p ver' o'):=by
  unfold Xl;rw[h6]
  have hall:(ownT (Wy vs)).all (fun i=>Nat.ble h.next i||[p].any (Nat.beq i))=true:=by
   rw[List.all_eq_true]at h7 ⊢;intro i hi;rw[h7 i hi];rfl
  simp only[hall,hv,List.all_cons,List.all_nil,Bool.and_true,Bool.true_and,PH.belowAt,hfz,hbo,if_true,Yj]
 rw[Uj];unfold callF;have Vt:extP C f (.ptr p Zc off::rest)=none:=rfl;rw[Vt];simp only[hF,hb,Xo,Bool.false_eq_true,if_false,hm,hids,hrf,hre,List.all_cons,List.all_nil,Bool.and_true,Zx,hp,Option.isSome_some,if_true,PH.freeze];have h1':Vh C {base:=h.next,lo:=h.next,ok:=[p]} true c (Sl 0 (.ptr p Zc off::rest)) {next:=h.next+fn.ntmps,get:=h.get}=some (x,Yy,h2):=h1;rw[h1'];simp only at h5;rcases h3 with h3 | h3<;>simp only at h3<;>subst h3<;>simp only[h5]<;>exact hs
theorem Ztx {h:PH}{p Zc:Nat}{o:PO}(hp:h.get p=some (Zc,o)):h.put p Zc o=h:=by
 have:(h.put p Zc o).get=h.get:=by
  funext j;simp only[Zgb];split
  .rename_i e;rw[e,hp]
  .rfl
 cases h;simp only[PH.put]at this ⊢;congr 1
theorem Ts {h:PH}{p v1 v2:Nat}{o1 o2:PO}:(h.put p v1 o1).put p v2 o2=h.put p v2 o2:=by
 simp only[PH.put];congr 1;funext j;split<;>rfl
theorem Zcy {h h3:PH}:∀ {l:List Nat},(∀i∈l,h3.get i=h.get i)->Yj h3 l h=h
 | [],_=>rfl
 |i::r,hl=>by
  have h1:=hl i (by simp);simp only[Yj];cases hg:h3.get i with
  |none=>exact Zcy fun j hj=>hl j (by simp[hj])
  |some x=>
   obtain⟨Zc,o⟩:=x;rw[hg]at h1;simp only;rw[Ztx h1.symm];exact Zcy fun j hj=>hl j (by simp[hj])
theorem W8 {C:Ctx}{K:Loc}{f:Nat}{args:List PV}{h:PH}{ok:List Nat}{fn:Func}{c:Code}{v:PV}(hF:C.F f=some fn)(hb:fn.body=some c)(Xo:C.raw f=false)(Zh3:(C.ext f []).isNone=true)(ho:args.flatMap ownV=[])(hre:reach h 4 (args.flatMap (refs 3))=ok)
  (Zx:ok.all (fun i=>can K i&&(h.get i).isSome)=true) (hlt:∀i∈ok,i < h.next) (hbo:∀i∈ok,h.belowAt h.next i=true)
  (hx:wp (Vh C {base:=h.next,lo:=h.next,ok:=ok} true c (Sl 0 args) {h with next:=h.next+fn.ntmps}) fun r=>(r.1=.normal\/r.1=.ret)/\wp (Uz C r.2.1 r.2.2 fn.results.toList) fun vs=>
    inlT r.2.2 (Wy vs)=some v/\(ownT (Wy vs)).all (fun i=>Nat.ble h.next i)=true/\∀i∈ok,r.2.2.get i=h.get i) (hv:below h.next 4 v=true):
  Yx C K f args h=some (v,h):=by
 have Vt:=Zch (args:=args) Zh3 Xo;have hm:Xd (inlV h) args=some args:=Wu ho;obtain⟨⟨x,Yy,h2⟩,h1,h3,h4⟩:=Wb.1 hx;obtain⟨vs,h5,h6,h7,h8⟩:=Wb.1 h4;simp only at h6 h7 h8
 have hfz:∀i∈ok,(h2.freeze (ownT (Wy vs))).get i=h.get i:=by
  intro i hi;rw[S5,h8 i hi];intro j hj;have:=List.all_eq_true.1 h7 j hj;simp at this;have:=hlt i hi;omega
 have hs:Xl h h2 ok [] (Wy vs)=some (v,h):=by
  unfold Xl;rw[h6]
  have hall:(ownT (Wy vs)).all (fun i=>Nat.ble h.next i||ok.any (Nat.beq i))=true:=by
   rw[List.all_eq_true]at h7 ⊢;intro i hi;rw[h7 i hi];rfl
  have hbl:ok.all (fun i=>(h2.freeze (ownT (Wy vs))).belowAt h.next i)=true:=by
   rw[List.all_eq_true];intro i hi;simp only[PH.belowAt,hfz i hi];exact hbo i hi
  simp only[hall,hv,hbl,List.all_nil,Bool.and_true,Bool.true_and,if_true,Zcy hfz]
 rw[Uj];unfold callF;simp only[Vt,hF,hb,Xo,Bool.false_eq_true,if_false,hm,ho,hre,Zx,List.all_nil,Bool.and_true,if_true,PH.freeze];have h1':Vh C {base:=h.next,lo:=h.next,ok:=ok} true c (Sl 0 args) {next:=h.next+fn.ntmps,get:=h.get}=some (x,Yy,h2):=h1;rw[h1'];simp only at h5;rcases h3 with h3 | h3<;>simp only at h3<;>subst h3<;>simp only[h5]<;>exact hs
theorem Zgy {C:Ctx}{K:Loc}{f:Nat}{args:List PV}{h:PH}{ok:List Nat}{fn:Func}{c:Code}{R:PV->PH->Prop}(hF:C.F f=some fn)(hb:fn.body=some c)(Xo:C.raw f=false)(Zh3:(C.ext f []).isNone=true)(ho:args.flatMap ownV=[])(hre:reach h 4 (args.flatMap (refs 3))=ok)
  (Zx:ok.all (fun i=>can K i&&(h.get i).isSome)=true)
  (hx:wp (Vh C {base:=h.next,lo:=h.next,ok:=ok} true c (Sl 0 args) {h with next:=h.next+fn.ntmps}) fun r=>(r.1=.normal\/r.1=.ret)/\wp (Uz C r.2.1 r.2.2 fn.results.toList) fun vs=>
    ∃v,inlT r.2.2 (Wy vs)=some v/\ownT (Wy vs)=[]/\below h.next 4 v=false/\X4 5 v=false/\R v r.2.2):
  ∃v h',Yx C K f args h=some (v,h')/\R v h':=by
 have Vt:=Zch (args:=args) Zh3 Xo;have hm:Xd (inlV h) args=some args:=Wu ho;obtain⟨⟨x,Yy,h2⟩,h1,h3,h4⟩:=Wb.1 hx;obtain⟨vs,h5,v,h6,h7,h8,h9,h10⟩:=Wb.1 h4;simp only at h6 h7 h8 h10
 have hs:Xl h h2 ok [] (Wy vs)=some (v,h2):=by
  unfold Xl;rw[h6];simp only[h7,h8,h9,List.all_nil,if_true,PH.freeze,Bool.false_and,Bool.false_eq_true,if_false,Bool.not_false,Bool.true_or]
 refine⟨v,h2,?_,h10⟩;rw[Uj];unfold callF;simp only[Vt,hF,hb,Xo,Bool.false_eq_true,if_false,hm,ho,hre,Zx,List.all_nil,Bool.and_true,if_true,PH.freeze];have h1':Vh C {base:=h.next,lo:=h.next,ok:=ok} true c (Sl 0 args) {next:=h.next+fn.ntmps,get:=h.get}=some (x,Yy,h2):=h1;rw[h1'];simp only at h5;rcases h3 with h3 | h3<;>simp only at h3<;>subst h3<;>simp only[h5]<;>exact hs
theorem Z3s {C:Ctx}{K:Loc}{f:Nat}{args args':List PV}{h:PH}{v:PV}(hA:Xw C f args' v)(hvb:∀m,below m 4 v=true)(Xo:C.raw f=false)(hm:Xd (inlV h) args=some args')(Yq:args.isEmpty=false)
  (ho:args'.flatMap ownV=[]) (hr:args'.flatMap (refs 3)=[])
  (hids:(args.flatMap ownV).all (fun i=>can K i&&match h.get i with | some (_,.row g _ _)=>Y4 g 14 v | _=>false)=true):Yx C K f args h=some (v,h):=by
 have hx:∀l:List PV,l.isEmpty=false->extP C f l=none:=by
  intro l hl;unfold extP;split
  .cases hl
  .rw [Xo];rfl
  .rfl
 have Zkr:args'.isEmpty=false:=by
  cases args with
  |nil=>cases Yq
  |cons a l=>
   simp only[Xd]at hm;split at hm
   .injection hm with hm;subst hm;rfl
   .cases hm
 have hm':∀H,Xd (inlV H) args'=some args':=by
  intro H
  have Zfk:∀a,ownV a=[]->inlV H a=some a:=by
   intro a ha
   have hc:∀cs:List PV,cs.flatMap Tv=[]->Xd (Qj H) cs=some cs:=by
    intro cs
    induction cs with
    |nil=>intro _;rfl
    |cons c cs ih=>
     intro hh;rw[List.flatMap_cons,List.append_eq_nil_iff]at hh;simp only[Xd,ih hh.2];cases c<;>simp_all[Tv,Qj]
   cases a with
   |agg cs=>simp only[inlV];rw[hc cs ha];rfl
   |own=>simp[ownV,Tv]at ha
   | _=>rfl
  clear hm hr Zkr hA
  induction args' with
  |nil=>rfl
  |cons a l ih=>
   rw[List.flatMap_cons,List.append_eq_nil_iff]at ho;simp only[Xd,Zfk a ho.1,ih ho.2]
 have h0:=hA K (h.freeze (args.flatMap ownV))
 have Rc:∀(l:List Nat) (g:PH),(g.freeze l).next=g.next:=by
  intro l
  induction l with
  |nil=>intro g;rfl
  |cons i l ih=>intro g;simp only[PH.freeze];split<;>rw[ih];rfl
 rw[Uj]at h0 ⊢;unfold callF at h0 ⊢;rw[hx _ Zkr]at h0;rw[hx _ Yq];cases hF:C.F f with
 |none=>simp only[hF]at h0;cases h0
 |some fn=>
  simp only[hF]at h0 ⊢;cases hb:fn.body with
  |none=>simp only[hb]at h0;cases h0
  |some c=>
   simp only[hb,Xo,Bool.false_eq_true,if_false,hm',ho,hr,reach,List.all_nil,Bool.and_true,if_true]at h0
   have Zx:(args.flatMap ownV).all (can K)=true:=by
    rw[List.all_eq_true]at hids ⊢;intro i hi;have:=hids i hi;simp only[Bool.and_eq_true]at this;exact this.1
   simp only[Xo,Bool.false_eq_true,if_false,hm,hr,reach,List.all_nil,Bool.true_and,Zx,if_true];have e1:(PH.freeze (h.freeze (args.flatMap ownV)) [])=h.freeze (args.flatMap ownV):=rfl;rw[e1,Rc]at h0;cases hx:Vh C {base:=h.next,lo:=h.next,ok:=[]} true c (Sl 0 args') {h.freeze (args.flatMap ownV) with next:=h.next+fn.ntmps} with
   |none=>rw[hx]at h0;cases h0
   |some r=>
    obtain⟨x,Yy,h2⟩:=r;rw[hx]at h0
    have key:∀vs,Xl (h.freeze (args.flatMap ownV)) h2 [] [] (Wy vs)=some (v,h.freeze (args.flatMap ownV))->Xl h h2 [] (args.flatMap ownV) (Wy vs)=some (v,h):=by
     intro vs hs;unfold Xl at hs ⊢;cases hi:inlT h2 (Wy vs) with
     |none=>rw[hi]at hs;cases hs
     |some v'=>
      rw[hi]at hs;simp only[List.any_nil,Bool.or_false,Rc,List.all_nil,Bool.and_true,Yj]at hs ⊢;by_cases ha:((ownT (Wy vs)).all fun i=>Nat.ble h.next i)=true
      .rw [if_pos ha]at hs ⊢
       have hvv:v'=v:=by
        by_cases hb:below h.next 4 v'=true
        .rw [if_pos hb]at hs;simp only[if_true,Option.some.injEq,Prod.mk.injEq]at hs;exact hs.1
        .rw [if_neg hb]at hs;split at hs
         .simp only [Option.some.injEq,Prod.mk.injEq]at hs;exact hs.1
         .cases hs
       subst hvv;rw[if_pos (hvb _),if_pos];rw[List.all_eq_true]at hids ⊢;intro i hi;have:=hids i hi;simp only[Bool.and_eq_true]at this;simp only[Bool.not_false,Bool.true_and];have h2:=this.2;split at h2
       .rename_i Zc g own xs hg;rw[hg];cases own<;>simp[h2]
       .cases h2
      .rw [if_neg ha]at hs;cases hs
    cases x with
    |exit=>simp only at h0;cases h0
    |normal=>
     simp only at h0 ⊢;cases Wr:Uz C Yy h2 fn.results.toList with
     |none=>rw[Wr]at h0;cases h0
     |some vs=>rw[Wr]at h0;exact key vs h0
    |ret=>
     simp only at h0 ⊢;cases Wr:Uz C Yy h2 fn.results.toList with
     |none=>rw[Wr]at h0;cases h0
     |some vs=>rw[Wr]at h0;exact key vs h0
theorem Acc.callT {C:Ctx}{S:List Nat}{K:Loc}{h:PH}{g f:Nat}{v w:PV}{xs:List PV}(hA:Acc S K h g v xs)(hK:K.lo=K.base)(Xo:C.raw f=false)(pre post:List PV)(Zyb:Xw C f (pre++L g true xs::post) w)(hwb:∀m,below m 4 w=true)(hw:Y4 g 14 w=true)
  (h1:(pre++post).flatMap ownV=[]) (h2:(pre++post).flatMap (refs 3)=[]):Yx C K f (pre++v::post) h=some (w,h):=by
 rw[List.flatMap_append,List.append_eq_nil_iff]at h1 h2
 have Zm5:∀(a b:List PV) (a' b':List PV),Xd (inlV h) a=some a'->Xd (inlV h) b=some b'->Xd (inlV h) (a++b)=some (a'++b'):=by
  intro a
  induction a with
  |nil=>intro b a' b' e1 e2;simp only[Xd,Option.some.injEq]at e1;subst e1;exact e2
  |cons x a ih=>
   intro b a' b' e1 e2;simp only[Xd]at e1;simp only[List.cons_append,Xd];split at e1
   .rename_i y ys hy hys;cases e1;rw[hy,ih b ys b' hys e2];rfl
   .cases e1
 refine Z3s Zyb hwb Xo (Zm5 _ _ _ _ (Wu h1.1) ?_) (by cases pre<;>rfl) ?_ ?_ ?_
 .simp only [Xd,hA.inl,Wu h1.2]
 .rw [List.flatMap_append,List.flatMap_cons,h1.1,h1.2];simp
 .rw [List.flatMap_append,List.flatMap_cons,h2.1,h2.2];simp
 .rw [List.flatMap_append,List.flatMap_cons,h1.1,h1.2];rcases hA with⟨_,rfl⟩ | ⟨d,Zc,_,_,rfl,hg⟩
  .simp
  .simp [hg,can,hK,hw]
theorem Zxf {g g':Nat}{xs:List PV}(hg:g'≠g)(h:∀x∈xs,Y4 g 13 x=true):Y4 g 14 (.lst g' xs)=true:=by
 simp only[Y4,Bool.and_eq_true,Bool.not_eq_true',List.all_eq_true];exact⟨by rw[<- Bool.not_eq_true,Nat.beq_eq];exact hg,h⟩
theorem Z3t {C:Ctx}{K:Loc}{f:Nat}{args args':List PV}{h:PH}{v:PV}(hA:Xw C f args' v)(hvb:∀m,below m 4 v=true)(Xo:C.raw f=false)(hm:Xd (inlV h) args=some args')(Yq:args.isEmpty=false)
  (ho:args'.flatMap ownV=[]) (hr:args'.flatMap (refs 3)=[])
  (hids:(args.flatMap ownV).all (fun i=>can K i&&match h.get i with | some (_,.row _ _ _)=>true | _=>false)=true):Yx C K f args h=some (v,h)\/Yx C K f args h=some (v,h.freeze (args.flatMap ownV)):=by
 have hx:∀l:List PV,l.isEmpty=false->extP C f l=none:=by
  intro l hl;unfold extP;split
  .cases hl
  .rw [Xo];rfl
  .rfl
 have Zkr:args'.isEmpty=false:=by
  cases args with
  |nil=>cases Yq
  |cons a l=>
   simp only[Xd]at hm;split at hm
   .injection hm with hm;subst hm;rfl
   .cases hm
 have hm':∀H,Xd (inlV H) args'=some args':=by
  intro H
  have Zfk:∀a,ownV a=[]->inlV H a=some a:=by
   intro a ha
   have hc:∀cs:List PV,cs.flatMap Tv=[]->Xd (Qj H) cs=some cs:=by
    intro cs
    induction cs with
    |nil=>intro _;rfl
    |cons c cs ih=>
     intro hh;rw[List.flatMap_cons,List.append_eq_nil_iff]at hh;simp only[Xd,ih hh.2];cases c<;>simp_all[Tv,Qj]
   cases a with
   |agg cs=>simp only[inlV];rw[hc cs ha];rfl
   |own=>simp[ownV,Tv]at ha
   | _=>rfl
  clear hm hr Zkr hA
  induction args' with
  |nil=>rfl
  |cons a l ih=>
   rw[List.flatMap_cons,List.append_eq_nil_iff]at ho;simp only[Xd,Zfk a ho.1,ih ho.2]
 have h0:=hA K (h.freeze (args.flatMap ownV))
 have Rc:∀(l:List Nat) (g:PH),(g.freeze l).next=g.next:=by
  intro l
  induction l with
  |nil=>intro g;rfl
  |cons i l ih=>intro g;simp only[PH.freeze];split<;>rw[ih];rfl
 rw[Uj]at h0 ⊢;unfold callF at h0 ⊢;rw[hx _ Zkr]at h0;rw[hx _ Yq];cases hF:C.F f with
 |none=>simp only[hF]at h0;cases h0
 |some fn=>
  simp only[hF]at h0 ⊢;cases hb:fn.body with
  |none=>simp only[hb]at h0;cases h0
  |some c=>
   simp only[hb,Xo,Bool.false_eq_true,if_false,hm',ho,hr,reach,List.all_nil,Bool.and_true,if_true]at h0
   have Zx:(args.flatMap ownV).all (can K)=true:=by
    rw[List.all_eq_true]at hids ⊢;intro i hi;have:=hids i hi;simp only[Bool.and_eq_true]at this;exact this.1
   simp only[Xo,Bool.false_eq_true,if_false,hm,hr,reach,List.all_nil,Bool.true_and,Zx,if_true];have e1:(PH.freeze (h.freeze (args.flatMap ownV)) [])=h.freeze (args.flatMap ownV):=rfl;rw[e1,Rc]at h0;cases hx:Vh C {base:=h.next,lo:=h.next,ok:=[]} true c (Sl 0 args') {h.freeze (args.flatMap ownV) with next:=h.next+fn.ntmps} with
   |none=>rw[hx]at h0;cases h0
   |some r=>
    obtain⟨x,Yy,h2⟩:=r;rw[hx]at h0
    have key:∀vs,Xl (h.freeze (args.flatMap ownV)) h2 [] [] (Wy vs)=some (v,h.freeze (args.flatMap ownV))->Xl h h2 [] (args.flatMap ownV) (Wy vs)=some (v,h)\/Xl h h2 [] (args.flatMap ownV) (Wy vs)=some (v,h.freeze (args.flatMap ownV)):=by
     intro vs hs;unfold Xl at hs ⊢;cases hi:inlT h2 (Wy vs) with
     |none=>rw[hi]at hs;cases hs
     |some v'=>
      rw[hi]at hs;simp only[List.any_nil,Bool.or_false,Rc,List.all_nil,Bool.and_true,Yj]at hs ⊢;by_cases ha:((ownT (Wy vs)).all fun i=>Nat.ble h.next i)=true
      .rw [if_pos ha]at hs ⊢
       have hvv:v'=v:=by
        by_cases hb:below h.next 4 v'=true
        .rw [if_pos hb]at hs;simp only[if_true,Option.some.injEq,Prod.mk.injEq]at hs;exact hs.1
        .rw [if_neg hb]at hs;split at hs
         .simp only [Option.some.injEq,Prod.mk.injEq]at hs;exact hs.1
         .cases hs
       subst hvv;rw[if_pos (hvb _)];split
       .exact .inl rfl
       .exact .inr rfl
      .rw [if_neg ha]at hs;cases hs
    cases x with
    |exit=>simp only at h0;cases h0
    |normal=>
     simp only at h0 ⊢;cases Wr:Uz C Yy h2 fn.results.toList with
     |none=>rw[Wr]at h0;cases h0
     |some vs=>rw[Wr]at h0;exact key vs h0
    |ret=>
     simp only at h0 ⊢;cases Wr:Uz C Yy h2 fn.results.toList with
     |none=>rw[Wr]at h0;cases h0
     |some vs=>rw[Wr]at h0;exact key vs h0
theorem Acc.callF {C:Ctx}{S:List Nat}{K:Loc}{h:PH}{g f:Nat}{v w:PV}{xs:List PV}(hA:Acc S K h g v xs)(hK:K.lo=K.base)(Xo:C.raw f=false)(pre post:List PV)(Zyb:Xw C f (pre++L g true xs::post) w)(hwb:∀m,below m 4 w=true)
  (h1:(pre++post).flatMap ownV=[]) (h2:(pre++post).flatMap (refs 3)=[]):∃h',Yx C K f (pre++v::post) h=some (w,h')/\h'.next=h.next/\∀j,(∀d∈S,j≠K.base+d)->h'.get j=h.get j:=by
 rw[List.flatMap_append,List.append_eq_nil_iff]at h1 h2
 have Zm5:∀(a b:List PV) (a' b':List PV),Xd (inlV h) a=some a'->Xd (inlV h) b=some b'->Xd (inlV h) (a++b)=some (a'++b'):=by
  intro a
  induction a with
  |nil=>intro b a' b' e1 e2;simp only[Xd,Option.some.injEq]at e1;subst e1;exact e2
  |cons x a ih=>
   intro b a' b' e1 e2;simp only[Xd]at e1;simp only[List.cons_append,Xd];split at e1
   .rename_i y ys hy hys;cases e1;rw[hy,ih b ys b' hys e2];rfl
   .cases e1
 have hids:(pre++v::post).flatMap ownV=ownV v:=by
  rw[List.flatMap_append,List.flatMap_cons,h1.1,h1.2];simp
 have hfz:(h.freeze (ownV v)).next=h.next/\∀j,(∀d∈S,j≠K.base+d)->(h.freeze (ownV v)).get j=h.get j:=by
  rcases hA with⟨_,rfl⟩ | ⟨d,Zc,_,hd,rfl,hg⟩
  .exact ⟨rfl,fun _ _=>rfl⟩
  .refine ⟨by simp[hg,PH.put],fun j hj=>?_⟩;simp[hg,PH.put,hj d hd]
 have key:Yx C K f (pre++v::post) h=some (w,h)\/Yx C K f (pre++v::post) h=some (w,h.freeze ((pre++v::post).flatMap ownV)):=by
  refine Z3t Zyb hwb Xo (Zm5 _ _ _ _ (Wu h1.1) ?_) (by cases pre<;>rfl) ?_ ?_ ?_
  .simp only [Xd,hA.inl,Wu h1.2]
  .rw [List.flatMap_append,List.flatMap_cons,h1.1,h1.2];simp
  .rw [List.flatMap_append,List.flatMap_cons,h2.1,h2.2];simp
  .rw [List.flatMap_append,List.flatMap_cons,h1.1,h1.2];rcases hA with⟨_,rfl⟩ | ⟨d,Zc,_,_,rfl,hg⟩
   .simp
   .simp [hg,can,hK]
 rcases key with key | key
 .exact ⟨h,key,rfl,fun _ _=>rfl⟩
 .rw [hids]at key;exact⟨_,key,hfz.1,hfz.2⟩
theorem Zqr {C:Ctx}{K:Loc}{f:Nat}{args:List PV}{h:PH}{fn:Func}{c:Code}{Q:PV×PH->Prop}(Vt:extP C f args=none)(hF:C.F f=some fn)(hb:fn.body=some c)(Xo:C.raw f=true)
  (hx:wp (Vh C {base:=h.next,lo:=K.lo,ok:=K.ok} true c (Sl 0 args) {h with next:=h.next+fn.ntmps}) fun r=>(r.1=.normal\/r.1=.ret)/\wp (Uz C r.2.1 r.2.2 fn.results.toList) fun vs=>
    Q (Wy vs,if r.2.2.next=h.next+fn.ntmps/\Zh4 r.2.2 h.next r.2.2.next=true then {r.2.2 with next:=h.next} else r.2.2)):wp (Yx C K f args h) Q:=by
 obtain⟨⟨x,Yy,h2⟩,h1,h3,h4⟩:=Wb.1 hx;obtain⟨vs,h5,h6⟩:=Wb.1 h4;simp only at h5 h6;rw[Uj];unfold callF;rw[Vt];simp only[hF,hb,Xo,if_true];have h1':Vh C {base:=h.next,lo:=K.lo,ok:=K.ok} true c (Sl 0 args) {next:=h.next+fn.ntmps,get:=h.get}=some (x,Yy,h2):=h1;simp only at h3;rcases h3 with h3 | h3
 all_goals
  subst h3;simp only[h1',h5];split at h6
  .rename_i hc;rw[if_pos hc];exact Wb.2 ⟨_,rfl,h6⟩
  .rename_i hc;rw[if_neg hc];exact Wb.2 ⟨_,rfl,h6⟩
theorem Z4k {C:Ctx}{K:Loc}{l Zc:Nat}{args:List PV}{h:PH}{K0:Loc}{V9:Yw}{ps:List Nat}{as bd:Code}{Q:PV×PH->Prop}(hl:h.get l=some (Zc,.loop K0 V9 ps as bd))(hlen:ps.length=args.length)(S9:Nat.ble K.lo K0.lo=true)(hok:K0.ok.all (can K)=true)
  (hx:wp (Vh C K0 false as (Zdy V9 (ps.zip args)) (h.put l Zc .gone)) fun r1=>r1.1=.normal/\wp (Vh C K0 false bd r1.2.1 r1.2.2) fun r2=>r2.1=.normal/\r2.2.2.get l=some (Zc,.gone)/\Q (.bool true,r2.2.2.put l Zc (.loop K0 V9 ps as bd))):wp (Ut C K l Zc args h) Q:=by
 obtain⟨⟨x1,Qr,h1⟩,e1,rfl,hx2⟩:=Wb.1 hx;obtain⟨⟨x2,sl2,h2⟩,e2,rfl,hg,hq⟩:=Wb.1 hx2;simp only at e2 hg hq;refine Wb.2 ⟨_,?_,hq⟩;rw[Z1c];unfold yieldF;rw[hl];simp only;rw[if_pos ⟨trivial,hlen,S9,hok⟩,e1];simp only;rw[e2];simp only;rw[hg];simp only[if_true]
theorem Zs5 {C:Ctx}{K:Loc}{f:Operand}{ps:Array Nat}{as bd:Code}{sl:Yw}{h:PH}{g:Nat}{first captured:List PV}{Q:Ex×Yw×PH->Prop}(hf:Yz sl f=some (.fn g first captured))(Xo:C.raw g=true)
  (hx:wp (Yx C K g (first++[.yield h.next 0]++captured) {h.put h.next 0 (.loop K sl ps.toList as bd) with next:=h.next+1}) fun r=>∃K1 s1 p1 a1 b1,r.2.get h.next=some (0,.loop K1 s1 p1 a1 b1)/\Q (.normal,sl,r.2.put h.next 0 .gone)):wp (Vh C K true (.rangeFunc f ps as bd) sl h) Q:=by
 obtain⟨⟨u,h'⟩,e1,K1,s1,p1,a1,b1,hg,hq⟩:=Wb.1 hx;refine Wb.2 ⟨_,?_,hq⟩;rw[Z3d,hf];simp only[Xo,if_true];rw[show Yx C K g (first++[.yield h.next 0]++captured) {next:=h.next+1,get:=(h.put h.next 0 (.loop K sl ps.toList as bd)).get}=some (u,h') from e1];simp only at hg;simp only[hg]
theorem Zgz {C:Ctx}{K:Loc}{f:Nat}{args:List PV}{h:PH}{p a b va vb:Nat}{oa ob:PO}{fn:Func}{c:Code}{v:PV}(hF:C.F f=some fn)(hb:fn.body=some c)(Xo:C.raw f=false)(Zh3:(C.ext f []).isNone=true)(ho:args.flatMap ownV=[])(hre:reach h 4 (args.flatMap (refs 3))=[p,a,b])
  (Zx:[p,a,b].all (fun i=>can K i&&(h.get i).isSome)=true) (hbp:h.belowAt h.next p=true)
  (hx:wp (Vh C {base:=h.next,lo:=h.next,ok:=[p,a,b]} true c (Sl 0 args) {h with next:=h.next+fn.ntmps}) fun r=>(r.1=.normal\/r.1=.ret)/\wp (Uz C r.2.1 r.2.2 fn.results.toList) fun vs=>
    inlT r.2.2 (Wy vs)=some v/\ownT (Wy vs)=[]/\r.2.2.get p=h.get p/\r.2.2.get a=some (va,oa)/\r.2.2.get b=some (vb,ob)) (hv:below h.next 4 v=true) (hba:Zu h.next oa=true) (hbb:Zu h.next ob=true):
  Yx C K f args h=some (v,(h.put a va oa).put b vb ob):=by
 have Vt:=Zch (args:=args) Zh3 Xo;have hm:Xd (inlV h) args=some args:=Wu ho;obtain⟨⟨x,Yy,h2⟩,h1,h3,h4⟩:=Wb.1 hx;obtain⟨vs,h5,h6,h7,h8,h9,h10⟩:=Wb.1 h4;simp only at h6 h7 h8 h9 h10
 have hfo:Yj h2 [p,a,b] h=(h.put a va oa).put b vb ob:=by
  cases hp:h2.get p with
  |none=>simp only[Yj,hp,h9,h10]
  |some y=>
   obtain⟨Zc,o⟩:=y;simp only[Yj,hp,h9,h10];rw[show h.put p Zc o=h from Ztx (by rw[<- h8];exact hp)]
 have hs:Xl h h2 [p,a,b] [] (Wy vs)=some (v,(h.put a va oa).put b vb ob):=by
  unfold Xl;rw[h6]
  have hbl:[p,a,b].all (fun i=>h2.belowAt h.next i)=true:=by
   simp only[List.all_cons,List.all_nil,Bool.and_true,PH.belowAt,h9,h10,hba,hbb]
   have:h2.belowAt h.next p=true:=by
    unfold PH.belowAt at hbp ⊢;rw[h8];exact hbp
   unfold PH.belowAt at this;rw[this]
  simp only[h7,List.all_nil,if_true,PH.freeze,hv,hbl,Bool.and_self,hfo]
 rw[Uj];unfold callF;simp only[Vt,hF,hb,Xo,Bool.false_eq_true,if_false,hm,ho,hre,Zx,List.all_nil,Bool.and_true,if_true,PH.freeze];have h1':Vh C {base:=h.next,lo:=h.next,ok:=[p,a,b]} true c (Sl 0 args) {next:=h.next+fn.ntmps,get:=h.get}=some (x,Yy,h2):=h1;rw[h1'];simp only at h5;rcases h3 with h3 | h3<;>simp only at h3<;>subst h3<;>simp only[h5]<;>exact hs
def Own (h:PH)(g:Nat)(v:PV)(xs:List PV)(l:List Nat):Prop:=
 (xs=[]/\v=.nils/\l=[])\/∃i Zc,xs≠[]/\v=.own i Zc g 0 xs.length/\h.get i=some (Zc,.row g true xs)/\l=[i]
theorem Own.nil {h:PH}{g:Nat}:Own h g .nils [] []:=Or.inl ⟨rfl,rfl,rfl⟩
theorem Own.inlV {h:PH}{g:Nat}{v:PV}{xs:List PV}{l:List Nat}(hA:Own h g v xs l):Pure.inlV h v=some (L g true xs):=by
 rcases hA with⟨rfl,rfl,rfl⟩ | ⟨i,Zc,Yq,rfl,hg,rfl⟩
 .rfl
 .cases xs with
  |nil=>exact absurd rfl Yq
  |cons=>simp[Pure.inlV,Qj,PH.elems,PH.row,hg,L]
theorem Own.lenK {h:PH}{g e:Nat}{v:PV}{xs:List PV}{l:List Nat}(hA:Own h g v xs l):Pure.lenK (.slice e) v=some (.int .i64 xs.length):=by
 rcases hA with⟨rfl,rfl,rfl⟩ | ⟨i,Zc,Yq,rfl,hg,rfl⟩<;>rfl
theorem Own.same {h:PH}{g n:Nat}{v:PV}{xs:List PV}{l:List Nat}(hA:Own h g v xs l):W5 n v=true:=by
 rcases hA with⟨rfl,rfl,rfl⟩ | ⟨i,Zc,Yq,rfl,hg,rfl⟩<;>cases n<;>rfl
theorem Own.refs {h:PH}{g n:Nat}{v:PV}{xs:List PV}{l:List Nat}(hA:Own h g v xs l):Pure.refs n v=l:=by
 rcases hA with⟨rfl,rfl,rfl⟩ | ⟨i,Zc,Yq,rfl,hg,rfl⟩<;>cases n<;>rfl
theorem Own.ownV {h:PH}{g:Nat}{v:PV}{xs:List PV}{l:List Nat}(hA:Own h g v xs l):Pure.ownV v=l:=by
 rcases hA with⟨rfl,rfl,rfl⟩ | ⟨i,Zc,Yq,rfl,hg,rfl⟩<;>rfl
theorem Own.cells {h:PH}{g:Nat}{v:PV}{xs:List PV}{l:List Nat}(hA:Own h g v xs l):cellsOf v=[v]/\W0 v=true:=by
 rcases hA with⟨rfl,rfl,rfl⟩ | ⟨i,Zc,Yq,rfl,hg,rfl⟩<;>exact⟨rfl,rfl⟩
theorem Own.frame {h h':PH}{g:Nat}{v:PV}{xs:List PV}{l:List Nat}(hA:Own h g v xs l)(hf:∀i∈l,h'.get i=h.get i):Own h' g v xs l:=by
 rcases hA with h1 | ⟨i,Zc,Yq,e,hg,rfl⟩
 .exact Or.inl h1
 .exact Or.inr ⟨i,Zc,Yq,e,by rw[hf i (by simp),hg],rfl⟩
theorem Own.pos {h:PH}{g k:Nat}{v:PV}{α:Type}{f:α->PV}{xs:List α}{l:List Nat}(hA:Own h g v (xs.map f) l)(hk:k < xs.length):∃i Zc,v=.own i Zc g 0 xs.length/\h.get i=some (Zc,.row g true (xs.map f))/\l=[i]:=by
 rcases hA with⟨e,_⟩ | ⟨i,Zc,Yq,e,hg,rfl⟩
 .simp at e;subst e;simp at hk
 .rw [List.length_map]at e;exact⟨i,Zc,e,hg,rfl⟩
theorem Own.app {h:PH}{g:Nat}{v:PV}{xs ys:List PV}{l:List Nat}{K:Loc}{T:Ty}{dd:Nat}(hA:Own h g v xs l)(hK:∀i∈l,can K i=true)(h1:xs.length+ys.length<=1073741824)(h2:T.bytes<=65536)(h3:0 < T.size)(h4:ys≠[]):
  ∃v' h' l',Xu K h dd g T ys.length ys v=some (v',h')/\Own h' g v' (xs++ys) l'/\(l'=l\/l=[]/\l'=[K.base+dd])/\h'.next=h.next/\∀j,j∉l'->h'.get j=h.get j:=by
 have hl:ys.length≠0:=by
  cases ys with
  |nil=>exact absurd rfl h4
  |cons=>simp
 rcases hA with⟨rfl,rfl,rfl⟩ | ⟨i,Zc,Yq,rfl,hg,rfl⟩
 .refine ⟨_,_,[K.base+dd],Q1 (by omega) h2 h3 hl,Or.inr ⟨K.base+dd,h.stamp (K.base+dd),by simpa using h4,by simp,by simp,rfl⟩,Or.inr ⟨rfl,rfl⟩,rfl,fun j hj=>?_⟩;simp only[List.mem_singleton]at hj;simp[hj]
 .have hr:h.row i Zc g=some (true,xs):=by simp[PH.row,hg]
  refine⟨_,_,[i],((by rw[Qf,hr];rfl:Xu K h dd g T ys.length ys (.own i Zc g 0 xs.length)=Zwa K h T g i Zc 0 xs.length ys.length ys (true,xs)).trans (Zle h1 h2 h3 (hK i (by simp)) rfl (by simp))),.inr ⟨i,Zc+1,by simp[h4],by simp,by simp,rfl⟩,Or.inl rfl,rfl,fun j hj=>?_⟩;simp only[List.mem_singleton]at hj;simp[hj]
theorem Own.call {C:Ctx}{K:Loc}{h:PH}{g f:Nat}{v w:PV}{xs:List PV}{l:List Nat}(hA:Own h g v xs l)(hK:∀i∈l,can K i=true)(Xo:C.raw f=false)(pre post:List PV)(Zyb:Xw C f (pre++L g true xs::post) w)(hw:Zdd w=true)
  (h1:(pre++post).flatMap Pure.ownV=[]) (h2:(pre++post).flatMap (Pure.refs 3)=[]):Yx C K f (pre++v::post) h=some (w,h):=by
 rw[List.flatMap_append,List.append_eq_nil_iff]at h1 h2
 have Zm5:∀(a b:List PV) (a' b':List PV),Xd (Pure.inlV h) a=some a'->Xd (Pure.inlV h) b=some b'->Xd (Pure.inlV h) (a++b)=some (a'++b'):=by
  intro a
  induction a with
  |nil=>intro b a' b' e1 e2;simp only[Xd,Option.some.injEq]at e1;subst e1;exact e2
  |cons x a ih=>
   intro b a' b' e1 e2;simp only[Xd]at e1;simp only[List.cons_append,Xd];split at e1
   .rename_i y ys hy hys;cases e1;rw[hy,ih b ys b' hys e2];rfl
   .cases e1
 refine Znq Zyb hw Xo (Zm5 _ _ _ _ (Wu h1.1) ?_) (by cases pre<;>rfl) ?_ ?_ ?_
 .simp only [Xd,hA.inlV,Wu h1.2]
 .rw [List.flatMap_append,List.flatMap_cons,h1.1,h1.2];simp
 .rw [List.flatMap_append,List.flatMap_cons,h2.1,h2.2];simp
 .rw [List.flatMap_append,List.flatMap_cons,h1.1,h1.2];rcases hA with⟨_,rfl,_⟩ | ⟨i,Zc,_,rfl,hg,rfl⟩
  .simp
  .have hc:=hK i (by simp);simp at hc;simp[hg,hc]
theorem W6 {h3:PH}:∀ {l:List Nat} {h:PH},(Yj h3 l h).next=h.next
 | [],h=>rfl
 |i::r,h=>by
  simp only[Yj];split
  .rw [W6];rfl
  .exact W6
theorem U3 {h3:PH}{j:Nat}:∀ {l:List Nat} {h:PH},j∉l->(Yj h3 l h).get j=h.get j
 | [],h,_=>rfl
 |i::r,h,hj=>by
  simp only[List.mem_cons,not_or]at hj;simp only[Yj];split
  .rw [U3 hj.2];simp[hj.1]
  .exact U3 hj.2
theorem Zne {h3:PH}{j:Nat}(hs:(h3.get j).isSome=true):∀ {l:List Nat} {h:PH},j∈l->(Yj h3 l h).get j=h3.get j
 | [],h,hj=>by cases hj
 |i::r,h,hj=>by
  by_cases hr:j∈r
  .simp only [Yj];split<;>exact Zne hs hr
  .have hi:j=i:=by
    rcases List.mem_cons.1 hj with h1 | h1
    .exact h1
    .exact absurd h1 hr
   subst hi;simp only[Yj];split
   .rename_i Zc o hg;rw[U3 hr,hg];simp
   .rename_i hg;rw[hg]at hs;cases hs
theorem Zs7 {C:Ctx}{K:Loc}{f:Nat}{args args':List PV}{h:PH}{ok:List Nat}{fn:Func}{c:Code}{v:PV}{R:PH->Prop}(hF:C.F f=some fn)(hb:fn.body=some c)(Xo:C.raw f=false)(Zh3:(C.ext f []).isNone=true)(hm:Xd (inlV h) args=some args')(hre:reach h 4 (args'.flatMap (refs 3))=ok)
  (Zx:ok.all (fun i=>can K i&&(h.get i).isSome)=true) (hids:(args.flatMap ownV).all (can K)=true)
  (hx:wp (Vh C {base:=h.next,lo:=h.next,ok:=ok} true c (Sl 0 args') {h.freeze (args.flatMap ownV) with next:=h.next+fn.ntmps}) fun r=>(r.1=.normal\/r.1=.ret)/\wp (Uz C r.2.1 r.2.2 fn.results.toList) fun vs=>
    inlT r.2.2 (Wy vs)=some v/\ownT (Wy vs)=[]/\below h.next 4 v=true/\((ok.all (fun i=>r.2.2.belowAt h.next i)=true/\R (Yj r.2.2 ok h)/\R (Yj r.2.2 ok (h.freeze (args.flatMap ownV))))\/(ok.any (fun i=>!(r.2.2.belowAt h.next i)&&h.belowAt h.next i)=true/\R r.2.2))):
  ∃h',Yx C K f args h=some (v,h')/\R h':=by
 have Vt:=Zch (args:=args) Zh3 Xo;obtain⟨⟨x,Yy,h2⟩,h1,h3,h4⟩:=Wb.1 hx;obtain⟨vs,h5,h6,h7,h8,h9⟩:=Wb.1 h4;simp only at h6 h7 h9
 have hs:∃h',Xl h h2 ok (args.flatMap ownV) (Wy vs)=some (v,h')/\R h':=by
  unfold Xl;rw[h6];rcases h9 with⟨h9,h10,h11⟩ | ⟨h9,h10⟩
  .simp only [h7,PH.freeze,List.all_nil,if_true,h8,h9,Bool.and_self];split
   .exact ⟨_,rfl,h10⟩
   .exact ⟨_,rfl,h11⟩
  .refine ⟨_,?_,h10⟩
   have hn:ok.all (fun i=>h2.belowAt h.next i)=false:=by
    rw[List.any_eq_true]at h9;obtain⟨i,hi,hh⟩:=h9;rw[List.all_eq_false];refine⟨i,hi,?_⟩;simp only[Bool.and_eq_true,Bool.not_eq_true']at hh;rw[hh.1];decide
   simp only[h7,PH.freeze,List.all_nil,if_true,h8,hn,Bool.and_false,Bool.false_eq_true,if_false,h9,Bool.or_true]
 obtain⟨h',hs,hR⟩:=hs;refine⟨h',?_,hR⟩;rw[Uj];unfold callF;simp only[Vt,hF,hb,Xo,Bool.false_eq_true,if_false,hm,hre,Zx,hids,Bool.and_self,if_true];have h1':Vh C {base:=h.next,lo:=h.next,ok:=ok} true c (Sl 0 args') {next:=h.next+fn.ntmps,get:=(h.freeze (args.flatMap ownV)).get}=some (x,Yy,h2):=h1;rw[h1'];simp only at h5;rcases h3 with h3 | h3<;>simp only at h3<;>subst h3<;>simp only[h5]<;>exact hs
end Go.Pure
end
