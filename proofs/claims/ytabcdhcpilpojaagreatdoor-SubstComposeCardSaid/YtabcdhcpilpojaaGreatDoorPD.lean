/- Plain runs by rewriting. -/
import Derived.Test.YtabcdhcpilpojaaGreatDoorPE
set_option linter.unusedSimpArgs false
set_option linter.unusedVariables false
section
namespace Go.Pure
open Go
open Go.Virt (Ex Ctx Ty TK maxLenV Yf)
structure Tag {α:Type}(a:α):Type where
def wp {α:Type}(x:Option α)(Q:α->Prop)(_t:Tag Q:=⟨⟩):Prop:=match x with | some a=>Q a | none=>False
@[simp] theorem Zro {α:Type}{a:α}{Q:α->Prop}{t:Tag Q}:wp (some a) Q t=Q a:=rfl
@[simp] theorem Zack {α:Type}{Q:α->Prop}{t:Tag Q}:wp (none:Option α) Q t=False:=rfl
theorem wp_mono {α:Type}{x:Option α}{Q R:α->Prop}(h:wp x Q)(hq:∀a,Q a->R a):wp x R:=by
 cases x with
 |none=>exact h
 |some a=>exact hq a h
theorem Y9 {α:Type}{x:Option α}{Q:α->Prop}:wp x Q↔∃a,x=some a/\Q a:=by
 cases x with
 |none=>simp
 |some a=>simp
def bO {α β:Type}(x:Option α)(f:α->Option β)(_t:Tag f:=⟨⟩):Option β:=match x with | some a=>f a | none=>none
@[simp] theorem Xw {α β:Type}{a:α}{f:α->Option β}{t:Tag f}:bO (some a) f t=f a:=rfl
@[simp] theorem Z2c {α β:Type}{f:α->Option β}{t:Tag f}:bO none f t=none:=rfl
@[simp] theorem Za0k {α β:Type}{x:Option α}{f:α->Option β}{t:Tag f}{Q:β->Prop}{u:Tag Q}:wp (bO x f t) Q u=wp x fun a=>wp (f a) Q:=by cases x<;>rfl
@[simp] theorem Zaif {α β:Type}{x:Option α}{f:α->β}{Q:β->Prop}{u:Tag Q}:wp (x.map f) Q u=wp x fun a=>Q (f a):=by cases x<;>rfl
@[simp] theorem Zatu {α β:Type}{x:Option α}{f:α->Option β}{Q:β->Prop}{u:Tag Q}:wp (x.bind f) Q u=wp x fun a=>wp (f a) Q:=by cases x<;>rfl
def ifB (b:Bool)(A B:Prop)(_t:Tag A:=⟨⟩)(_u:Tag B:=⟨⟩):Prop:=if b=true then A else B
@[simp] theorem Zvy {A B:Prop}{t:Tag A}{u:Tag B}:ifB true A B t u=A:=rfl
@[simp] theorem Z3w {A B:Prop}{t:Tag A}{u:Tag B}:ifB false A B t u=B:=rfl
theorem Zcn {b:Bool}{A B:Prop}{t:Tag A}{u:Tag B}(h1:b=true->A)(h2:b=false->B):ifB b A B t u:=by
 cases b with
 |true=>exact h1 rfl
 |false=>exact h2 rfl
@[simp] theorem Zaue {b:Bool}{A B:Prop}{t:Tag A}{u:Tag B}:ifB (!b) A B t u=ifB b B A u t:=by cases b<;>rfl
@[simp] theorem put_get (sl:Yu)(d t:Nat)(v:PV):(sl.put d v) t=if t=d then some v else sl t:=rfl
@[simp] theorem Zaov (args:List PV)(t:Nat):Sb 0 args t=args[t]?:=by simp[Sb]
@[simp] theorem Zang (sl Yw:Yu)(t:Nat):Zdq sl Yw t=bO (sl t) fun _=>Yw t:=by unfold Zdq bO;cases sl t<;>rfl
@[simp] theorem Zgu (h:PH)(i Zc:Nat)(o:PO)(j:Nat):(h.put i Zc o).get j=if j=i then some (Zc,o) else h.get j:=rfl
@[simp] theorem Zag2 (h:PH)(i Zc:Nat)(o:PO):(h.put i Zc o).next=h.next:=rfl
@[simp] theorem Zam1 {sl:Yu}{n:Nat}{v:PV}:putP sl (some n) v=sl.put n v:=rfl
@[simp] theorem Zam2 {sl:Yu}{v:PV}:putP sl none v=sl:=rfl
@[simp] theorem Zapt {sl:Yu}{t:Nat}:Yx sl (.tmp t)=sl t:=rfl
@[simp] theorem Zam9 {sl:Yu}{f:Nat}:Yx sl (.func f)=some (.fn f [] []):=rfl
@[simp] theorem Zapv {sl:Yu}{k:IntKind}{n:Int}:Yx sl (.const (.int k n))=some (.int k n):=rfl
@[simp] theorem Zana {sl:Yu}{b:Bool}:Yx sl (.const (.bool b))=some (.bool b):=rfl
@[simp] theorem Zapu {sl:Yu}{b:ByteArray}:Yx sl (.const (.string b))=some (.str (b.data.toList.map UInt8.toNat)):=rfl
@[simp] theorem Zam4 {sl:Yu}:Yx sl (.const (.slice none 0 0))=some .nils:=rfl
@[simp] theorem Zam5 {sl:Yu}:Yx sl (.const (.pointer none))=some .nilp:=rfl
@[simp] theorem Zam6 {sl:Yu}:Yx sl (.const (.map none))=some .nilm:=rfl
@[simp] theorem Zam8 {sl:Yu}:Yx sl (.const .nilFunc)=some .nilf:=rfl
@[simp] theorem Zam7 {sl:Yu}:Yx sl (.const .nilIface)=some .nili:=rfl
@[simp] theorem Zapw {sl:Yu}{cs:Array Value}:Yx sl (.const (.agg cs))=(Yc.go 2 cs.toList).map .agg:=rfl
@[simp] theorem Zaz4 {n:Nat}:Yc.go n []=some []:=by simp only[Yc.go]
@[simp] theorem Zavh {n:Nat}{v:Value}{r:List Value}:Yc.go n (v::r)=bO (Yc n v) fun p=>bO (Yc.go n r) fun ps=>some (p::ps):=by
 simp only[Yc.go];cases Yc n v<;>cases Yc.go n r<;>rfl
@[simp] theorem Zav0 {n:Nat}{k:IntKind}{i:Int}:Yc n (.int k i)=some (.int k i):=by cases n<;>rfl
@[simp] theorem Zat9 {n:Nat}{b:Bool}:Yc n (.bool b)=some (.bool b):=by cases n<;>rfl
@[simp] theorem Zavz {n:Nat}{b:ByteArray}:Yc n (.string b)=some (.str (b.data.toList.map UInt8.toNat)):=by cases n<;>rfl
@[simp] theorem Zat4 {n:Nat}:Yc n (.slice none 0 0)=some .nils:=by cases n<;>rfl
@[simp] theorem Zat5 {n:Nat}:Yc n (.pointer none)=some .nilp:=by cases n<;>rfl
@[simp] theorem Zat6 {n:Nat}:Yc n (.map none)=some .nilm:=by cases n<;>rfl
@[simp] theorem Zat8 {n:Nat}:Yc n .nilFunc=some .nilf:=by cases n<;>rfl
@[simp] theorem Zat7 {n:Nat}:Yc n .nilIface=some .nili:=by cases n<;>rfl
@[simp] theorem Zaiy {l:List Value}:Zbq l=Yc.go 0 l:=rfl
@[simp] theorem Zjs {sl:Yu}:Vd sl []=some []:=rfl
@[simp] theorem Zax {sl:Yu}{x:Operand}{r:List Operand}:Vd sl (x::r)=bO (Yx sl x) fun v=>bO (Vd sl r) fun vs=>some (v::vs):=by
 simp only[Vd];cases Yx sl x<;>cases Vd sl r<;>rfl
@[simp] theorem Zaiz {sl:Yu}:U6 sl []=some []:=rfl
@[simp] theorem Zkt {sl:Yu}{i:Nat}{x:Operand}{r:List (Nat×Operand)}:U6 sl ((i,x)::r)=bO (Yx sl x) fun v=>bO (U6 sl r) fun vs=>some ((i,v)::vs):=by
 simp only[U6];cases Yx sl x<;>cases U6 sl r<;>rfl
section
variable {C:Ctx}{K:Loc}{Xy:Bool}{sl:Yu}{h:PH}{Q:Ex×Yu×PH->Prop}
@[simp] theorem wp_seq {a b:Code}:wp (Vl C K Xy (.seq a b) sl h) Q=wp (Vl C K Xy a sl h) fun r=>match r with
  | (.normal,sl,h)=>wp (Vl C K Xy b sl h) Q
  |r=>Q r:=by
 rw[Zaen];cases Vl C K Xy a sl h with
 |none=>rfl
 |some r=>
  obtain⟨x,Yw,h'⟩:=r;cases x<;>rfl
@[simp] theorem wp_cond {c:Operand}{a b:Code}:wp (Vl C K Xy (.cond c a b) sl h) Q=wp (Yx sl c) fun v=>match v with
  | .bool x=>ifB x (wp (Vl C K Xy a sl h) Q) (wp (Vl C K Xy b sl h) Q)
  | _=>False:=by
 rw[Z95];cases Yx sl c with
 |none=>rfl
 |some v=>
  cases v with
  |bool x=>cases x<;>rfl
  | _=>rfl
@[simp] theorem wp_block {id:Nat}{b:Code}:wp (Vl C K Xy (.block id b) sl h) Q=wp (Vl C K Xy b sl h) fun r=>match r with
  | (.exit id',sl,h)=>if id'=id then Q (.normal,sl,h) else Q (.exit id',sl,h)
  |r=>Q r:=by
 rw[Z43];cases Vl C K Xy b sl h with
 |none=>rfl
 |some r=>
  obtain⟨x,Yw,h'⟩:=r;cases x with
  |exit id'=>simp only[Zaaq,Zro];split<;>rfl
  | _=>rfl
theorem wp_loop {b:Code}:wp (Vl C K Xy (.loop b) sl h) Q=wp (Vl C K Xy b sl h) fun r=>match r with
  | (.normal,Yw,h')=>wp (Vl C K Xy (.loop b) (Zdq sl Yw) h') Q
  |r=>Q r:=by
 rw[Z92];cases Vl C K Xy b sl h with
 |none=>rfl
 |some r=>
  obtain⟨x,Yw,h'⟩:=r;cases x<;>rfl
@[simp] theorem wp_skip {t0:Tag Q}:wp (Vl C K Xy .skip sl h) Q t0=Q (.normal,sl,h):=by rw[Z91];rfl
@[simp] theorem wp_exit {id:Nat}:wp (Vl C K Xy (.exit id) sl h) Q=Q (.exit id,sl,h):=by rw[Z93];rfl
@[simp] theorem wp_ret {t0:Tag Q}:wp (Vl C K Xy .ret sl h) Q t0=Q (.ret,sl,h):=by rw[Zaeo];rfl
@[simp] theorem wp_region {id:Nat}{ops:Array Oper}:wp (Vl C K Xy (.region id ops false) sl h) Q=wp (Zbg C (Yv C) (Sc C) K ops.toList ops.toList sl h) fun p=>Q (.normal,p.1,p.2):=by
 rw[Zzy,Zaif]
end
section
variable {C:Ctx}{cf:CF}{yf:YF}{K:Loc}{all:List Oper}{sl:Yu}{h:PH}{d:Option Nat}{t:TypeId}{pos:String}{af:Array Edge}{gd:Option (Nat×Bool)}
@[simp] theorem Zaie {Q:Yu×PH->Prop}:wp (Zbg C cf yf K all [] sl h) Q=Q (sl,h):=rfl
@[simp] theorem Zago {o:Oper}{r:List Oper}{Q:Yu×PH->Prop}:wp (Zbg C cf yf K all (o::r) sl h) Q =
  wp (Vz all sl o) fun w=>ifB w (wp (opP C cf yf all K sl h o) fun p=>wp (Zbg C cf yf K all r (putP sl o.dst p.1) p.2) Q) (wp (Zbg C cf yf K all r (putP sl o.dst (.tuple [])) h) Q):=by
 simp only[Zbg];cases Vz all sl o with
 |none=>rfl
 |some w=>
  cases w with
  |true=>cases opP C cf yf all K sl h o<;>rfl
  |false=>rfl
@[simp] theorem Zagr {op:Op}:Vz all sl ⟨d,op,t,pos,af,none⟩=some true:=rfl
@[simp] theorem Zagq {op:Op}{j:Nat}{want:Bool}:Vz all sl ⟨d,op,t,pos,af,some (j,want)⟩=(match (all[j]?).bind (·.dst) with
  |some d=>bO (sl d) fun v=>match v with | .bool b=>some (b==want) | _=>some false
  |none=>some false):=by
 simp only[Vz];cases hb:(all[j]?).bind (·.dst) with
 |none=>rfl
 |some d=>
  simp only;cases hs:sl d with
  |none=>rfl
  |some v=>cases v<;>rfl
end
attribute [simp low] Yj.eq_1 V6.eq_1 Zh.eq_1
section
variable {C:Ctx}{op:BinOp}{t:Nat}
@[simp] theorem Zatl {k k':IntKind}{a b:Int}:Zcz C op t (.int k a) (.int k' b)=Rl op k k' a b:=rfl
@[simp] theorem Zatk {a b:List Nat}:Zcz C op t (.str a) (.str b)=Zo9 op a b:=rfl
@[simp] theorem Zacd {a b:Bool}:Zcz C .eql t (.bool a) (.bool b)=(eqP C t (.bool a) (.bool b)).map .bool:=rfl
@[simp] theorem Zaca {a b:Bool}:Zcz C .neq t (.bool a) (.bool b)=(eqP C t (.bool a) (.bool b)).map fun b=>.bool (!b):=rfl
@[simp] theorem Zacc {y:PV}:Zcz C .eql t .nilp y=(eqP C t .nilp y).map .bool:=rfl
@[simp] theorem Zab9 {y:PV}:Zcz C .neq t .nilp y=(eqP C t .nilp y).map fun b=>.bool (!b):=rfl
@[simp] theorem Zae2 {i v o:Nat}{y:PV}:Zcz C .eql t (.ptr i v o) y=(eqP C t (.ptr i v o) y).map .bool:=rfl
@[simp] theorem Zaez {i v o:Nat}{y:PV}:Zcz C .neq t (.ptr i v o) y=(eqP C t (.ptr i v o) y).map fun b=>.bool (!b):=rfl
@[simp] theorem Zacb {cs:List PV}{y:PV}:Zcz C .eql t (.rptr cs) y=(eqP C t (.rptr cs) y).map .bool:=rfl
@[simp] theorem Zab7 {cs:List PV}{y:PV}:Zcz C .neq t (.rptr cs) y=(eqP C t (.rptr cs) y).map fun b=>.bool (!b):=rfl
@[simp] theorem Zpx {y:PV}:Zcz C .eql t .nils y=(eqP C t .nils y).map .bool:=rfl
@[simp] theorem Zab8 {y:PV}:Zcz C .neq t .nils y=(eqP C t .nils y).map fun b=>.bool (!b):=rfl
@[simp] theorem Zs8 {g:Nat}{xs:List PV}{y:PV}:Zcz C .eql t (.lst g xs) y=(eqP C t (.lst g xs) y).map .bool:=rfl
@[simp] theorem Zae1 {g:Nat}{xs:List PV}{y:PV}:Zcz C .neq t (.lst g xs) y=(eqP C t (.lst g xs) y).map fun b=>.bool (!b):=rfl
@[simp] theorem Zae3 {i v g o n:Nat}{y:PV}:Zcz C .eql t (.own i v g o n) y=(eqP C t (.own i v g o n) y).map .bool:=rfl
@[simp] theorem Zae0 {i v g o n:Nat}{y:PV}:Zcz C .neq t (.own i v g o n) y=(eqP C t (.own i v g o n) y).map fun b=>.bool (!b):=rfl
end
attribute [simp] Mk.obj Mk.val toP Go.Virt.TK.agg V5 Uw Zc7 Uk Zr9 Zli unP
attribute [simp] Zd.eq_1 Zd.eq_2 Wy.eq_1 Wy.eq_2 Wy.eq_3 Z3t.eq_1 Z3t.eq_2 Z3t.eq_3 Z3t.eq_4 Z3t.eq_5
@[simp] theorem Zapp {cs:List PV}{off n:Nat}:X6 cs off n=if off+n<=cs.length then some ((cs.drop off).take n) else none:=rfl
@[simp] theorem Zaow {ty:Ty}:Zak ty=(Zbq ty.zero).bind (toP ty.k.agg):=rfl
def opF (x:Option PV)(Q:PV->Prop)(R:Prop)(_t:Tag Q:=⟨⟩)(_u:Tag R:=⟨⟩):Prop:=match x with | some v=>Q v | none=>R
@[simp] theorem Z7b {v:PV}{Q:PV->Prop}{R:Prop}{t:Tag Q}{u:Tag R}:opF (some v) Q R t u=Q v:=rfl
@[simp] theorem Zvg {Q:PV->Prop}{R:Prop}{t:Tag Q}{u:Tag R}:opF none Q R t u=R:=rfl
def opM (x:Option Mk)(Q:Mk->Prop)(R:Prop)(_t:Tag Q:=⟨⟩)(_u:Tag R:=⟨⟩):Prop:=match x with | some v=>Q v | none=>R
@[simp] theorem Zvf {v:Mk}{Q:Mk->Prop}{R:Prop}{t:Tag Q}{u:Tag R}:opM (some v) Q R t u=Q v:=rfl
@[simp] theorem Z7a {Q:Mk->Prop}{R:Prop}{t:Tag Q}{u:Tag R}:opM none Q R t u=R:=rfl
section
variable {C:Ctx}{cf:CF}{yf:YF}{K:Loc}{all:List Oper}{sl:Yu}{h:PH}{o:Oper}
@[simp] theorem Za0j {Q:PV×PH->Prop}:wp (opP C cf yf all K sl h o) Q=opF (Yj C sl o) (fun v=>Q (v,h)) (opM (V6 C all sl o)
   (fun m=>match m.obj,o.dst with
     |none,_=>Q (m.val 0 0,h)
     |some ob,some d=>Q (m.val (K.base+d) (h.stamp (K.base+d)),h.put (K.base+d) (h.stamp (K.base+d)) ob)
     |some _,none=>False)
   (wp (Zh C cf yf all K sl h o) Q)):=by
 unfold opP;cases Yj C sl o with
 |some v=>rfl
 |none=>
  cases V6 C all sl o with
  |none=>rfl
  |some m=>
   simp only[Zvg,Zvf];cases m.obj with
   |none=>rfl
   |some ob=>cases o.dst<;>rfl
end
section
variable {C:Ctx}{sl:Yu}{h:PH}
@[simp] theorem Zapm:Us C sl h []=some []:=rfl
@[simp] theorem Zapl {t:Nat}{r:List ResultVar}:Us C sl h (.tmp t::r)=bO (sl t) fun v=>bO (Us C sl h r) fun vs=>some (v::vs):=by
 simp only[Us];cases sl t<;>cases Us C sl h r<;>rfl
attribute [simp] inlT.eq_1 inlT.eq_2 inlV.eq_1 inlV.eq_2 Qw.eq_1 Qw.eq_2 ownT.eq_1 ownT.eq_2 ownV.eq_1 ownV.eq_2 Sd.eq_1 Sd.eq_2 Wr Xe refs below extP plain Zq7 PH.elems PH.row PH.freeze can Znd Zh.bytesP
@[simp] theorem Z3q {α β:Type}{f:α->Option β}{x:α}{r:List α}:Xe f (x::r)=bO (f x) fun y=>bO (Xe f r) fun ys=>some (y::ys):=by
 simp only[Xe];cases f x<;>cases Xe f r<;>rfl
end
section
variable {sl:Yu}
attribute [simp] Rc
end
@[simp] theorem Zajc {t:Nat}:Virt.litNil (.tmp t)=false:=rfl
@[simp] theorem Zabi {t:Nat}:Virt.litNil (.global t)=false:=rfl
@[simp] theorem Zag7 {t:Nat}:Virt.litNil (.func t)=false:=rfl
@[simp] theorem Zag8 {b:Bool}:Virt.litNil (.const (.bool b))=false:=rfl
@[simp] theorem Zajh {k:IntKind}{n:Int}:Virt.litNil (.const (.int k n))=false:=rfl
@[simp] theorem Zajd {b:ByteArray}:Virt.litNil (.const (.string b))=false:=rfl
@[simp] theorem Zaje {a:Option Addr}:Virt.litNil (.const (.pointer a))=false:=rfl
@[simp] theorem Zadf {a:Option Addr}{n m:Nat}:Virt.litNil (.const (.slice a n m))=false:=rfl
@[simp] theorem Zajg {a:Option Nat}:Virt.litNil (.const (.map a))=false:=rfl
@[simp] theorem Z7p:Virt.litNil (.const .nilFunc)=false:=rfl
@[simp] theorem Zajf:Virt.litNil (.const .nilIface)=true:=rfl
attribute [simp] Zvl Virt.ifaceK
theorem Zcv {C:Ctx}{f:Nat}{args:List PV}(Vx:(C.ext f []).isNone=true)(Xk:C.raw f=false):extP C f args=none:=by
 unfold extP;split
 .cases e:C.ext f []with
  |none=>rfl
  |some v=>rw[e]at Vx;cases Vx
 .rw [Xk];rfl
 .rfl
theorem Zhj {C:Ctx}{K:Loc}{f:Nat}{args:List PV}{h:PH}{fn:Func}{c:Code}{v:PV}(Zir:(C.ext f []).isNone=true)(hF:C.F f=some fn)(hb:fn.body=some c)(Xk:C.raw f=false)(ho:args.flatMap ownV=[])(hr:args.flatMap (refs 3)=[])
  (hx:wp (Vl C {base:=h.next,lo:=h.next,ok:=[]} true c (Sb 0 args) {h with next:=h.next+fn.ntmps}) fun r=>(r.1=.normal\/r.1=.ret)/\wp (Us C r.2.1 r.2.2 fn.results.toList) fun vs=>
    inlT r.2.2 (Wr vs)=some v/\(ownT (Wr vs)).all (fun i=>Nat.ble h.next i)=true) (hv:below h.next 4 v=true):Yv C K f args h=some (v,h):=by
 have Vx:=Zcv (args:=args) Zir Xk
 have hm:Xe (inlV h) args=some args:=by
  have Zf0:∀a,ownV a=[]->inlV h a=some a:=by
   intro a ha
   have hc:∀cs:List PV,cs.flatMap Sd=[]->Xe (Qw h) cs=some cs:=by
    intro cs
    induction cs with
    |nil=>intro _;rfl
    |cons c cs ih=>
     intro hh;rw[List.flatMap_cons,List.append_eq_nil_iff]at hh;simp only[Xe,ih hh.2];cases c<;>simp_all[Sd,Qw]
   cases a with
   |agg cs=>simp only[inlV];rw[hc cs ha];rfl
   |own=>simp[ownV,Sd]at ha
   | _=>rfl
  clear Vx hx hr
  induction args with
  |nil=>rfl
  |cons a l ih=>
   rw[List.flatMap_cons,List.append_eq_nil_iff]at ho;simp only[Xe,Zf0 a ho.1,ih ho.2]
 obtain⟨⟨x,Yw,h2⟩,h1,h3,h4⟩:=Y9.1 hx;obtain⟨vs,h5,h6,h7⟩:=Y9.1 h4
 have hs:Xm h h2 [] [] (Wr vs)=some (v,h):=by
  unfold Xm;simp only at h6;rw[h6];simp only[List.any_nil,Bool.or_false,h7,hv,List.all_nil,Bool.and_true,if_true,Yg]
 rw[Uo];unfold callF;rw[Vx];simp only[hF,hb,Xk,Bool.false_eq_true,if_false,hm,ho,hr,reach,List.all_nil,Bool.and_true,if_true,PH.freeze];have h1':Vl C {base:=h.next,lo:=h.next,ok:=[]} true c (Sb 0 args) {next:=h.next+fn.ntmps,get:=h.get}=some (x,Yw,h2):=h1;rw[h1'];simp only at h5;rcases h3 with h3 | h3<;>simp only at h3<;>subst h3<;>simp only[h5]<;>exact hs
end Go.Pure
end
section
namespace Go.Pure
open Go
open Go.Virt (Ex Ctx Ty TK)
theorem Zud {C:Ctx}{K:Loc}{Xy:Bool}{b:Code}{Q:Ex×Yu×PH->Prop}(I:Nat->Yu->PH->Prop)
  (step:∀n sl h,I n sl h->wp (Vl C K Xy b sl h) fun r=>match r with | (.normal,Yw,h')=>∃m,m < n/\I m (Zdq sl Yw) h' | r=>Q r):
  ∀n sl h,I n sl h->wp (Vl C K Xy (.loop b) sl h) Q:=by
 intro n
 induction n using Nat.strongRecOn with
 | _ n ih=>
   intro sl h hi;rw[wp_loop];refine wp_mono (step n sl h hi) ?_;rintro⟨x,Yw,h'⟩ hq;cases x with
   |normal=>obtain⟨m,hm,hI⟩:=hq;exact ih m hm _ _ hI
   |exit id=>exact hq
   |ret=>exact hq
structure Hide (p:Prop):Prop where
 get:p
theorem Zub {n:Int}(h1 : -9223372036854775808<=n)(h2:n < 9223372036854775808):IntKind.i64.wrap n=n:=by
 simp only[IntKind.wrap,IntKind.bits,IntKind.signed,Bool.true_and,decide_eq_true_eq,ge_iff_le];split<;>omega
theorem Zaci {n:Int}(h1:0<=n)(h2:n < 256):IntKind.u8.wrap n=n:=by
 simp only[IntKind.wrap,IntKind.bits,IntKind.signed,Bool.false_and,Bool.false_eq_true,if_false];omega
theorem Z58 {n:Int}:0<=IntKind.u64.wrap n/\IntKind.u64.wrap n < 18446744073709551616:=by
 simp only[IntKind.wrap,IntKind.bits,IntKind.signed,Bool.false_and,Bool.false_eq_true,if_false];omega
theorem Zp1 {n:Int}(h1:0<=n)(h2:n < 18446744073709551616):IntKind.u64.wrap n=n:=by
 simp only[IntKind.wrap,IntKind.bits,IntKind.signed,Bool.false_and,Bool.false_eq_true,if_false];omega
def Zdt:PV->Bool
 | .bool _ | .int _ _ | .str _ | .nilp | .nils | .nilm | .nilf | .nili=>true
 | _=>false
abbrev Xn (C:Ctx)(f:Nat)(args:List PV)(v:PV):Prop:=∀K H,Yv C K f args H=some (v,H)
theorem Zzs {v:PV}(h:Zdt v=true)(m n:Nat):below m n v=true:=by
 cases v<;>simp_all[Zdt]<;>cases n<;>rfl
theorem Zzr {v:PV}(h:Zdt v=true)(m:Nat)(n:Nat):Yy m n v=true:=by
 cases v<;>simp_all[Zdt]<;>cases n<;>rfl
theorem Zoo {C:Ctx}{K:Loc}{f:Nat}{args args':List PV}{h:PH}{v:PV}(hA:Xn C f args' v)(hv:Zdt v=true)(Xk:C.raw f=false)(hm:Xe (inlV h) args=some args')(Yi:args.isEmpty=false)
  (ho:args'.flatMap ownV=[]) (hr:args'.flatMap (refs 3)=[])
  (hids:(args.flatMap ownV).all (fun i=>can K i&&match h.get i with | some (_,.row _ _ _)=>true | _=>false)=true):Yv C K f args h=some (v,h):=by
 have hx:∀l:List PV,l.isEmpty=false->extP C f l=none:=by
  intro l hl;unfold extP;split
  .cases hl
  .rw [Xk];rfl
  .rfl
 have Zim:args'.isEmpty=false:=by
  cases args with
  |nil=>cases Yi
  |cons a l=>
   simp only[Xe]at hm;split at hm
   .injection hm with hm;subst hm;rfl
   .cases hm
 have hm':∀H,Xe (inlV H) args'=some args':=by
  intro H
  have Zf0:∀a,ownV a=[]->inlV H a=some a:=by
   intro a ha
   have hc:∀cs:List PV,cs.flatMap Sd=[]->Xe (Qw H) cs=some cs:=by
    intro cs
    induction cs with
    |nil=>intro _;rfl
    |cons c cs ih=>
     intro hh;rw[List.flatMap_cons,List.append_eq_nil_iff]at hh;simp only[Xe,ih hh.2];cases c<;>simp_all[Sd,Qw]
   cases a with
   |agg cs=>simp only[inlV];rw[hc cs ha];rfl
   |own=>simp[ownV,Sd]at ha
   | _=>rfl
  clear hm hr Zim hA
  induction args' with
  |nil=>rfl
  |cons a l ih=>
   rw[List.flatMap_cons,List.append_eq_nil_iff]at ho;simp only[Xe,Zf0 a ho.1,ih ho.2]
 have h0:=hA K (h.freeze (args.flatMap ownV))
 have Rn:∀(l:List Nat) (g:PH),(g.freeze l).next=g.next:=by
  intro l
  induction l with
  |nil=>intro g;rfl
  |cons i l ih=>intro g;simp only[PH.freeze];split<;>rw[ih];rfl
 rw[Uo]at h0 ⊢;unfold callF at h0 ⊢;rw[hx _ Zim]at h0;rw[hx _ Yi];cases hF:C.F f with
 |none=>simp only[hF]at h0;cases h0
 |some fn=>
  simp only[hF]at h0 ⊢;cases hb:fn.body with
  |none=>simp only[hb]at h0;cases h0
  |some c=>
   simp only[hb,Xk,Bool.false_eq_true,if_false,hm',ho,hr,reach,List.all_nil,Bool.and_true,if_true]at h0
   have Zt:(args.flatMap ownV).all (can K)=true:=by
    rw[List.all_eq_true]at hids ⊢;intro i hi;have:=hids i hi;simp only[Bool.and_eq_true]at this;exact this.1
   simp only[Xk,Bool.false_eq_true,if_false,hm,hr,reach,List.all_nil,Bool.true_and,Zt,if_true];have e1:(PH.freeze (h.freeze (args.flatMap ownV)) [])=h.freeze (args.flatMap ownV):=rfl;rw[e1,Rn]at h0;cases hx:Vl C {base:=h.next,lo:=h.next,ok:=[]} true c (Sb 0 args') {h.freeze (args.flatMap ownV) with next:=h.next+fn.ntmps} with
   |none=>rw[hx]at h0;cases h0
   |some r=>
    obtain⟨x,Yw,h2⟩:=r;rw[hx]at h0
    have key:∀vs,Xm (h.freeze (args.flatMap ownV)) h2 [] [] (Wr vs)=some (v,h.freeze (args.flatMap ownV))->Xm h h2 [] (args.flatMap ownV) (Wr vs)=some (v,h):=by
     intro vs hs;unfold Xm at hs ⊢;cases hi:inlT h2 (Wr vs) with
     |none=>rw[hi]at hs;cases hs
     |some v'=>
      rw[hi]at hs;simp only[List.any_nil,Bool.or_false,Rn,List.all_nil,Bool.and_true,Yg]at hs ⊢;by_cases ha:((ownT (Wr vs)).all fun i=>Nat.ble h.next i)=true
      .rw [if_pos ha]at hs ⊢
       have hvv:v'=v:=by
        by_cases hb:below h.next 4 v'=true
        .rw [if_pos hb]at hs;simp only[if_true,Option.some.injEq,Prod.mk.injEq]at hs;exact hs.1
        .rw [if_neg hb]at hs;split at hs
         .simp only [Option.some.injEq,Prod.mk.injEq]at hs;exact hs.1
         .cases hs
       subst hvv;rw[if_pos (Zzs hv _ _),if_pos];rw[List.all_eq_true]at hids ⊢;intro i hi;have:=hids i hi;simp only[Bool.and_eq_true]at this;simp only[Bool.not_false,Bool.true_and];have h2:=this.2;split at h2
       .rename_i Zc g own xs hg;rw[hg];cases own<;>simp[Zzr hv]
       .cases h2
      .rw [if_neg ha]at hs;cases hs
    cases x with
    |exit=>simp only at h0;cases h0
    |normal=>
     simp only at h0 ⊢;cases Wv:Us C Yw h2 fn.results.toList with
     |none=>rw[Wv]at h0;cases h0
     |some vs=>rw[Wv]at h0;exact key vs h0
    |ret=>
     simp only at h0 ⊢;cases Wv:Us C Yw h2 fn.results.toList with
     |none=>rw[Wv]at h0;cases h0
     |some vs=>rw[Wv]at h0;exact key vs h0
theorem Zvc {C:Ctx}{f g:Nat}{x:PV}{ys:List PV}{v:PV}(hA:Xn C f [x,.lst g ys] v)(hv:Zdt v=true)(hx:Zdt x=true)(Xk:C.raw f=false):
  ∀(K:Loc) (h:PH) (i Zc n:Nat) (own:Bool),K.lo<=i->h.get i=some (Zc,.row g own ys)->n=ys.length->Yv C K f [x,.own i Zc g 0 n] h=some (v,h):=by
 intro K h i Zc n own hK hg hn;have h1:inlV h x=some x:=by cases x<;>simp_all[Zdt]
 have h2:ownV x=[]:=by cases x<;>simp_all[Zdt]
 have h3:refs 3 x=[]:=by cases x<;>simp_all[Zdt]
 refine Zoo hA hv Xk ?_ rfl ?_ ?_ ?_
 .rw [Z3q,h1];simp[hg,hn]
 .rw [List.flatMap_cons,h2];rfl
 .rw [List.flatMap_cons,h3];rfl
 .rw [List.flatMap_cons,h2];simp[hg,hK]
def Za6:Code->List Nat
 | .region _ ops _=>ops.toList.filterMap (·.dst)
 | .seq a b=>Za6 a++Za6 b
 | .cond _ a b=>Za6 a++Za6 b
 | .block _ b=>Za6 b
 | .loop b=>Za6 b
 | _=>[]
theorem U5 {sl:Yu}{d:Option Nat}{v:PV}{t:Nat}(h:d≠some t):putP sl d v t=sl t:=by
 cases d with
 |none=>rfl
 |some d=>
  show (if t=d then some v else sl t)=sl t;rw[if_neg];rintro rfl;exact h rfl
theorem Zni {sl Yw:Yu}{t:Nat}(h:Yw t=sl t):Zdq sl Yw t=sl t:=by
 unfold Zdq;cases hs:sl t with
 |none=>rfl
 |some v=>simp only;rw[h,hs]
section
variable {C:Ctx}{cf:CF}{yf:YF}{K:Loc}
theorem Zgy {all:List Oper}{t:Nat}:∀ {l:List Oper} {sl:Yu} {h:PH} {r:Yu×PH},Zbg C cf yf K all l sl h=some r->t∉l.filterMap (·.dst)->r.1 t=sl t
 | [],sl,h,r,he,ht=>by simp only[Zbg,Option.some.injEq]at he;subst he;rfl
 |o::l,sl,h,r,he,ht=>by
  have h1:o.dst≠some t:=by
   intro e;exact ht (List.mem_filterMap.2 ⟨o,List.mem_cons_self,e⟩)
  have h2:t∉l.filterMap (·.dst):=by
   intro e;obtain⟨o',hm,e'⟩:=List.mem_filterMap.1 e;exact ht (List.mem_filterMap.2 ⟨o',List.mem_cons_of_mem _ hm,e'⟩)
  simp only[Zbg]at he;split at he
  .split at he
   .rw [Zgy he h2,U5 h1]
   .cases he
  .rw [Zgy he h2,U5 h1]
  .cases he
theorem Zuw {all:List Oper}{masks:Array Nat}{o:Oper}{i:Nat}{s s':PD}{t:Nat}(he:Zdm C cf yf K all masks o i s=some s')(ht:o.dst≠some t):s'.sl t=s.sl t:=by
 unfold Zdm at he;dsimp only at he;split at he
 .cases he
 .simp only [Option.some.injEq]at he;subst he;exact U5 ht
 .split at he
  .split at he
   .simp only [Option.some.injEq]at he;subst he;exact U5 ht
   .cases he
  .split at he
   .split at he
    .simp only [Option.some.injEq]at he;subst he;exact U5 ht
    .rename_i d _ hd;simp only[Option.some.injEq]at he;subst he;rw[hd]at ht;exact U5 (d:=some d) ht
    .cases he
   .split at he
    .unfold Z06 at he;split at he
     .split at he
      .simp only [Option.some.injEq]at he;subst he;exact U5 ht
      .cases he
     .split at he
      .simp only [Option.some.injEq]at he;subst he;exact U5 ht
      .cases he
    .cases he
theorem Zks {all:List Oper}{masks:Array Nat}{t:Nat}:∀ {l:List Oper} {i:Nat} {s s':PD},Qz C cf yf K all masks l i s=some s'->t∉l.filterMap (·.dst)->s'.sl t=s.sl t
 | [],i,s,s',he,ht=>by simp only[Qz,Option.some.injEq]at he;subst he;rfl
 |o::l,i,s,s',he,ht=>by
  have h1:o.dst≠some t:=by
   intro e;exact ht (List.mem_filterMap.2 ⟨o,List.mem_cons_self,e⟩)
  have h2:t∉l.filterMap (·.dst):=by
   intro e;obtain⟨o',hm,e'⟩:=List.mem_filterMap.1 e;exact ht (List.mem_filterMap.2 ⟨o',List.mem_cons_of_mem _ hm,e'⟩)
  simp only[Qz]at he;split at he
  .rename_i s1 hs1;rw[Zks he h2,Zuw hs1 h1]
  .cases he
end
theorem Vg {C:Ctx}{t:Nat}:∀(n:Nat) {K:Loc} {Xy:Bool} {c:Code} {sl:Yu} {h:PH} {x:Ex} {Yw:Yu} {h':PH},exec C n K Xy c sl h=some (x,Yw,h')->t∉Za6 c->Yw t=sl t
 | 0,K,Xy,c,sl,h,x,Yw,h',he,ht=>by simp only[exec]at he;cases he
 |n+1,K,Xy,c,sl,h,x,Yw,h',he,ht=>by
  cases c with
  |skip=>simp only[exec,Option.some.injEq,Prod.mk.injEq]at he;rw[<- he.2.1]
  |region id ops draw=>
   cases draw with
   |true=>
    simp only[exec,if_true,Option.map_eq_some_iff,Zcw]at he;obtain⟨⟨s1,h1⟩,⟨s,hs,e1⟩,e2⟩:=he;simp only[Prod.mk.injEq]at e1 e2;rw[<- e2.2.1,<- e1.1];exact Zks hs ht
   |false=>
    simp only[exec,Bool.false_eq_true,if_false,Option.map_eq_some_iff]at he;obtain⟨⟨s1,h1⟩,hs,e2⟩:=he;simp only[Prod.mk.injEq]at e2;rw[<- e2.2.1];exact Zgy hs ht
  |seq a b=>
   simp only[Za6,List.mem_append,not_or]at ht;simp only[exec]at he;split at he
   .rename_i Q5 h1 ha;rw[Vg n he ht.2,Vg n ha ht.1]
   .rename_i Yi;exact Vg n he ht.1
  |cond c a b=>
   simp only[Za6,List.mem_append,not_or]at ht;simp only[exec]at he;split at he
   .exact Vg n he ht.1
   .exact Vg n he ht.2
   .cases he
  |block id b=>
   simp only[Za6]at ht;simp only[exec]at he;split at he
   .rename_i id' Q5 h1 hb;have:=Vg n hb ht;split at he
    .simp only [Option.some.injEq,Prod.mk.injEq]at he;rw[<- he.2.1];exact this
    .simp only [Option.some.injEq,Prod.mk.injEq]at he;rw[<- he.2.1];exact this
   .exact Vg n he ht
  |loop b=>
   simp only[Za6]at ht;simp only[exec]at he;split at he
   .rename_i Q5 h1 hb;rw[Vg n he (by simpa only[Za6]using ht)];exact Zni (Vg n hb ht)
   .exact Vg n he ht
  |exit id=>simp only[exec,Option.some.injEq,Prod.mk.injEq]at he;rw[<- he.2.1]
  |ret=>simp only[exec,Option.some.injEq,Prod.mk.injEq]at he;rw[<- he.2.1]
  |rangeFunc f ps assign body=>
   simp only[exec]at he;split at he
   .split at he
    .split at he
     .split at he
      .split at he
       .simp only [Option.some.injEq,Prod.mk.injEq]at he;rw[<- he.2.1]
       .cases he
      .cases he
     .cases he
    .cases he
   .cases he
  |scope b=>simp only[exec]at he;cases he
  |label l=>simp only[exec]at he;cases he
  |goto l=>simp only[exec]at he;cases he
  |refuse w=>simp only[exec]at he;cases he
theorem Z42 {C:Ctx}{t:Nat}{K:Loc}{Xy:Bool}{c:Code}{sl:Yu}{h:PH}{x:Ex}{Yw:Yu}{h':PH}(he:Vl C K Xy c sl h=some (x,Yw,h'))(ht:t∉Za6 c):Yw t=sl t:=by
 obtain⟨n,hn⟩:=X0.1 he;exact Vg n hn ht
def Zxp (sl Ud:Yu):List Nat->Prop
 | []=>True
 |t::r=>sl t=Ud t/\Zxp sl Ud r
@[simp] theorem Zapj {sl Ud:Yu}:Zxp sl Ud []=True:=rfl
@[simp] theorem Zamz {sl Ud:Yu}{t:Nat}{r:List Nat}:Zxp sl Ud (t::r)=(sl t=Ud t/\Zxp sl Ud r):=rfl
theorem Zry {sl Ud:Yu}:∀ {F:List Nat},(∀t,t∈F->sl t=Ud t)->Zxp sl Ud F
 | [],_=>trivial
 |t::r,h=>⟨h t List.mem_cons_self,Zry fun u hu=>h u (List.mem_cons_of_mem _ hu)⟩
theorem Zuy {sl Ud:Yu}:∀ {F:List Nat},Zxp sl Ud F->∀t,t∈F->sl t=Ud t
 | [],_,t,ht=>by cases ht
 |u::r,h,t,ht=>by
  rcases List.mem_cons.1 ht with rfl | ht
  .exact h.1
  .exact Zuy h.2 t ht
theorem Zl {C:Ctx}{K:Loc}{Xy:Bool}{b:Code}{Q:Ex×Yu×PH->Prop}{Ud:Yu}{h0:PH}(F:List Nat)
  (I:Nat->Yu->PH->Prop) (n0:Nat) (hF:F.all (fun t=>!(Za6 b).contains t)=true) (h00:I n0 Ud h0)
  (step:∀n sl h,Zxp sl Ud F->I n sl h->wp (Vl C K Xy b sl h) fun r=>match r with | (.normal,Yw,h')=>∃m,m < n/\I m (Zdq sl Yw) h' | r=>Q r):
  wp (Vl C K Xy (.loop b) Ud h0) Q:=by
 refine Zud (fun n sl h=>Zxp sl Ud F/\I n sl h) ?_ n0 Ud h0 ⟨Zry fun _ _=>rfl,h00⟩;rintro n sl h ⟨hf,hi⟩;have hs:=step n sl h hf hi;obtain⟨⟨x,Yw,h'⟩,he,hq⟩:=Y9.1 hs;refine Y9.2 ⟨_,he,?_⟩
 have hb:∀t,t∈F->t∉Za6 b:=fun t ht=>by
  have:=List.all_eq_true.1 hF t ht;simpa using this
 cases x with
 |normal=>
  obtain⟨m,hm,hI⟩:=hq;refine⟨m,hm,Zry fun t ht=>?_,hI⟩;rw[Zni (Z42 he (hb t ht)),Zuy hf t ht]
 |exit id=>exact hq
 |ret=>exact hq
def L (g:Nat)(b:Bool)(xs:List PV):PV:=if b&&xs.isEmpty then .nils else .lst g xs
theorem Wi {g:Nat}:L g true []=.nils:=rfl
theorem Zbz {g:Nat}{xs:List PV}:L g false xs=.lst g xs:=rfl
theorem Xs {g:Nat}{b:Bool}{x:PV}{xs:List PV}:L g b (x::xs)=.lst g (x::xs):=by simp[L]
theorem Zxq (g:Nat)(b:Bool)(xs:List PV):(L g b xs=.nils/\b=true/\xs=[])\/(L g b xs=.lst g xs/\(b&&xs.isEmpty)=false):=by
 unfold L;cases h:(b&&xs.isEmpty)
 .exact Or.inr ⟨rfl,rfl⟩
 .simp at h;exact Or.inl ⟨rfl,h.1,h.2⟩
section
variable {g:Nat}{b:Bool}{xs:List PV}
@[simp high] theorem Zaop:Zd (L g b xs)=[L g b xs]:=by unfold L;split<;>rfl
@[simp high] theorem Zavk:Wy (L g b xs)=true:=by unfold L;split<;>rfl
@[simp high] theorem Zawe {h:PH}:Qw h (L g b xs)=some (L g b xs):=by unfold L;split<;>rfl
@[simp high] theorem Zawc {h:PH}:inlV h (L g b xs)=some (L g b xs):=by unfold L;split<;>rfl
@[simp high] theorem Zawd {h:PH}:inlT h (L g b xs)=some (L g b xs):=by unfold L;split<;>rfl
@[simp high] theorem Zav3:Sd (L g b xs)=[]:=by unfold L;split<;>rfl
@[simp high] theorem Zav1:ownV (L g b xs)=[]:=by unfold L;split<;>rfl
@[simp high] theorem Zav2:ownT (L g b xs)=[]:=by unfold L;split<;>rfl
@[simp high] theorem Zavx {n:Nat}:refs n (L g b xs)=[]:=by unfold L;split<;>cases n<;>rfl
@[simp high] theorem Zavl {m n:Nat}:below m n (L g b xs)=true:=by unfold L;split<;>cases n<;>rfl
@[simp high] theorem Zat3 {n:Nat}:plain n (L g b xs)=true:=by unfold L;split<;>cases n<;>rfl
@[simp high] theorem Zat1 {n:Nat}:W8 n (L g b xs)=true:=by unfold L;split<;>cases n<;>rfl
@[simp high] theorem Zavi {h:PH}:h.elems g (L g b xs)=some xs:=by
 unfold L;split
 .rename_i h;simp at h;simp[PH.elems,h.2]
 .simp [PH.elems]
end
attribute [simp] eqP Zpd.eq_1 Zpd.eq_2 Zpd.eq_3 Zpd.eq_4 Zr6 Zys Zq8
def lenK (k:TK)(v:PV):Option PV:=match k,v with
 | .str,.str s=>some (.int .i64 s.length)
 | .slice _,.nils=>some (.int .i64 0)
 | .slice _,.lst _ xs=>some (.int .i64 xs.length)
 | .slice _,.own _ _ _ _ n=>some (.int .i64 n)
 | .map _ _,.nilm=>some (.int .i64 0)
 | _,_=>none
def Zpi (C:Ctx)(k:TK)(v i:PV):Option PV:=match i with
 | .int _ i=>match k,v with
   | .slice e,.lst g xs=>
     match C.T e with
     |some te=>if e=g/\0<=i/\i < xs.length then (xs[i.toNat]?).map fun x=>.rptr (Zd x) else none
     |none=>none
   | .array n e,.ptr b v o=>
     match C.T e with
     |some te=>if 0<=i/\i < n then some (.ptr b v (o+i.toNat*te.size)) else none
     |none=>none
   | .array n e,.rptr cs=>
     match C.T e with
     |some te=>if 0<=i/\i < n/\i.toNat*te.size+te.size<=cs.length then some (.rptr (cs.drop (i.toNat*te.size))) else none
     |none=>none
   | _,_=>none
 | _=>none
def Z8b (C:Ctx)(h:PH)(k:TK)(v i:PV):Option (PV×PH):=match v,i with
 | .own b Zc g off len,.int _ i=>match k with
   | .slice e=>match C.T e,h.row b Zc g with
     |some te,some (_,xs)=>if e=g/\0<=i/\i < len/\off+len<=xs.length then some (.eptr b Zc g (off+i.toNat) 0,h) else none
     | _,_=>none
   | _=>none
 | _,_=>none
def Z78 (C:Ctx)(k:TK)(v i:PV):Option PV:=match i with
 | .int _ i=>match k,v with
   | .array n e,.agg cs=>
     match C.T e with
     |some te=>if 0<=i/\i < n then (X6 cs (i.toNat*te.size) te.size).bind (toP te.k.agg) else none
     |none=>none
   | .str,.str s=>if 0<=i then (s[i.toNat]?).map fun (b:Nat)=>.int .u8 (b:Int) else none
   | _,_=>none
 | _=>none
def Zrw (C:Ctx)(k:TK)(v:PV)(lo hi:Option PV):Option PV:=match k,v with
 | .str,.str s=>(X1 s.length lo hi).map fun (l,u)=>.str ((s.drop l).take (u - l))
 | .slice e,.nils=>match C.T e,X1 0 lo hi with
   |some _,some _=>some .nils
   | _,_=>none
 | .slice e,.lst g xs=>match C.T e,X1 xs.length lo hi with
   |some te,some (l,u)=>if e=g then some (.lst g ((xs.drop l).take (u - l))) else none
   | _,_=>none
 | _,_=>none
def sliO (C:Ctx)(h:PH)(k:TK)(v:PV)(lo hi:Option PV):Option (PV×PH):=match v with
 | .own i Zc g off len=>match k with
   | .slice e=>match C.T e,X1 len lo hi,h.row i Zc g with
     |some te,some (l,u),some _=>if e=g then some (.own i Zc g (off+l) (u - l),h) else none
     | _,_,_=>none
   | _=>none
 | _=>none
def Z1d (T:Ty)(v:PV):Option PV:=match v with
 | .rptr cs=>(X6 cs 0 T.size).bind (toP T.k.agg)
 | _=>none
def Zvv (h:PH)(T:Ty)(v:PV):Option (PV×PH):=match v with
 | .ptr i Zc off=>match h.get i with
   |some (v,.cells cs)=>if v=Zc then ((X6 cs off T.size).bind (toP T.k.agg)).map (·,h) else none
   | _=>none
 | .eptr i Zc g ix off=>match h.row i Zc g with
   |some (_,xs)=>match xs[ix]? with
    |some x=>((X6 (Zd x) off T.size).bind (toP T.k.agg)).map (·,h)
    |none=>none
   |none=>none
 | _=>none
def Zmo (K:Loc)(h:PH)(T:Ty)(a v:PV):Option (PV×PH):=match a with
 | .ptr i Zc off=>
   if (Zd v).length=T.size/\(Zd v).all Wy=true/\can K i=true then
    match h.get i with
    |some (w,.cells cs)=>if w=Zc then (Ym cs off (Zd v)).map fun cs=>(.tuple [],h.put i Zc (.cells cs)) else none
    | _=>none
   else none
 | .eptr i Zc g ix off=>match inlV h v with
   |none=>none
   |some v'=>
    if (Zd v').length=T.size/\(Zd v').all Wy=true/\(Zd v').all (plain 3)=true/\can K i=true/\(ownV v).all (can K)=true then
     match (h.freeze (ownV v)).row i Zc g with
     |some (true,xs)=>match xs[ix]? with
      |some x=>(S9 x off (Zd v')).map fun x=>(.tuple [],(h.freeze (ownV v)).put i Zc (.row g true (xs.set ix x)))
      |none=>none
     | _=>none
    else none
 | _=>none
def mksK (C:Ctx)(k:TK)(n m:PV):Option Mk:=match n,m with
 | .int _ n,.int _ m=>match k with
   | .slice e=>match C.T e with
     |some te=>if 0<=n/\n<=m/\m<=Virt.maxLenV/\te.bytes<=2^16 then
       match Zak te with
       |some z=>if (Zd z).length=te.size/\(Zd z).all Wy=true/\plain 4 z=true then some (.slice e n.toNat (.row e true (List.replicate n.toNat z))) else none
       |none=>none
      else none
     |none=>none
   | _=>none
 | _,_=>none
def Zxj (C:Ctx)(K:Loc)(h:PH)(d:Nat)(k k':TK)(s x:PV):Option (PV×PH):=match k with
 | .slice e=>match C.T e with
   |some ty=>match k' with
    | .int _=>match s,x with
      | .nils,.int _ n=>
        if 0<=n/\n<=Virt.maxLenV/\ty.bytes<=2^16/\0 < ty.size then
         if n=0 then some (.nils,h) else
         match Zak ty with
         |some z=>if (Zd z).length=ty.size/\(Zd z).all Wy=true/\plain 4 z=true then some (.own (K.base+d) (h.stamp (K.base+d)) e 0 n.toNat,h.put (K.base+d) (h.stamp (K.base+d)) (.row e true (List.replicate n.toNat z))) else none
         |none=>none
        else none
      | _,_=>none
    | _=>match x with
      | .str b=>if ty.size=1 then Xq K h d e ty b.length (b.map fun (b:Nat)=>.int .u8 (b:Int)) s else none
      | _=>match h.elems e x with
        |some ys=>Xq K h d e ty ys.length ys s
        |none=>none
   |none=>none
 | _=>none
def copK (C:Ctx)(K:Loc)(h:PH)(d:Nat)(k k':TK)(s x:PV):Option (PV×PH):=match k with
 | .slice e=>match C.T e with
   |some ty=>match k' with
    | .int _=>match s,x with
      | .nils,.int _ n=>
        if 0<=n/\n<=Virt.maxLenV/\ty.bytes<=2^16/\0 < ty.size then
         if n=0 then some (.nils,h) else
         match Zak ty with
         |some z=>if (Zd z).length=ty.size/\(Zd z).all Wy=true/\plain 4 z=true then some (.own (K.base+d) (h.stamp (K.base+d)) e 0 n.toNat,h.put (K.base+d) (h.stamp (K.base+d)) (.row e true (List.replicate n.toNat z))) else none
         |none=>none
        else none
      | _,_=>none
    | _=>match x with
      | .str b=>if ty.size=1 then Xq K h d e ty b.length (b.map fun (b:Nat)=>.int .u8 (b:Int)) s else none
      | _=>match h.elems e x with
        |some ys=>Zla h e ty ys s
        |none=>none
   |none=>none
 | _=>none
def Z5b (k k':TK)(v:PV):Option PV:=match k,k',v with
 | _,.int k,.int _ n=>some (.int k (k.wrap n))
 | _,.str,.str s=>some (.str s)
 | _,_,_=>none
def Z5a (C:Ctx)(K:Loc)(h:PH)(d:Option Nat)(k k':TK)(v:PV):Option (PV×PH):=match k,k',v with
 | .str,.slice e,.str s=>
   match C.T e,d with
   |some te,some d=>match te.k with
    | .int .u8=>if s.length<=Virt.maxLenV/\te.size=1 then some (.own (K.base+d) (h.stamp (K.base+d)) e 0 s.length,h.put (K.base+d) (h.stamp (K.base+d)) (.row e true (s.map fun (b:Nat)=>.int .u8 (b:Int)))) else none
    | _=>none
   | _,_=>none
 | .slice e,.str,v=>
   match C.T e with
   |some te=>match te.k with
    | .int .u8=>if te.size=1 then ((h.elems e v).bind Zh.bytesP).map fun b=>(.str b,h) else none
    | _=>none
   |none=>none
 | _,_,_=>none
section
variable {C:Ctx}{cf:CF}{yf:YF}{K:Loc}{all:List Oper}{sl:Yu}{h:PH}{d:Option Nat}{ty:TypeId}{pos:String}{af:Array Edge}{gd:Option (Nat×Bool)}{x y ix:Operand}{t t':TypeId}
@[simp high] theorem Zatc {ats:Array TypeId}:Yj C sl ⟨d,.call ⟨.builtin .len,#[x],ats⟩,ty,pos,af,gd⟩=bO (Yx sl x) fun v=>bO ((ats[0]?).bind C.T) fun T=>lenK T.k v:=by
 simp only[Yj,Zax,Zjs];cases Yx sl x with
 |none=>rfl
 |some v=>
  simp only[Xw];cases (ats[0]?).bind C.T with
  |none=>rfl
  |some T=>rfl
@[simp high] theorem Ze0:Yj C sl ⟨d,.indexAddr t x ix,ty,pos,af,gd⟩=bO (C.T t) fun T=>bO (Yx sl x) fun v=>bO (Yx sl ix) fun i=>Zpi C T.k v i:=by
 simp only[Yj];cases C.T t<;>cases Yx sl x<;>cases hi:Yx sl ix<;>try rfl
 rename_i i;cases i<;>rfl
@[simp high] theorem Qv:Zh C cf yf all K sl h ⟨d,.indexAddr t x ix,ty,pos,af,gd⟩=bO (C.T t) fun T=>bO (Yx sl x) fun v=>bO (Yx sl ix) fun i=>Z8b C h T.k v i:=by
 simp only[Zh];cases C.T t<;>cases Yx sl x<;>cases Yx sl ix<;>try rfl
 .rename_i v;cases v<;>rfl
 .rename_i v i;cases v<;>cases i<;>rfl
@[simp high] theorem Zn7:Yj C sl ⟨d,.index t x ix,ty,pos,af,gd⟩=bO (C.T t) fun T=>bO (Yx sl x) fun v=>bO (Yx sl ix) fun i=>Z78 C T.k v i:=by
 simp only[Yj];cases C.T t<;>cases Yx sl x<;>cases hi:Yx sl ix<;>try rfl
 rename_i i;cases i<;>rfl
@[simp high] theorem Zn6 {lo hi:Option Operand}:Yj C sl ⟨d,.slice t x lo hi none,ty,pos,af,gd⟩=bO (C.T t) fun T=>bO (Yx sl x) fun v=>bO (Rc sl lo) fun l=>bO (Rc sl hi) fun u=>Zrw C T.k v l u:=by
 simp only[Yj];cases C.T t<;>cases Yx sl x<;>try rfl
 simp only[Xw];cases Rc sl lo<;>cases Rc sl hi<;>try rfl
@[simp high] theorem Zd9 {lo hi:Option Operand}:Zh C cf yf all K sl h ⟨d,.slice t x lo hi none,ty,pos,af,gd⟩=bO (C.T t) fun T=>bO (Yx sl x) fun v=>bO (Rc sl lo) fun l=>bO (Rc sl hi) fun u=>sliO C h T.k v l u:=by
 simp only[Zh];cases C.T t<;>cases Yx sl x<;>try rfl
 rename_i T v;simp only[Xw];cases v<;>cases Rc sl lo<;>cases Rc sl hi<;>rfl
@[simp high] theorem Zq3:Yj C sl ⟨d,.load t x,ty,pos,af,gd⟩=bO (C.T t) fun T=>bO (Yx sl x) fun v=>Z1d T v:=by
 simp only[Yj];cases C.T t<;>cases Yx sl x<;>try rfl
 rename_i T v;cases v<;>rfl
@[simp high] theorem Zmq:Zh C cf yf all K sl h ⟨d,.load t x,ty,pos,af,gd⟩=bO (C.T t) fun T=>bO (Yx sl x) fun v=>Zvv h T v:=by
 simp only[Zh];cases C.T t<;>cases Yx sl x<;>try rfl
 rename_i T v;cases v<;>rfl
@[simp high] theorem Zkq:Zh C cf yf all K sl h ⟨d,.store t x y,ty,pos,af,gd⟩=bO (C.T t) fun T=>bO (Yx sl x) fun a=>bO (Yx sl y) fun v=>Zmo K h T a v:=by
 simp only[Zh];cases C.T t<;>cases Yx sl x<;>cases Yx sl y<;>try rfl
 .rename_i a;cases a<;>rfl
 .rename_i T a v;cases a<;>rfl
@[simp high] theorem Zeo {l c:Operand}:V6 C all sl ⟨d,.makeSlice t l c,ty,pos,af,gd⟩=bO (C.T t) fun T=>bO (Yx sl l) fun n=>bO (Yx sl c) fun m=>mksK C T.k n m:=by
 simp only[V6];cases C.T t<;>cases Yx sl l<;>cases Yx sl c<;>try rfl
 .rename_i n;cases n<;>rfl
 .rename_i T n m;cases n<;>cases m<;>rfl
@[simp high] theorem Zacu {ats:Array TypeId}{dd:Nat}:Zh C cf yf all K sl h ⟨some dd,.call ⟨.builtin .append,#[x,y],ats⟩,ty,pos,af,gd⟩=bO (Yx sl x) fun s=>bO (Yx sl y) fun v=>bO ((ats[0]?).bind C.T) fun T=>bO ((ats[1]?).bind C.T) fun T'=>if Znf all x dd=true then copK C K h dd T.k T'.k s v else Zxj C K h dd T.k T'.k s v:=by
 simp only[Zh,Zax,Zjs];cases Yx sl x with
 |none=>rfl
 |some s=>
  simp only[Xw,Zax,Zjs];cases Yx sl y with
  |none=>rfl
  |some v=>
   simp only[Xw];cases (ats[0]?).bind C.T with
   |none=>rfl
   |some T=>
    cases (ats[1]?).bind C.T with
    |none=>rfl
    |some T'=>
     simp only[Xw,Zxj,copK];have e0:(((#[x,y]:Array Operand)[0]?).any fun a=>Znf all a dd)=Znf all x dd:=rfl;rw[e0];cases Znf all x dd<;>simp only[if_true,Bool.false_eq_true,if_false]<;>cases hk:T.k<;>rfl
attribute [simp] Z3r
@[simp] theorem Zap1 {all:List Oper}{t d:Nat}:Znf all (.tmp t) d=false:=rfl
@[simp] theorem Zap2 {all:List Oper}{a c d:Nat}:Znf all (.const (.slice none a c)) d=Z3r all d:=rfl
@[simp high] theorem Zit:Yj C sl ⟨d,.convert t t' x,ty,pos,af,gd⟩=bO (C.T t) fun T=>bO (C.T t') fun T'=>bO (Yx sl x) fun v=>Z5b T.k T'.k v:=by
 simp only[Yj];cases C.T t<;>cases C.T t'<;>cases Yx sl x<;>rfl
@[simp high] theorem Zb2:Zh C cf yf all K sl h ⟨d,.convert t t' x,ty,pos,af,gd⟩=bO (C.T t) fun T=>bO (C.T t') fun T'=>bO (Yx sl x) fun v=>Z5a C K h d T.k T'.k v:=by
 simp only[Zh];cases C.T t<;>cases C.T t'<;>cases Yx sl x<;>rfl
end
section
variable {C:Ctx}{K:Loc}{h:PH}{g e:Nat}{b:Bool}{xs:List PV}{k:IntKind}{i:Int}
@[simp] theorem Zap4 {s:List Nat}:lenK .str (.str s)=some (.int .i64 s.length):=rfl
@[simp] theorem Zand:lenK (.slice e) .nils=some (.int .i64 0):=rfl
@[simp] theorem Zap7:lenK (.slice e) (.lst g xs)=some (.int .i64 xs.length):=rfl
@[simp] theorem Zap5 {i v o n:Nat}:lenK (.slice e) (.own i v g o n)=some (.int .i64 n):=rfl
@[simp] theorem Zav6:lenK (.slice e) (L g b xs)=some (.int .i64 xs.length):=by
 rcases Zxq g b xs with⟨e,_,rfl⟩ | ⟨e,_⟩<;>rw[e]<;>rfl
@[simp] theorem Zane {a c:Nat}:lenK (.map a c) .nilm=some (.int .i64 0):=rfl
@[simp] theorem Zap6 {a c j v:Nat}:lenK (.map a c) (.map j v)=none:=rfl
@[simp] theorem Z8d (hg:(C.T g).isSome=true)(h0:0<=i)(h1:i < xs.length):Zpi C (.slice g) (.lst g xs) (.int k i)=some (.rptr (Zd (xs[i.toNat]'(by omega)))):=by
 obtain⟨T,hT⟩:=Option.isSome_iff_exists.1 hg;have hl:i.toNat < xs.length:=by omega
 simp only[Zpi,hT,h0,h1,and_self,if_true,List.getElem?_eq_getElem hl,Option.map_some]
@[simp] theorem Zawg (hg:(C.T g).isSome=true)(h0:0<=i)(h1:i < xs.length):Zpi C (.slice g) (L g b xs) (.int k i)=some (.rptr (Zd (xs[i.toNat]'(by omega)))):=by
 rcases Zxq g b xs with⟨e,_,rfl⟩ | ⟨e,_⟩
 .simp at h1;omega
 .rw [e];exact Z8d hg h0 h1
@[simp] theorem Z8c {j v o n:Nat}{x:PV}:Zpi C (.slice e) (.own j v g o n) x=none:=by cases x<;>rfl
@[simp] theorem Zaqm {n a v o:Nat}:Zpi C (.array n e) (.ptr a v o) (.int k i)=bO (C.T e) fun te=>if 0<=i/\i < n then some (.ptr a v (o+i.toNat*te.size)) else none:=by
 simp only[Zpi];cases C.T e<;>rfl
@[simp] theorem Zanj {n:Nat}{cs:List PV}:Zpi C (.array n e) (.rptr cs) (.int k i)=bO (C.T e) fun te=>if 0<=i/\i < n/\i.toNat*te.size+te.size<=cs.length then some (.rptr (cs.drop (i.toNat*te.size))) else none:=by
 simp only[Zpi];cases C.T e<;>rfl
def Z1g (h:PH)(a Zc g off len:Nat)(i:Int)(n:Nat):Option (PV×PH):=if 0<=i/\i < len/\off+len<=n then some (.eptr a Zc g (off+i.toNat) 0,h) else none
@[simp] theorem Z8a {a Zc off len n:Nat}(h0:0<=i)(h1:i < len)(h2:off+len<=n):Z1g h a Zc g off len i n=some (.eptr a Zc g (off+i.toNat) 0,h):=by
 rw[Z1g,if_pos ⟨h0,h1,h2⟩]
@[simp] theorem Z79 {a Zc off len:Nat}(hg:(C.T g).isSome=true):Z8b C h (.slice g) (.own a Zc g off len) (.int k i)=bO (h.row a Zc g) fun p=>Z1g h a Zc g off len i p.2.length:=by
 obtain⟨T,hT⟩:=Option.isSome_iff_exists.1 hg;simp only[Z8b,hT];cases h.row a Zc g with
 |none=>rfl
 |some p=>simp only[Xw,Z1g,true_and]
@[simp] theorem Zaql {s:List Nat}(h0:0<=i)(h1:i < s.length):Z78 C .str (.str s) (.int k i)=some (.int .u8 ((s[i.toNat]'(by omega):Nat):Int)):=by
 have hl:i.toNat < s.length:=by omega
 simp only[Z78,h0,if_true,List.getElem?_eq_getElem hl,Option.map_some]
@[simp] theorem Zajn {n:Nat}{cs:List PV}:Z78 C (.array n e) (.agg cs) (.int k i)=bO (C.T e) fun te=>if 0<=i/\i < n then (X6 cs (i.toNat*te.size) te.size).bind (toP te.k.agg) else none:=by
 simp only[Z78];cases C.T e<;>rfl
@[simp] theorem Zapg {s:List Nat}{lo hi:Option PV}:Zrw C .str (.str s) lo hi=bO (X1 s.length lo hi) fun p=>some (.str ((s.drop p.1).take (p.2 - p.1))):=by
 simp only[Zrw];cases X1 s.length lo hi<;>rfl
@[simp] theorem Z27 {lo hi:Option PV}(hg:(C.T e).isSome=true):Zrw C (.slice e) .nils lo hi=bO (X1 0 lo hi) fun p=>some .nils:=by
 obtain⟨T,hT⟩:=Option.isSome_iff_exists.1 hg;simp only[Zrw,hT];cases X1 0 lo hi<;>rfl
@[simp] theorem Z6t {lo hi:Option PV}(hg:(C.T g).isSome=true):Zrw C (.slice g) (.lst g xs) lo hi=bO (X1 xs.length lo hi) fun p=>some (.lst g ((xs.drop p.1).take (p.2 - p.1))):=by
 obtain⟨T,hT⟩:=Option.isSome_iff_exists.1 hg;simp only[Zrw,hT];cases X1 xs.length lo hi with
 |none=>rfl
 |some p=>simp only[if_true,Xw]
@[simp] theorem Zavt {lo hi:Option PV}(hg:(C.T g).isSome=true):Zrw C (.slice g) (L g b xs) lo hi=bO (X1 xs.length lo hi) fun p=>some (L g (b&&xs.isEmpty) ((xs.drop p.1).take (p.2 - p.1))):=by
 rcases Zxq g b xs with⟨e,rfl,rfl⟩ | ⟨e,e2⟩
 .rw [e,Z27 hg];simp only[List.length_nil,List.drop_nil,List.take_nil];cases X1 0 lo hi<;>simp[L]
 .rw [e,Z6t hg,e2];rfl
@[simp] theorem Zaph {j v o n:Nat}{lo hi:Option PV}:Zrw C (.slice e) (.own j v g o n) lo hi=none:=rfl
@[simp] theorem Zapf {j v o n:Nat}{lo hi:Option PV}(hg:(C.T g).isSome=true):sliO C h (.slice g) (.own j v g o n) lo hi=bO (X1 n lo hi) fun p=>bO (h.row j v g) fun _=>some (.own j v g (o+p.1) (p.2 - p.1),h):=by
 obtain⟨T,hT⟩:=Option.isSome_iff_exists.1 hg;simp only[sliO,hT];cases X1 n lo hi<;>cases h.row j v g<;>simp
@[simp] theorem Zai9 {T:Ty}{cs:List PV}:Z1d T (.rptr cs)=(X6 cs 0 T.size).bind (toP T.k.agg):=rfl
@[simp] theorem Zanc {T:Ty}{i v o:Nat}:Z1d T (.ptr i v o)=none:=rfl
@[simp] theorem Zaja {T:Ty}{i v g ix o:Nat}:Z1d T (.eptr i v g ix o)=none:=rfl
def Z7n (h:PH)(T:Ty)(Zc off:Nat)(p:Nat×PO):Option (PV×PH):=match p with
 | (v,.cells cs)=>if v=Zc then ((X6 cs off T.size).bind (toP T.k.agg)).map (·,h) else none
 | _=>none
@[simp] theorem Zag5 {T:Ty}{Zc off:Nat}{cs:List PV}:Z7n h T Zc off (Zc,.cells cs)=((X6 cs off T.size).bind (toP T.k.agg)).map (·,h):=by simp[Z7n]
@[simp] theorem Zanb {T:Ty}{i Zc off:Nat}:Zvv h T (.ptr i Zc off)=bO (h.get i) fun p=>Z7n h T Zc off p:=by
 simp only[Zvv];cases h.get i with
 |none=>rfl
 |some p=>
  obtain⟨v,o⟩:=p;cases o<;>rfl
def Z7o (h:PH)(T:Ty)(ix off:Nat)(xs:List PV):Option (PV×PH):=match xs[ix]? with
 |some x=>((X6 (Zd x) off T.size).bind (toP T.k.agg)).map (·,h)
 |none=>none
@[simp] theorem Zapz {T:Ty}{ix off:Nat}(h1:ix < xs.length):Z7o h T ix off xs=((X6 (Zd (xs[ix]'h1)) off T.size).bind (toP T.k.agg)).map (·,h):=by
 simp only[Z7o,List.getElem?_eq_getElem h1]
@[simp] theorem Zai8 {T:Ty}{i Zc ix off:Nat}:Zvv h T (.eptr i Zc g ix off)=bO (h.row i Zc g) fun p=>Z7o h T ix off p.2:=by
 simp only[Zvv];cases h.row i Zc g<;>rfl
def Zya (h:PH)(i Zc off:Nat)(v:PV)(p:Nat×PO):Option (PV×PH):=match p with
 | (w,.cells cs)=>if w=Zc then (Ym cs off (Zd v)).map fun cs=>(.tuple [],h.put i Zc (.cells cs)) else none
 | _=>none
@[simp] theorem Zact {i Zc off:Nat}{v:PV}{cs:List PV}:Zya h i Zc off v (Zc,.cells cs)=(Ym cs off (Zd v)).map fun cs=>(.tuple [],h.put i Zc (.cells cs)):=by simp[Zya]
@[simp] theorem Zaip {T:Ty}{i Zc off:Nat}{v:PV}(h1:(Zd v).length=T.size)(h2:(Zd v).all Wy=true)(h3:can K i=true):Zmo K h T (.ptr i Zc off) v=bO (h.get i) fun p=>Zya h i Zc off v p:=by
 simp only[Zmo];rw[if_pos ⟨h1,h2,h3⟩];cases h.get i with
 |none=>rfl
 |some p=>
  obtain⟨v,o⟩:=p;cases o<;>rfl
def Zyb (h:PH)(i Zc g ix off:Nat)(v:PV)(p:Bool×List PV):Option (PV×PH):=match p with
 | (true,xs)=>match xs[ix]? with
   |some x=>(S9 x off (Zd v)).map fun x=>(.tuple [],h.put i Zc (.row g true (xs.set ix x)))
   |none=>none
 | _=>none
@[simp] theorem Zamx {i Zc ix off:Nat}{v:PV}(h1:ix < xs.length):Zyb h i Zc g ix off v (true,xs)=(S9 (xs[ix]'h1) off (Zd v)).map fun x=>(.tuple [],h.put i Zc (.row g true (xs.set ix x))):=by
 simp only[Zyb,List.getElem?_eq_getElem h1]
@[simp] theorem Zagx {T:Ty}{i Zc ix off:Nat}{v:PV}(h0:ownV v=[])(h1:(Zd v).length=T.size)(h2:(Zd v).all Wy=true)(h4:(Zd v).all (plain 3)=true)(h3:can K i=true):Zmo K h T (.eptr i Zc g ix off) v=bO (h.row i Zc g) fun p=>Zyb h i Zc g ix off v p:=by
 have hi:inlV h v=some v:=by
  have hc:∀cs:List PV,cs.flatMap Sd=[]->Xe (Qw h) cs=some cs:=by
   intro cs
   induction cs with
   |nil=>intro _;rfl
   |cons c cs ih=>
    intro hh;rw[List.flatMap_cons,List.append_eq_nil_iff]at hh;simp only[Xe,ih hh.2];cases c<;>simp_all[Sd,Qw]
  cases v with
  |agg cs=>simp only[inlV];rw[hc cs h0];rfl
  |own=>simp[ownV,Sd]at h0
  | _=>rfl
 simp only[Zmo,hi,h0,List.all_nil,PH.freeze];rw[if_pos ⟨h1,h2,h4,h3,trivial⟩];cases h.row i Zc g with
 |none=>rfl
 |some p=>
  obtain⟨own,xs⟩:=p;cases own<;>rfl
def Z7i (e:Nat)(te:Ty)(n m:Int)(z:PV):Option Mk:=if 0<=n/\n<=m/\m<=Virt.maxLenV/\te.bytes<=2^16/\(Zd z).length=te.size/\(Zd z).all Wy=true/\plain 4 z=true then some (.slice e n.toNat (.row e true (List.replicate n.toNat z))) else none
@[simp] theorem Zauc {te:Ty}{n m:Int}{z:PV}(h0:0<=n)(h1:n<=m)(h2:m<=1073741824):
  Z7i e te n m z=if te.bytes<=65536/\(Zd z).length=te.size/\(Zd z).all Wy=true/\plain 4 z=true then some (.slice e n.toNat (.row e true (List.replicate n.toNat z))) else none:=by
 have h2':m<=(Virt.maxLenV:Int):=h2;by_cases h:te.bytes<=65536/\(Zd z).length=te.size/\(Zd z).all Wy=true/\plain 4 z=true
 .rw [if_pos h,Z7i,if_pos ⟨h0,h1,h2',h⟩]
 .rw [if_neg h,Z7i,if_neg (fun hh=>h hh.2.2.2)]
@[simp] theorem Zai1 {n m:Int}{k':IntKind}:mksK C (.slice e) (.int k n) (.int k' m)=bO (C.T e) fun te=>bO (Zak te) fun z=>Z7i e te n m z:=by
 simp only[mksK];cases C.T e with
 |none=>rfl
 |some te=>
  simp only[Xw];cases Zak te with
  |none=>simp only[Z2c];split<;>rfl
  |some z=>
   simp only[Xw,Z7i];by_cases hc:0<=n/\n<=m/\m<=(Virt.maxLenV:Int)/\te.bytes<=2^16
   .rw [if_pos hc];by_cases hc2:(Zd z).length=te.size/\(Zd z).all Wy=true/\plain 4 z=true
    .rw [if_pos hc2,if_pos ⟨hc.1,hc.2.1,hc.2.2.1,hc.2.2.2,hc2⟩]
    .rw [if_neg hc2,if_neg (fun hh=>hc2 hh.2.2.2.2)]
   .rw [if_neg hc,if_neg (fun hh=>hc ⟨hh.1,hh.2.1,hh.2.2.1,hh.2.2.2.1⟩)]
@[simp] theorem Zal5 {d:Nat}{k':TK}{s x:PV}(hk:∀j,k'≠.int j)(hx:∀b,x≠.str b):Zxj C K h d (.slice e) k' s x=bO (C.T e) fun ty=>bO (h.elems e x) fun ys=>Xq K h d e ty ys.length ys s:=by
 simp only[Zxj];cases C.T e with
 |none=>rfl
 |some ty=>
  simp only[Xw];cases k' with
  |int j=>exact absurd rfl (hk j)
  | _=>
    cases x with
    |str b=>exact absurd rfl (hx b)
    | _=>first | rfl | (generalize PH.elems _ _ _=z;cases z<;>rfl)
@[simp] theorem Zalx {d:Nat}{k':TK}{s x:PV}(hk:∀j,k'≠.int j)(hx:∀b,x≠.str b):copK C K h d (.slice e) k' s x=bO (C.T e) fun ty=>bO (h.elems e x) fun ys=>Zla h e ty ys s:=by
 simp only[copK];cases C.T e with
 |none=>rfl
 |some ty=>
  simp only[Xw];cases k' with
  |int j=>exact absurd rfl (hk j)
  | _=>
    cases x with
    |str b=>exact absurd rfl (hx b)
    | _=>first | rfl | (generalize PH.elems _ _ _=z;cases z<;>rfl)
@[simp] theorem Zatp {d:Nat}{s:PV}{b:List Nat}:Zxj C K h d (.slice e) .str s (.str b)=bO (C.T e) fun ty=>if ty.size=1 then Xq K h d e ty b.length (b.map fun (b:Nat)=>.int .u8 (b:Int)) s else none:=by
 simp only[Zxj];cases C.T e<;>rfl
@[simp] theorem Zaot {s:List Nat}:(L g b xs=.str s)=False:=by
 rcases Zxq g b xs with⟨e,_⟩ | ⟨e,_⟩<;>rw[e]<;>simp
def Zxk (K:Loc)(h:PH)(T:Ty)(g i Zc off len n:Nat)(ys:List PV)(p:Bool×List PV):Option (PV×PH):=
 if len+n<=Virt.maxLenV/\T.bytes<=2^16/\0 < T.size/\can K i=true/\p.1=true/\off+len<=p.2.length then some (.own i (Zc+1) g 0 (len+n),h.put i (Zc+1) (.row g true ((p.2.drop off).take len++ys))) else none
@[simp] theorem Zl8 {T:Ty}{i Zc off len n:Nat}{ys:List PV}{p:Bool×List PV}(h1:len+n<=1073741824)(h2:T.bytes<=65536)(h3:0 < T.size)(h4:can K i=true)(h5:p.1=true)(h6:off+len<=p.2.length):
  Zxk K h T g i Zc off len n ys p=some (.own i (Zc+1) g 0 (len+n),h.put i (Zc+1) (.row g true ((p.2.drop off).take len++ys))):=by
 have h1':len+n<=Virt.maxLenV:=h1;rw[Zxk,if_pos ⟨h1',h2,h3,h4,h5,h6⟩]
theorem Qt {T:Ty}{i Zc off len n d:Nat}{ys:List PV}:Xq K h d g T n ys (.own i Zc g off len)=bO (h.row i Zc g) fun p=>Zxk K h T g i Zc off len n ys p:=by
 simp only[Xq,true_and];cases h.row i Zc g with
 |none=>simp only[Z2c];split<;>rfl
 |some p=>
  obtain⟨own,zs⟩:=p;simp only[Xw,Zxk];by_cases hc:len+n<=Virt.maxLenV/\T.bytes<=2^16/\0 < T.size/\can K i=true
  .rw [if_pos hc];cases own with
   |false=>
    rw[if_neg (fun hh=>by have:=hh.2.2.2.2.1;cases this)]
   |true=>
    by_cases hd:off+len<=zs.length
    .simp only [hd,if_true];rw[if_pos ⟨hc.1,hc.2.1,hc.2.2.1,hc.2.2.2,trivial,trivial⟩]
    .simp only [hd,if_false];rw[if_neg (fun hh=>by have:=hh.2.2.2.2.2;exact this)]
  .rw [if_neg hc,if_neg (fun hh=>hc ⟨hh.1,hh.2.1,hh.2.2.1,hh.2.2.2.1⟩)]
@[simp] theorem Zalw {T:Ty}{ys:List PV}(h1:ys.length<=1073741824)(h2:T.bytes<=65536)(h3:0 < T.size):Zla h g T ys .nils=some (L g true ys,h):=by
 have h1':ys.length<=Virt.maxLenV:=h1;unfold Zla;simp only;rw[if_pos ⟨h1',h2,h3⟩];cases ys with
 |nil=>rfl
 |cons y ys=>rfl
theorem Zaf {T:Ty}{n d:Nat}{ys:List PV}(h1:n<=1073741824)(h2:T.bytes<=65536)(h3:0 < T.size)(h4:n≠0):
  Xq K h d g T n ys .nils=some (.own (K.base+d) (h.stamp (K.base+d)) g 0 n,h.put (K.base+d) (h.stamp (K.base+d)) (.row g true ys)):=by
 have h1':n<=Virt.maxLenV:=h1;simp only[Xq];rw[if_pos ⟨h1',h2,h3⟩,if_neg h4]
attribute [simp] Qt Zaf
@[simp] theorem Zatj {k:TK}{j j':IntKind}{n:Int}:Z5b k (.int j) (.int j' n)=some (.int j (j.wrap n)):=by cases k<;>rfl
@[simp] theorem Zati {k:TK}{s:List Nat}:Z5b k .str (.str s)=some (.str s):=by cases k<;>rfl
@[simp] theorem Zalu {s:List Nat}:Z5b .str (.slice e) (.str s)=none:=rfl
@[simp] theorem Zalt {v:PV}(hv:∀s,v≠.str s):Z5b (.slice e) .str v=none:=by
 cases v<;>first | rfl | exact absurd rfl (hv _)
@[simp] theorem Zaoo {e':Nat}{v:PV}:Z5b (.slice e) (.slice e') v=none:=by cases v<;>rfl
@[simp] theorem Zals {d:Nat}{s:List Nat}:Z5a C K h (some d) .str (.slice e) (.str s)=bO (C.T e) fun te=>match te.k with
  | .int .u8=>if s.length<=Virt.maxLenV/\te.size=1 then some (.own (K.base+d) (h.stamp (K.base+d)) e 0 s.length,h.put (K.base+d) (h.stamp (K.base+d)) (.row e true (s.map fun (b:Nat)=>.int .u8 (b:Int)))) else none
  | _=>none:=by
 simp only[Z5a];cases C.T e<;>rfl
@[simp] theorem Zalr {d:Option Nat}{v:PV}:Z5a C K h d (.slice e) .str v=bO (C.T e) fun te=>match te.k with
  | .int .u8=>if te.size=1 then bO (h.elems e v) fun xs=>bO (Zh.bytesP xs) fun b=>some (.str b,h) else none
  | _=>none:=by
 simp only[Z5a];cases C.T e with
 |none=>rfl
 |some te=>
  simp only[Xw];split
  .split
   .cases h.elems e v with
    |none=>rfl
    |some xs=>simp only[Option.bind_some,Xw];cases Zh.bytesP xs<;>rfl
   .rfl
  .rfl
@[simp high] theorem Zaoq {C:Ctx}{t:Nat}:Zcz C .eql t (L g b xs) .nils=bO (C.T t) fun T=>match T.k with | .slice _=>some (.bool (b&&xs.isEmpty)) | _=>none:=by
 cases hT:C.T t with
 |none=>rcases Zxq g b xs with⟨e,rfl,rfl⟩ | ⟨e,e2⟩<;>rw[e]<;>simp[hT]
 |some T=>
  simp only[Xw];rcases Zxq g b xs with⟨e,rfl,rfl⟩ | ⟨e,e2⟩
  .rw [e];simp only[Zpx,eqP,hT];cases T.k<;>rfl
  .rw [e,e2];simp only[Zs8,eqP,hT];cases T.k<;>rfl
end
@[simp high] theorem Zait {g:Nat}{b:Bool}{xs:List PV}{v:PV}:S9 (L g b xs) 0 [v]=some v:=by
 rcases Zxq g b xs with⟨e,_⟩ | ⟨e,_⟩<;>rw[e]<;>rfl
attribute [simp] S9.eq_1 S9.eq_2 Ym
def resC (h:PH)(T:Ty)(v:PV)(vs:List PV):Option (List PV):=match v with
 | .ptr i Zc off=>match h.get i with
   |some (w,.cells cs)=>if w=Zc then ((X6 cs off T.size).bind (toP T.k.agg)).map (·::vs) else none
   | _=>none
 | _=>none
@[simp] theorem Zam0 {C:Ctx}{sl:Yu}{h:PH}{a t:Nat}{r:List ResultVar}:Us C sl h (.cell a t::r)=bO (sl a) fun v=>bO (C.T t) fun T=>bO (Us C sl h r) fun vs=>resC h T v vs:=by
 simp only[Us];cases sl a with
 |none=>rfl
 |some v=>
  cases C.T t with
  |none=>cases v<;>rfl
  |some T=>
   cases Us C sl h r with
   |none=>cases v<;>rfl
   |some vs=>cases v<;>rfl
def resD (T:Ty)(Zc off:Nat)(vs:List PV)(p:Nat×PO):Option (List PV):=match p with
 | (w,.cells cs)=>if w=Zc then ((X6 cs off T.size).bind (toP T.k.agg)).map (·::vs) else none
 | _=>none
@[simp] theorem Zaiv {T:Ty}{Zc off:Nat}{vs cs:List PV}:resD T Zc off vs (Zc,.cells cs)=((X6 cs off T.size).bind (toP T.k.agg)).map (·::vs):=by simp[resD]
@[simp] theorem Zapn {h:PH}{T:Ty}{i Zc off:Nat}{vs:List PV}:resC h T (.ptr i Zc off) vs=bO (h.get i) fun p=>resD T Zc off vs p:=by
 simp only[resC];cases h.get i with
 |none=>rfl
 |some p=>
  obtain⟨w,o⟩:=p;cases o<;>rfl
@[simp] theorem Zaom {pl:Nat->Option (Nat×Nat)}{cells:List PV}:Zgg pl cells []=some cells:=rfl
@[simp] theorem Zalp {pl:Nat->Option (Nat×Nat)}{cells:List PV}{i:Nat}{v:PV}{r:List (Nat×PV)}:Zgg pl cells ((i,v)::r) =
  bO (pl i) fun p=>if (Zd v).length=p.2/\p.1+p.2<=cells.length/\(Zd v).all Wy=true then bO (Ym cells p.1 (Zd v)) fun W2=>Zgg pl W2 r else none:=by
 simp only[Zgg];cases pl i with
 |none=>rfl
 |some p=>
  obtain⟨o,s⟩:=p;simp only[Xw];split
  .cases Ym cells o (Zd v)<;>rfl
  .rfl
section
variable {k:IntKind}{a b:Int}
@[simp] theorem Zaqj:Rl .add k k a b=some (.int k (k.wrap (a+b))):=by simp[Rl]
@[simp] theorem Zap8:Rl .sub k k a b=some (.int k (k.wrap (a - b))):=by simp[Rl]
@[simp] theorem Zaqd:Rl .mul k k a b=some (.int k (k.wrap (a*b))):=by simp[Rl]
@[simp] theorem Zaqb:Rl .quo k k a b=if b=0 then none else some (.int k (k.wrap (a.tdiv b))):=by simp[Rl]
@[simp] theorem Zaqa:Rl .rem k k a b=if b=0 then none else some (.int k (a.tmod b)):=by simp[Rl]
@[simp] theorem Zaqi:Rl .eql k k a b=some (.bool (a==b)):=by simp[Rl]
@[simp] theorem Zaqc:Rl .neq k k a b=some (.bool (!(a==b))):=by simp[Rl,bne]
@[simp] theorem Zaqe:Rl .lss k k a b=some (.bool (a < b)):=by simp[Rl]
@[simp] theorem Zaqf:Rl .leq k k a b=some (.bool (a<=b)):=by simp[Rl]
@[simp] theorem Zaqg:Rl .gtr k k a b=some (.bool (b < a)):=by simp[Rl]
@[simp] theorem Zaqh:Rl .geq k k a b=some (.bool (b<=a)):=by simp[Rl]
@[simp] theorem Zap9 {k':IntKind}(h:0<=b):Rl .shl k k' a b=some (.int k (k.wrap (a*2^min b.toNat k.bits))):=by
 simp only[Rl];rw[if_neg (by omega)]
end
@[simp high] theorem Zapc {a b:List Nat}(h:a.length+b.length<=4611686018427387904):Zo9 .add a b=some (.str (a++b)):=by simp[Zo9,h]
@[simp] theorem Zapb {a b:List Nat}:Zo9 .eql a b=some (.bool (a==b)):=rfl
@[simp] theorem Zao8 {a b:List Nat}:Zo9 .neq a b=some (.bool (!(a==b))):=rfl
@[simp] theorem Zao9 {a b:List Nat}:Zo9 .lss a b=some (.bool (ltL a b)):=rfl
@[simp] theorem Zapa {a b:List Nat}:Zo9 .gtr a b=some (.bool (!(ltL a b||a==b))):=rfl
section
variable {k k':IntKind}{i j:Int}{n:Nat}
@[simp high] theorem Zal0 (h0:0<=i)(h:i<=n):X1 n (some (.int k i)) none=some (i.toNat,n):=by
 have:i.toNat<=n:=by omega
 simp[X1,Zli,h0,this]
@[simp high] theorem Zalz (h0:0<=j)(h:j<=n):X1 n none (some (.int k j))=some (0,j.toNat):=by
 have:j.toNat<=n:=by omega
 simp[X1,Zli,h0,this]
@[simp high] theorem Zal1 (h0:0<=i)(h1:i<=j)(h:j<=n):X1 n (some (.int k i)) (some (.int k' j))=some (i.toNat,j.toNat):=by
 have h2:j.toNat<=n:=by omega
 have h3:i.toNat<=j.toNat:=by omega
 have h4:0<=j:=by omega
 simp[X1,Zli,h0,h2,h3,h4]
end
end Go.Pure
end
section
namespace Go.Pure
open Go
open Go.Virt (Ex Ctx Ty TK Yf)
def Vm (sl Yw:Yu)(l:List Operand):Prop:=∀x,x∈l->Yx sl x=Yx Yw x
theorem Vm.opds {sl Yw:Yu}:∀ {l:List Operand},Vm sl Yw l->Vd sl l=Vd Yw l
 | [],_=>rfl
 |x::r,h=>by
  have h1:=h x List.mem_cons_self;have h2:=Vm.opds (l:=r) fun y hy=>h y (List.mem_cons_of_mem _ hy)
  rw[Zax,Zax,h1,h2]
theorem Vm.parts {sl Yw:Yu}:∀ {l:List (Nat×Operand)},Vm sl Yw (l.map (·.2))->U6 sl l=U6 Yw l
 | [],_=>rfl
 | (i,x)::r,h=>by
   have h1:=h x (by simp);have h2:=Vm.parts (l:=r) fun y hy=>h y (by simp at hy ⊢;exact Or.inr hy)
   rw[Zkt,Zkt,h1,h2]
theorem Vm.opt {sl Yw:Yu}{o:Option Operand}(h:Vm sl Yw o.toList):Rc sl o=Rc Yw o:=by
 cases o with
 |none=>rfl
 |some x=>simp only[Rc];rw[h x (by simp)]
theorem Vm.mono {sl Yw:Yu}{l l':List Operand}(h:Vm sl Yw l)(hm:∀x,x∈l'->x∈l):Vm sl Yw l':=fun x hx=>h x (hm x hx)
section
variable {C:Ctx}{cf:CF}{yf:YF}{K:Loc}{all:List Oper}{sl Yw:Yu}{h:PH}
theorem Zwt {o:Oper}(ha:Vm sl Yw o.op.operands.toList):Yj C sl o=Yj C Yw o:=by
 obtain⟨d,op,ty,pos,af,gd⟩:=o;cases op with
 |move x=>simp only[Yj];rw[ha x (by simp[Op.operands])]
 |assign x=>simp only[Yj];rw[ha x (by simp[Op.operands])]
 |pick c a b=>simp only[Yj];rw[ha c (by simp[Op.operands]),ha a (by simp[Op.operands]),ha b (by simp[Op.operands])]
 |build t ps=>
  have:U6 sl ps.toList=U6 Yw ps.toList:=Vm.parts (ha.mono fun x hx=>by simpa[Op.operands]using hx);simp only[Yj,this]
 |load t a=>rw[Zq3,Zq3,ha a (by simp[Op.operands])]
 |nilCheck x=>simp only[Yj];rw[ha x (by simp[Op.operands])]
 |binOp op t x y yt=>simp only[Yj];rw[ha x (by simp[Op.operands]),ha y (by simp[Op.operands])]
 |unOp op t x=>simp only[Yj];rw[ha x (by simp[Op.operands])]
 |convert s t x=>rw[Zit,Zit,ha x (by simp[Op.operands])]
 |makeInterface t x=>simp only[Yj];rw[ha x (by simp[Op.operands])]
 |makeFunc f a b=>
  have h1:Vd sl a.toList=Vd Yw a.toList:=Vm.opds (ha.mono fun x hx=>by simp[Op.operands];exact Or.inl (by simpa using hx));have h2:Vd sl b.toList=Vd Yw b.toList:=Vm.opds (ha.mono fun x hx=>by simp[Op.operands];exact Or.inr (by simpa using hx));simp only[Yj,h1,h2]
 |slice t x lo hi mx=>
  have h1:=ha x (by simp[Op.operands]);have h2:Rc sl lo=Rc Yw lo:=Vm.opt (ha.mono fun y hy=>by simp[Op.operands];right;left;simpa using hy);have h3:Rc sl hi=Rc Yw hi:=Vm.opt (ha.mono fun y hy=>by simp[Op.operands];right;right;left;simpa using hy);cases mx with
  |none=>rw[Zn6,Zn6,h1,h2,h3]
  |some m=>simp only[Yj]
 |fieldAddr s x f=>simp only[Yj];rw[ha x (by simp[Op.operands])]
 |field s x f=>simp only[Yj];rw[ha x (by simp[Op.operands])]
 |indexAddr t x i=>rw[Ze0,Ze0,ha x (by simp[Op.operands]),ha i (by simp[Op.operands])]
 |index t x i=>rw[Zn7,Zn7,ha x (by simp[Op.operands]),ha i (by simp[Op.operands])]
 |lookup t x i ok=>simp only[Yj];rw[ha x (by simp[Op.operands]),ha i (by simp[Op.operands])]
 |extract t i=>simp only[Yj];rw[ha t (by simp[Op.operands])]
 |call c=>
  have:Vd sl c.args.toList=Vd Yw c.args.toList:=Vm.opds (ha.mono fun x hx=>by simp[Op.operands,Call.operands];exact Or.inr (by simpa using hx));simp only[Yj,this]
 | _=>rfl
theorem Zvt {o:Oper}(ha:Vm sl Yw o.op.operands.toList):V6 C all sl o=V6 C all Yw o:=by
 obtain⟨d,op,ty,pos,af,gd⟩:=o;cases op with
 |box t x=>simp only[V6];rw[ha x (by simp[Op.operands])]
 |buildSlice t n ps=>
  have:U6 sl ps.toList=U6 Yw ps.toList:=Vm.parts (ha.mono fun x hx=>by simpa[Op.operands]using hx);simp only[V6,this]
 |makeSlice t l c=>rw[Zeo,Zeo,ha l (by simp[Op.operands]),ha c (by simp[Op.operands])]
 |makeMap t r=>cases r<;>rfl
 | _=>rfl
theorem Zrt {o:Oper}(ha:Vm sl Yw o.op.operands.toList):Zh C cf yf all K sl h o=Zh C cf yf all K Yw h o:=by
 obtain⟨d,op,ty,pos,af,gd⟩:=o;cases op with
 |load t a=>rw[Zmq,Zmq,ha a (by simp[Op.operands])]
 |store t a x=>rw[Zkq,Zkq,ha a (by simp[Op.operands]),ha x (by simp[Op.operands])]
 |convert s t x=>rw[Zb2,Zb2,ha x (by simp[Op.operands])]
 |slice t x lo hi mx=>
  have h1:=ha x (by simp[Op.operands]);have h2:Rc sl lo=Rc Yw lo:=Vm.opt (ha.mono fun y hy=>by simp[Op.operands];right;left;simpa using hy);have h3:Rc sl hi=Rc Yw hi:=Vm.opt (ha.mono fun y hy=>by simp[Op.operands];right;right;left;simpa using hy);cases mx with
  |none=>rw[Zd9,Zd9,h1,h2,h3]
  |some m=>simp only[Zh]
 |indexAddr t x i=>rw[Qv,Qv,ha x (by simp[Op.operands]),ha i (by simp[Op.operands])]
 |lookup t x i ok=>simp only[Zh];rw[ha x (by simp[Op.operands]),ha i (by simp[Op.operands])]
 |mapUpdate t m k x=>simp only[Zh];rw[ha m (by simp[Op.operands]),ha k (by simp[Op.operands]),ha x (by simp[Op.operands])]
 |insert t m k x=>simp only[Zh];rw[ha m (by simp[Op.operands]),ha k (by simp[Op.operands]),ha x (by simp[Op.operands])]
 |call c=>
  have h1:Vd sl c.args.toList=Vd Yw c.args.toList:=Vm.opds (ha.mono fun x hx=>by simp[Op.operands,Call.operands];exact Or.inr (by simpa using hx));obtain⟨cal,args,ats⟩:=c;cases cal with
  |value f=>
   have h2:=ha f (by simp[Op.operands,Call.operands]);simp only[Zh,h1,h2]
  |invoke r m=>simp only[Zh,h1]
  |builtin b=>simp only[Zh,h1]
 | _=>rfl
end
def Zp6 (C:Ctx):Op->Bool
 | .load _ _ | .store _ _ _ | .lookup _ _ _ _ | .mapUpdate _ _ _ _ | .insert _ _ _ _=>true
 | .slice t _ _ _ _ | .indexAddr t _ _=>match C.T t with
   |some a=>match a.k with | .slice _=>true | _=>false
   |none=>false
 | .convert s t _=>match C.T s,C.T t with
   |some a,some b=>match a.k,b.k with
    | .str,.slice _=>true
    | .slice _,.str=>true
    | _,_=>false
   | _,_=>false
 | .call c=>match c.callee with
   | .value _=>true
   | .builtin b=>match b with
     | .append | .delete=>true
     | .len=>match (c.argTypes[0]?).bind C.T with
       |some a=>match a.k with | .map _ _=>true | _=>false
       |none=>false
     | _=>false
   | _=>false
 | _=>false
def Zag4:Op->Bool
 | .alloc _ | .box _ _ | .buildSlice _ _ _ | .makeSlice _ _ _ | .makeMap _ _=>true
 | _=>false
def litO (all:List Oper)(o:Oper):Bool:=match o.op with
 | .buildSlice _ _ _=>match o.dst with | some d=>Znd all d | none=>false
 | _=>false
def Zm9 (all:List Oper)(o:Oper):Bool:=Zag4 o.op&&!litO all o
def Zxc:Op->Bool
 | .call c=>match c.callee with | .value _=>true | _=>false
 | _=>false
def Zag6:Op->Bool
 | .load _ _ | .indexAddr _ _ _=>true
 | _=>false
structure Md where
 pf:Bool
 ld:Bool
 fr:List Nat
 rd:List Nat:=[]
 ids:List Nat:=[]
 fl:List Nat:=[]
 ls:Bool:=false
def Md.inRd (m:Md)(o:Oper):Bool:=match o.dst with | some d=>m.rd.contains d | none=>false
def Md.inFl (m:Md)(o:Oper):Bool:=match o.dst with | some d=>m.fl.contains d | none=>m.fl.contains 1000000
def Z5c (h0 h:PH)(u:Nat):Bool:=match h.get u,h0.get u with
 |some (v,_),some (w,_)=>Nat.beq v w
 | _,_=>false
def Zaad (h:PH)(u:Nat):Bool:=match h.get u with | some (_,.cells _)=>true | some (_,.row _ true _)=>true | _=>false
def Md.okB (m:Md)(h0 h:PH)(sl:Yu)(o:Oper)(v:PV):Bool:=match Zib sl o with
 |some (u,Zc)=>m.ids.contains u&&(match h0.get u with | some (w,_)=>Nat.beq w Zc | none=>false)&&(X3 4 v||(m.ls&&Zaad h u))&&W8 3 v
 |none=>false
def Md.free (m:Md)(o:Oper):Bool:=(m.ld&&Zag6 o.op)||(match o.dst with | some d=>m.fr.contains d | none=>false)
def Vp (pf:Md)(o:Oper):Bool:=Tg o&&!(pf.pf&&Zxc o.op)
def Zam (C:Ctx)(pf:Md)(o:Oper):Bool:=Zp6 C o.op&&!pf.free o
def Zapd (C:Ctx)(pf:Md)(ops:Array Oper):Bool:=
 let masks:=Region.before ops
 ops.toList.zipIdx.all fun (o,i)=>!Zam C pf o||ops.toList.zipIdx.all fun (p,j)=>!Nat.blt j i||((!Zm9 ops.toList p||(masks.getD i 0).testBit j||pf.inRd o)&&(!Zam C pf p||(!Vp pf o&&!Vp pf p)||(masks.getD i 0).testBit j||(pf.inRd o&&pf.inFl p)||(pf.inRd p&&pf.inFl o&&!Vp pf p)))
def Zagy (C:Ctx)(pf:Md)(ops:Array Oper):Bool:=!pf.ls||ops.toList.zipIdx.all fun (o,i)=>!pf.inRd o||ops.toList.zipIdx.all fun (p,j)=>!Nat.blt j i||!Zam C pf p||!Vp pf p||pf.inFl p
def Zf7 (C:Ctx)(pf:Md)(ops:Array Oper):Bool:=Zapd C pf ops&&Zagy C pf ops
structure Stat (C:Ctx)(pf:Md)(ops:Array Oper):Prop where
 ok:Zf7 C pf ops=true
def Zav (pf:Md)(h0:PH)(C:Ctx)(cf:CF)(yf:YF)(K:Loc)(all:List Oper):List Oper->Yu->PH->Option (Yu×PH)
 | [],sl,h=>some (sl,h)
 |o::r,sl,h=>
  match Vz all sl o with
  |some true=>match Yj C sl o with
   |some v=>if W8 3 v=true then Zav pf h0 C cf yf K all r (putP sl o.dst v) h else none
   |none=>match V6 C all sl o with
    |some m=>match m.obj,o.dst with
     |none,_=>Zav pf h0 C cf yf K all r (putP sl o.dst (m.val 0 0)) h
     |some ob,some d=>Zav pf h0 C cf yf K all r (sl.put d (m.val (K.base+d) (h.stamp (K.base+d)))) (h.put (K.base+d) (h.stamp (K.base+d)) ob)
     |some _,none=>none
    |none=>match Zh C cf yf all K sl h o with
     |some (v,h')=>if (!pf.free o&&(!(pf.pf&&Zxc o.op)||Ru C sl o v)&&(!pf.inRd o||pf.okB h0 h sl o v)&&(!pf.inFl o||pf.ids.all fun u=>Wm (X8 C K sl h o) u&&Z5c h0 h u))=true then Zav pf h0 C cf yf K all r (putP sl o.dst v) h' else none
     |none=>none
  |some false=>Zav pf h0 C cf yf K all r (putP sl o.dst (.tuple [])) h
  |none=>none
section
variable {C:Ctx}{cf:CF}{yf:YF}{K:Loc}
theorem Zu5 {sl Yw:Yu}{o:Oper}{v:PV}(ha:Vm sl Yw o.op.operands.toList):Ru C sl o v=Ru C Yw o v:=by
 obtain⟨d,op,ty,pos,af,gd⟩:=o;cases op with
 |call c=>
  obtain⟨cal,args,ats⟩:=c;have h1:Vd sl args.toList=Vd Yw args.toList:=Vm.opds (ha.mono fun x hx=>by simp[Op.operands,Call.operands];exact Or.inr (by simpa using hx));cases cal with
  |value f=>
   have h2:=ha f (by simp[Op.operands,Call.operands]);simp only[Ru,h1,h2]
  | _=>rfl
 | _=>rfl
theorem Zvu {sl Yw:Yu}{o:Oper}(ha:Vm sl Yw o.op.operands.toList):Zib sl o=Zib Yw o:=by
 obtain⟨d,op,ty,pos,af,gd⟩:=o;cases op with
 |load t a=>simp only[Zib];rw[ha a (by simp[Op.operands])]
 | _=>rfl
theorem Zho {sl Yw:Yu}{h:PH}{o:Oper}(ha:Vm sl Yw o.op.operands.toList):X8 C K sl h o=X8 C K Yw h o:=by
 obtain⟨d,op,ty,pos,af,gd⟩:=o;cases op with
 |store t a x=>simp only[X8];rw[ha a (by simp[Op.operands]),ha x (by simp[Op.operands])]
 |call c=>
  obtain⟨cal,args,ats⟩:=c;have h1:Vd sl args.toList=Vd Yw args.toList:=Vm.opds (ha.mono fun x hx=>by simp[Op.operands,Call.operands];exact Or.inr (by simpa using hx));cases cal with
  |value f=>
   have h2:=ha f (by simp[Op.operands,Call.operands]);simp only[X8,h1,h2]
  |builtin b=>
   cases b with
   |append=>
    simp only[X8];cases hl:args.toList with
    |nil=>rfl
    |cons x r=>
     have hm:x∈args.toList:=by rw[hl];simp
     have hx:=ha x (by simp[Op.operands,Call.operands];simpa using hm);cases d with
     |none=>rfl
     |some d=>simp only[hx]
   | _=>rfl
  | _=>rfl
 | _=>rfl
theorem Zvr {all:List Oper}{sl:Yu}{o:Oper}{m:Mk}(h:V6 C all sl o=some m):Zag4 o.op=true:=by
 obtain⟨d,op,ty,pos,af,gd⟩:=o;cases op<;>first | rfl | (simp only[V6]at h;cases h)
theorem Zvs {all:List Oper}{sl:Yu}{o:Oper}{m:Mk}{ob:PO}(h:V6 C all sl o=some m)(Ts:m.obj=some ob):Zm9 all o=true:=by
 have h1:=Zvr h;unfold Zm9;rw[h1];obtain⟨d,op,ty,pos,af,gd⟩:=o;cases op with
 |buildSlice t len ps=>
  cases d with
  |none=>rfl
  |some d=>
   cases hl:Znd all d with
   |false=>simp only[litO,hl];rfl
   |true=>
    simp only[V6,hl,if_true]at h;split at h
    .split at h
     .split at h
      .split at h
       .split at h
        .split at h
         .split at h
          .cases h;cases Ts
          .cases h
         .cases h
        .cases h
       .cases h
      .cases h
     .cases h
    .cases h
 | _=>rfl
theorem Zrs {all:List Oper}{sl:Yu}{h:PH}{o:Oper}{r:PV×PH}(he:Zh C cf yf all K sl h o=some r):Zp6 C o.op=true:=by
 obtain⟨d,op,ty,pos,af,gd⟩:=o;cases op with
 |convert s t x=>
  rw[Zb2]at he;simp only[Zp6];cases hs:C.T s with
  |none=>rw[hs]at he;cases he
  |some a=>
   cases ht:C.T t with
   |none=>rw[hs,ht]at he;cases he
   |some b=>
    simp only[hs,ht,Xw]at he ⊢;cases hx:Yx sl x with
    |none=>rw[hx]at he;cases he
    |some v=>
     rw[hx]at he;simp only[Xw,Z5a]at he;split at he
     .rename_i h1 h2;simp only[h1,h2]
     .rename_i h1 h2;simp only[h1,h2]
     .cases he
 |call c=>
  obtain⟨cal,args,ats⟩:=c;simp only[Zh]at he;split at he
  .cases he
  .cases cal with
   |value f=>rfl
   |invoke r m=>cases he
   |builtin b=>
    cases b with
    |append=>rfl
    |delete=>rfl
    |len=>
     simp only[Zp6];simp only at he;split at he
     .rename_i hb hx;cases hT:(ats[0]?).bind C.T with
      |none=>rw[hT]at he;cases he
      |some T=>
       rw[hT]at he;simp only at he ⊢;cases hk:T.k<;>first | rfl | (rw[hk]at he;cases he)
     .rename_i hb hx;cases hb
     .rename_i hb hx;cases hb
     .cases he
    | _=>simp only at he;cases he
 |slice t x lo hi mx=>
  cases mx with
  |some m=>simp only[Zh]at he;cases he
  |none=>
   rw[Zd9]at he;simp only[Zp6];cases hT:C.T t with
   |none=>rw[hT]at he;cases he
   |some T=>
    rw[hT]at he;simp only[Xw]at he ⊢;cases hx:Yx sl x with
    |none=>rw[hx]at he;cases he
    |some v=>
     rw[hx]at he;simp only[Xw]at he;cases h1:Rc sl lo with
     |none=>rw[h1]at he;cases he
     |some l=>
      rw[h1]at he;simp only[Xw]at he;cases h2:Rc sl hi with
      |none=>rw[h2]at he;cases he
      |some u=>
       rw[h2]at he;simp only[Xw,sliO]at he;cases v<;>first | (cases he;done) | skip
       cases hk:T.k<;>first | rfl | (rw[hk]at he;cases he)
 |indexAddr t x i=>
  rw[Qv]at he;simp only[Zp6];cases hT:C.T t with
  |none=>rw[hT]at he;cases he
  |some T=>
   rw[hT]at he;simp only[Xw]at he ⊢;cases hx:Yx sl x with
   |none=>rw[hx]at he;cases he
   |some v=>
    rw[hx]at he;simp only[Xw]at he;cases hi:Yx sl i with
    |none=>rw[hi]at he;cases he
    |some w=>
     rw[hi]at he;simp only[Xw,Z8b]at he;cases v<;>first | (cases he;done) | skip
     cases w<;>first | (cases he;done) | skip
     cases hk:T.k<;>first | rfl | (rw[hk]at he;cases he)
 | _=>first | rfl | (simp only[Zh]at he;cases he)
theorem Zr4 {pf:Md}{h0:PH}{ops:Array Oper}(hS:Stat C pf ops):∀(l done:List Oper) (s:PD) (r:Yu×PH),ops.toList=done++l ->
  (∀p,p∈s.st->∃o,ops.toList[p.1]?=some o/\p.1 < done.length/\Zam C pf o=true/\(p.2=true->Vp pf o=true)/\pf.inRd o=false)->(∀j,j∈s.made->∃o,ops.toList[j]?=some o/\j < done.length/\Zm9 ops.toList o=true) ->
  (∀p,p∈s.rb->∃o,ops.toList[p.1]?=some o/\p.1 < done.length/\Zam C pf o=true/\(pf.inRd o=true->p.2∈pf.ids))->(∀p,p∈s.wt->∃o,ops.toList[p.1]?=some o/\p.1 < done.length/\Zam C pf o=true/\Vp pf o=true/\(pf.inFl o=true->∀u,u∈pf.ids->Wm p.2 u=true))->(∀u,s.old u=(h0.get u).map (·.1)) ->
  Zav pf h0 C cf yf K ops.toList l s.sl s.h=some r->∃s',Qz C cf yf K ops.toList (Region.before ops) l done.length s=some s'/\(s'.sl,s'.h)=r:=by
 intro l
 induction l with
 |nil=>
  intro done s r hd h1 h2 h3 h4 hol he;simp only[Zav,Option.some.injEq]at he;exact⟨s,rfl,he⟩
 |cons o l ih=>
  intro done s r hd h1 h2 h3 h4 hol he;have hd':ops.toList=(done++[o])++l:=by rw[hd];simp
  have hlen:(done++[o]).length=done.length+1:=by simp
  have hio:ops.toList[done.length]?=some o:=by rw[hd];simp
  have hpk:∀t,t∈Yf ops.toList o->(fun t=>if (Yf ops.toList o).contains t then s.sl t else none) t=s.sl t:=by
   intro t ht;have:(Yf ops.toList o).contains t=true:=by simpa using ht
   simp only[this,if_true]
  have hag:Vm (fun t=>if (Yf ops.toList o).contains t then s.sl t else none) s.sl o.op.operands.toList:=by
   intro x hx;cases x with
   |tmp t=>
    refine hpk t ?_;unfold Yf;refine List.mem_append_left _ (List.mem_filterMap.2 ⟨.tmp t,hx,rfl⟩)
   | _=>rfl
  have hw:Vz ops.toList (fun t=>if (Yf ops.toList o).contains t then s.sl t else none) o=Vz ops.toList s.sl o:=by
   unfold Vz;cases hg:o.guard with
   |none=>rfl
   |some p=>
    obtain⟨j,want⟩:=p;simp only;cases hj:(ops.toList[j]?).bind (·.dst) with
    |none=>rfl
    |some d=>
     simp only
     have:d∈Yf ops.toList o:=by
      unfold Yf;refine List.mem_append_right _ ?_;rw[hg];simp only[hj,Option.toList,List.mem_singleton]
     have:=hpk d this;simp only at this;rw[this]
  have Za0t:∀p,p∈s.st->∃o,ops.toList[p.1]?=some o/\p.1 < (done++[o]).length/\Zam C pf o=true/\(p.2=true->Vp pf o=true)/\pf.inRd o=false:=fun p hp=>by
   obtain⟨o',a,b,c⟩:=h1 p hp;exact⟨o',a,by simp;omega,c⟩
  have Zqo:∀j,j∈s.made->∃o',ops.toList[j]?=some o'/\j < (done++[o]).length/\Zm9 ops.toList o'=true:=fun j hj=>by
   obtain⟨o',a,b,c⟩:=h2 j hj;exact⟨o',a,by simp;omega,c⟩
  have Zjy:∀p,p∈s.st->∃o',ops.toList[p.1]?=some o'/\p.1 < (done++[o]).length/\Zam C pf o'=true/\(p.2=true->Vp pf o'=true)/\pf.inRd o'=false:=fun p hp=>by
   obtain⟨o',a,b,c⟩:=h1 p hp;exact⟨o',a,by simp;omega,c⟩
  have Za0s:∀p,p∈s.rb->∃o,ops.toList[p.1]?=some o/\p.1 < (done++[o]).length/\Zam C pf o=true/\(pf.inRd o=true->p.2∈pf.ids):=fun p hp=>by
   obtain⟨o',a,b,c⟩:=h3 p hp;exact⟨o',a,by simp;omega,c⟩
  have Zng:∀p,p∈s.wt->∃o',ops.toList[p.1]?=some o'/\p.1 < (done++[o]).length/\Zam C pf o'=true/\Vp pf o'=true/\(pf.inFl o'=true->∀u,u∈pf.ids->Wm p.2 u=true):=fun p hp=>by
   obtain⟨o',a,b,c⟩:=h4 p hp;exact⟨o',a,by simp;omega,c⟩
  have Zjx:∀p,p∈s.rb->∃o',ops.toList[p.1]?=some o'/\p.1 < (done++[o]).length/\Zam C pf o'=true/\(pf.inRd o'=true->p.2∈pf.ids):=fun p hp=>by
   obtain⟨o',a,b,c⟩:=h3 p hp;exact⟨o',a,by simp;omega,c⟩
  simp only[Zav]at he;simp only[Qz,Zdm,hw,Zwt hag,Zvt hag,Zrt hag];cases hwt:Vz ops.toList s.sl o with
  |none=>rw[hwt]at he;cases he
  |some w=>
   rw[hwt]at he;cases w with
   |false=>
    simp only at he ⊢;have:=ih (done++[o]) {s with sl:=putP s.sl o.dst (.tuple [])} r hd' Zjy Zqo Zjx Zng hol he
    rwa [hlen]at this
   |true=>
    simp only at he ⊢;cases hf:Yj C s.sl o with
    |some v=>
     rw[hf]at he;simp only at he ⊢;split at he
     .rename_i hsm;rw[if_pos hsm];have:=ih (done++[o]) {s with sl:=putP s.sl o.dst v} r hd' Zjy Zqo Zjx Zng hol he
      rwa [hlen]at this
     .cases he
    |none=>
     rw[hf]at he;simp only at he ⊢;cases hm:V6 C ops.toList s.sl o with
     |some m=>
      rw[hm]at he;simp only at he ⊢;cases Ts:m.obj with
      |none=>
       rw[Ts]at he;simp only at he ⊢;have:=ih (done++[o]) {s with sl:=putP s.sl o.dst (m.val 0 0)} r hd' Zjy Zqo Zjx Zng hol he
       rwa [hlen]at this
      |some ob=>
       rw[Ts]at he;cases Ro:o.dst with
       |none=>rw[Ro]at he;cases he
       |some d=>
        rw[Ro]at he;simp only at he ⊢
        have:=ih (done++[o]) {s with sl:=s.sl.put d (m.val (K.base+d) (s.h.stamp (K.base+d))),h:=s.h.put (K.base+d) (s.h.stamp (K.base+d)) ob,made:=done.length::s.made} r hd' Zjy (fun j hj=>by
         rcases List.mem_cons.1 hj with rfl | hj
         .exact ⟨o,hio,by simp,Zvs hm Ts⟩
         .exact Zqo j hj) Zjx Zng hol he
        rwa [hlen]at this
     |none=>
      rw[hm]at he;simp only at he ⊢;cases X2:Zh C cf yf ops.toList K s.sl s.h o with
      |none=>rw[X2]at he;cases he
      |some p=>
       obtain⟨v,h'⟩:=p;rw[X2]at he;simp only at he ⊢;split at he
       .rename_i hpc;rw[Bool.and_eq_true,Bool.and_eq_true,Bool.and_eq_true]at hpc;obtain⟨⟨⟨hpf,hpc⟩,hrd⟩,Uq⟩:=hpc
        have hwi:(Tg o&&!Ru C s.sl o v)=true->Vp pf o=true:=by
         intro hh;rw[Bool.and_eq_true,Bool.not_eq_true']at hh;unfold Vp;rw[hh.1,Bool.true_and];rw[hh.2,Bool.or_false]at hpc;exact hpc
        have hso:Zam C pf o=true:=by unfold Zam;rw[Zrs X2,hpf];rfl
        have hok:=hS.ok;unfold Zf7 at hok;rw[Bool.and_eq_true]at hok
        have hB:=List.all_eq_true.1 hok.1 (o,done.length) (by
         rw[List.mem_zipIdx_iff_getElem?];simpa using hio)
        simp only[hso,Bool.not_true,Bool.false_or]at hB
        have hB':∀j p,ops.toList[j]?=some p->j < done.length->((!Zm9 ops.toList p||((Region.before ops).getD done.length 0).testBit j||pf.inRd o)&&(!Zam C pf p||(!Vp pf o&&!Vp pf p)||((Region.before ops).getD done.length 0).testBit j||(pf.inRd o&&pf.inFl p)||(pf.inRd p&&pf.inFl o&&!Vp pf p)))=true:=fun j p hj hlt=>by
         have:=List.all_eq_true.1 hB (p,j) (by rw[List.mem_zipIdx_iff_getElem?];simpa using hj);have hb:Nat.blt j done.length=true:=by simpa using hlt
         simp only[hb,Bool.not_true,Bool.false_or]at this;exact this
        have hwd:Q1 C (fun t=>if (Yf ops.toList o).contains t then s.sl t else none) o v=(Tg o&&!Ru C s.sl o v):=by
         simp only[Q1,Zu5 hag]
        have Xc:∀u,s.old u=(h0.get u).map (·.1):=hol
        have hrd1:pf.inRd o=true->∃u,u∈pf.ids/\Zor s (fun t=>if (Yf ops.toList o).contains t then s.sl t else none) o v=some u:=fun W1=>by
         rw[W1,Bool.not_true,Bool.false_or]at hrd;unfold Md.okB at hrd;unfold Zor;rw[Zvu hag];cases hlk:Zib s.sl o with
         |none=>rw[hlk]at hrd;cases hrd
         |some q=>
          obtain⟨u,Zc⟩:=q;rw[hlk]at hrd;simp only[Bool.and_eq_true]at hrd;obtain⟨⟨⟨a1,a2⟩,a3⟩,a4⟩:=hrd;have hu1:u∈pf.ids:=by simpa using a1
          refine⟨u,hu1,?_⟩
          have a3':(X3 4 v||s.clear u)=true:=by
           rw[Bool.or_eq_true]at a3 ⊢;refine a3.imp id fun a3=>?_
           rw[Bool.and_eq_true]at a3;unfold PD.clear;rw[Bool.and_eq_true];refine⟨List.all_eq_true.2 ?_,a3.2⟩;rintro⟨j,t⟩ hj;obtain⟨o',b1,b2,b3,b4,b5⟩:=h4 _ hj;refine b5 ?_ u hu1;have h9:=hok.2;unfold Zagy at h9;rw[a3.1,Bool.not_true,Bool.false_or]at h9;have h9:=List.all_eq_true.1 h9 (o,done.length) (by rw[List.mem_zipIdx_iff_getElem?];simpa using hio);simp only[W1,Bool.not_true,Bool.false_or]at h9;have h9:=List.all_eq_true.1 h9 (o',j) (by rw[List.mem_zipIdx_iff_getElem?];simpa using b1);have hb:Nat.blt j done.length=true:=by simpa using b2
           simpa only[hb,b3,b4,Bool.not_true,Bool.false_or]using h9
          simp only[Xc];cases hx:h0.get u with
          |none=>rw[hx]at a2;cases a2
          |some x=>
           rw[hx]at a2;simp only[Option.map_some];rw[if_pos (by simp only[a2,a3',a4,Bool.and_self])]
        have Znx:∀u,Z5c h0 s.h u=true->s.cur u=true:=fun u hu=>by
         unfold Z5c at hu;unfold PD.cur;rw[Xc];cases hx:s.h.get u with
         |none=>rw[hx]at hu;cases hu
         |some x=>
          cases hy:h0.get u with
          |none=>rw[hx,hy]at hu;cases hu
          |some y=>rw[hx,hy]at hu;exact hu
        unfold Z06;simp only[hwd];cases hbl:Zor s (fun t=>if (Yf ops.toList o).contains t then s.sl t else none) o v with
        |some u=>
         have hru:pf.inRd o=true->u∈pf.ids:=fun W1=>by
          obtain⟨u',a1,a2⟩:=hrd1 W1;rw[hbl]at a2;cases a2;exact a1
         simp only
         rw[if_pos (List.all_eq_true.2 fun p hp=>by
          obtain⟨o',a,b,c,e,f⟩:=h4 p hp;have:=hB' p.1 o' a b;simp only[c,e,Bool.not_true,Bool.false_or,Bool.and_false,Bool.and_eq_true,Bool.or_eq_true]at this;simp only[Bool.or_eq_true];rcases this.2 with (h7 | h7) | h7
          .exact .inl h7
          .exact .inr (f h7.2 u (hru h7.1))
          .cases h7)]
         have:=ih (done++[o]) {s with sl:=putP s.sl o.dst v,h:=h',rb:=(done.length,u)::s.rb} r hd' Zjy Zqo (fun p hp=>by
          rcases List.mem_cons.1 hp with rfl | hp
          .exact ⟨o,hio,by simp,hso,hru⟩
          .exact Zjx p hp) Zng hol he
         rwa [hlen]at this
        |none=>
         have hno:pf.inRd o=false:=by
          cases W1:pf.inRd o with
          |false=>rfl
          |true=>
           obtain⟨u',a1,a2⟩:=hrd1 W1;rw[hbl]at a2;cases a2
         have hB2:∀j p,ops.toList[j]?=some p->j < done.length->((!Zm9 ops.toList p||((Region.before ops).getD done.length 0).testBit j)&&(!Zam C pf p||(!Vp pf o&&!Vp pf p)||((Region.before ops).getD done.length 0).testBit j||(pf.inRd p&&pf.inFl o&&!Vp pf p)))=true:=fun j p hj hlt=>by
          have:=hB' j p hj hlt
          rwa [hno,Bool.or_false,Bool.false_and,Bool.or_false]at this
         have c1:(s.st.all fun x=>match x with | (j,w)=>(!w&&!(Tg o&&!Ru C s.sl o v))||((Region.before ops).getD done.length 0).testBit j)=true:=by
          rw[List.all_eq_true];rintro⟨j,w⟩ hj;obtain⟨p,a,b,c,e,f⟩:=h1 _ hj;have:=hB2 j p a b;simp only at e c f;simp only[c,f,Bool.not_true,Bool.false_or,Bool.and_eq_true,Bool.false_and,Bool.or_false]at this;simp only;have h2:=this.2;rw[Bool.or_eq_true]at h2 ⊢;rcases h2 with h2 | h2
          .left;rw[Bool.and_eq_true,Bool.not_eq_true',Bool.not_eq_true']at h2 ⊢;constructor
           .cases w with
            |false=>rfl
            |true=>rw[e rfl]at h2;cases h2.2
           .cases hx:(Tg o&&!Ru C s.sl o v) with
            |false=>rfl
            |true=>rw[hwi hx]at h2;cases h2.1
          .exact Or.inr h2
         have c2:(s.made.all fun j=>((Region.before ops).getD done.length 0).testBit j)=true:=by
          rw[List.all_eq_true];intro j hj;obtain⟨p,a,b,c⟩:=h2 _ hj;have:=hB2 j p a b;simp only[c,Bool.not_true,Bool.false_or,Bool.and_eq_true]at this;exact this.1
         have c5:(!(Tg o&&!Ru C s.sl o v)||s.rb.all fun x=>match x with | (c,u)=>((Region.before ops).getD done.length 0).testBit c||(Wm (X8 C K (fun t=>if (Yf ops.toList o).contains t then s.sl t else none) s.h o) u&&s.cur u))=true:=by
          cases hx:(Tg o&&!Ru C s.sl o v) with
          |false=>rfl
          |true=>
           simp only[Bool.not_true,Bool.false_or];refine List.all_eq_true.2 fun p hp=>?_
           obtain⟨o',a,b,c,f⟩:=h3 p hp;have:=hB2 p.1 o' a b;simp only[c,hwi hx,Bool.not_true,Bool.false_or,Bool.false_and,Bool.and_eq_true,Bool.or_eq_true]at this;simp only[Bool.or_eq_true,Bool.and_eq_true];rcases this.2 with h7 | h7
           .exact .inl h7
           .right;rw[h7.1.2,Bool.not_true,Bool.false_or]at Uq;have h8:=List.all_eq_true.1 Uq p.2 (f h7.1.1);rw[Bool.and_eq_true]at h8;exact⟨by rw[Zho hag];exact h8.1,Znx _ h8.2⟩
         simp only;rw[if_pos (by rw[c1,c2,c5];rfl)]
         have:=ih (done++[o]) {s with sl:=putP s.sl o.dst v,h:=h',st:=(done.length,Tg o&&!Ru C s.sl o v)::s.st,wt:=if (Tg o&&!Ru C s.sl o v)=true then (done.length,X8 C K (fun t=>if (Yf ops.toList o).contains t then s.sl t else none) s.h o)::s.wt else s.wt} r hd' (fun q hq=>by
          rcases List.mem_cons.1 hq with rfl | hq
          .exact ⟨o,hio,by simp,hso,hwi,hno⟩
          .exact Zjy q hq) Zqo Zjx (fun p hp=>by
          simp only at hp;split at hp
          .rename_i hx;rcases List.mem_cons.1 hp with rfl | hp
           .refine ⟨o,hio,by simp,hso,hwi hx,fun W1 u hu=>?_⟩;rw[W1,Bool.not_true,Bool.false_or]at Uq;have h8:=List.all_eq_true.1 Uq u hu;rw[Bool.and_eq_true]at h8;simp only[Zho hag];exact h8.1
           .exact Zng p hp
          .exact Zng p hp) hol he
         rwa [hlen]at this
       .cases he
theorem Zs3 {pf:Md}{ops:Array Oper}(hS:Stat C pf ops){sl:Yu}{h:PH}{r:Yu×PH}(he:Zav pf h C cf yf K ops.toList ops.toList sl h=some r):Zcw C cf yf K ops sl h=some r:=by
 obtain⟨s',h1,h2⟩:=Zr4 hS ops.toList [] {sl,h,st:=[],made:=[],old:=fun u=>(h.get u).map (·.1),rb:=[],wt:=[]} r rfl (by simp) (by simp) (by simp) (by simp) (fun _=>rfl) he;unfold Zcw;rw[show (0:Nat)=([]:List Oper).length from rfl,h1,Option.map_some,h2]
end
section
variable {C:Ctx}{K:Loc}{Xy:Bool}{sl:Yu}{h:PH}
theorem Zd6 (pf:Md){Q:Ex×Yu×PH->Prop}{id:Nat}{ops:Array Oper}(hS:Stat C pf ops)(hx:wp (Zav pf h C (Yv C) (Sc C) K ops.toList ops.toList sl h) fun p=>Q (.normal,p.1,p.2)):wp (Vl C K Xy (.region id ops true) sl h) Q:=by
 obtain⟨r,h1,h2⟩:=Y9.1 hx;rw[Z94,Zs3 hS h1];exact h2
end
theorem Yd {C:Ctx}{K:Loc}{Xy:Bool}{sl:Yu}{h:PH}(pf ld:Bool)(fr rd ids fl:List Nat)(ls:Bool){Q:Ex×Yu×PH->Prop}{id:Nat}{ops:Array Oper}(hS:Zf7 C {pf:=pf,ld:=ld,fr:=fr,rd:=rd,ids:=[],fl:=fl,ls:=ls} ops=true)
  (hx:wp (Zav {pf:=pf,ld:=ld,fr:=fr,rd:=rd,ids:=ids,fl:=fl,ls:=ls} h C (Yv C) (Sc C) K ops.toList ops.toList sl h) fun p=>Q (.normal,p.1,p.2)):wp (Vl C K Xy (.region id ops true) sl h) Q:=
 Zd6 {pf:=pf,ld:=ld,fr:=fr,rd:=rd,ids:=ids,fl:=fl,ls:=ls} ⟨hS⟩ hx
section
variable {C:Ctx}{cf:CF}{yf:YF}{K:Loc}{all:List Oper}{sl:Yu}{h h0:PH}{pf:Md}
@[simp] theorem Zagp {Q:Yu×PH->Prop}:wp (Zav pf h0 C cf yf K all [] sl h) Q=Q (sl,h):=rfl
@[simp] theorem Zacj {o:Oper}{r:List Oper}{Q:Yu×PH->Prop}:wp (Zav pf h0 C cf yf K all (o::r) sl h) Q =
  wp (Vz all sl o) fun w=>ifB w
   (opF (Yj C sl o) (fun v=>ifB (W8 3 v) (wp (Zav pf h0 C cf yf K all r (putP sl o.dst v) h) Q) False)
     (opM (V6 C all sl o) (fun m=>match m.obj,o.dst with
       |none,_=>wp (Zav pf h0 C cf yf K all r (putP sl o.dst (m.val 0 0)) h) Q
       |some ob,some d=>wp (Zav pf h0 C cf yf K all r (sl.put d (m.val (K.base+d) (h.stamp (K.base+d)))) (h.put (K.base+d) (h.stamp (K.base+d)) ob)) Q
       |some _,none=>False)
     (wp (Zh C cf yf all K sl h o) fun p=>ifB (!pf.free o&&(!(pf.pf&&Zxc o.op)||Ru C sl o p.1)&&(!pf.inRd o||pf.okB h0 h sl o p.1)&&(!pf.inFl o||pf.ids.all fun u=>Wm (X8 C K sl h o) u&&Z5c h0 h u)) (wp (Zav pf h0 C cf yf K all r (putP sl o.dst p.1) p.2) Q) False)))
   (wp (Zav pf h0 C cf yf K all r (putP sl o.dst (.tuple [])) h) Q):=by
 simp only[Zav];cases Vz all sl o with
 |none=>rfl
 |some w=>
  cases w with
  |false=>rfl
  |true=>
   simp only[Zro,Zvy];cases Yj C sl o with
   |some v=>
    simp only[Z7b];cases hs:W8 3 v<;>simp[ifB]
   |none=>
    simp only[Zvg];cases V6 C all sl o with
    |some m=>
     simp only[Zvf];cases m.obj with
     |none=>rfl
     |some ob=>cases o.dst<;>rfl
    |none=>
     simp only[Z7a];cases Zh C cf yf all K sl h o with
     |none=>rfl
     |some p=>
      simp only[Zro];cases hs:(!pf.free o&&(!(pf.pf&&Zxc o.op)||Ru C sl o p.1)&&(!pf.inRd o||pf.okB h0 h sl o p.1)&&(!pf.inFl o||pf.ids.all fun u=>Wm (X8 C K sl h o) u&&Z5c h0 h u))<;>simp only[Bool.false_eq_true,if_false,if_true,Zvy,Z3w,Zack]
end
attribute [simp] W8 Zxc Ru X3 Zag6 Md.free Md.inRd Md.inFl Md.okB Zaad Z5c Zib X8 Wm
end Go.Pure
end
section
namespace Go.Pure
open Go
open Go.Virt (Ex Ctx Ty TK)
theorem R4:Virt.maxLenV=1073741824:=rfl
def Acc (S:List Nat)(K:Loc)(h:PH)(g:Nat)(v:PV)(xs:List PV):Prop:=
 (xs=[]/\v=.nils)\/∃d Zc,xs≠[]/\d∈S/\v=.own (K.base+d) Zc g 0 xs.length/\h.get (K.base+d)=some (Zc,.row g true xs)
theorem Acc.nil {S:List Nat}{K:Loc}{h:PH}{g:Nat}:Acc S K h g .nils []:=Or.inl ⟨rfl,rfl⟩
theorem Acc.inl {S:List Nat}{K:Loc}{h:PH}{g:Nat}{v:PV}{xs:List PV}(hA:Acc S K h g v xs):inlV h v=some (L g true xs):=by
 rcases hA with⟨rfl,rfl⟩ | ⟨d,Zc,Yi,_,rfl,hg⟩
 .rfl
 .cases xs with
  |nil=>exact absurd rfl Yi
  |cons=>simp[inlV,Qw,PH.elems,PH.row,hg,L]
theorem Acc.inlT {S:List Nat}{K:Loc}{h:PH}{g:Nat}{v:PV}{xs:List PV}(hA:Acc S K h g v xs):inlT h v=inlV h v:=by
 rcases hA with⟨rfl,rfl⟩ | ⟨d,Zc,Yi,_,rfl,hg⟩<;>rfl
theorem Acc.len {S:List Nat}{K:Loc}{h:PH}{g:Nat}{v:PV}{xs:List PV}(hA:Acc S K h g v xs):Z3t v=some xs.length:=by
 rcases hA with⟨rfl,rfl⟩ | ⟨d,Zc,Yi,_,rfl,hg⟩<;>rfl
theorem Acc.frame {S:List Nat}{K:Loc}{h h':PH}{g:Nat}{v:PV}{xs:List PV}(hA:Acc S K h g v xs)(hf:∀d,d∈S->h'.get (K.base+d)=h.get (K.base+d)):Acc S K h' g v xs:=by
 rcases hA with h1 | ⟨d,Zc,Yi,hd,e,hg⟩
 .exact Or.inl h1
 .exact Or.inr ⟨d,Zc,Yi,hd,e,by rw[hf d hd,hg]⟩
theorem Acc.own {S:List Nat}{K:Loc}{h:PH}{g:Nat}{v:PV}{xs:List PV}(hA:Acc S K h g v xs)(Yi:xs≠[]):∃d Zc,d∈S/\v=.own (K.base+d) Zc g 0 xs.length/\h.get (K.base+d)=some (Zc,.row g true xs):=by
 rcases hA with⟨e,_⟩ | h1
 .exact absurd e Yi
 .obtain ⟨d,Zc,_,h2,h3,h4⟩:=h1;exact⟨d,Zc,h2,h3,h4⟩
theorem Acc.app {S:List Nat}{K:Loc}{h:PH}{g:Nat}{v:PV}{xs ys:List PV}{T:Ty}{dd:Nat}(hA:Acc S K h g v xs)(hd:dd∈S)(hK:K.lo=K.base)(h1:xs.length+ys.length<=1073741824)(h2:T.bytes<=65536)(h3:0 < T.size)(h4:ys≠[]):
  ∃v' h',Xq K h dd g T ys.length ys v=some (v',h')/\Acc S K h' g v' (xs++ys)/\h'.next=h.next/\∀j,(∀d,d∈S->j≠K.base+d)->h'.get j=h.get j:=by
 have hl:ys.length≠0:=by
  cases ys with
  |nil=>exact absurd rfl h4
  |cons=>simp
 rcases hA with⟨rfl,rfl⟩ | ⟨d,Zc,Yi,hdS,rfl,hg⟩
 .refine ⟨_,_,Zaf (by omega) h2 h3 hl,Or.inr ⟨dd,h.stamp (K.base+dd),by simpa using h4,hd,by simp,by simp⟩,rfl,fun j hj=>?_⟩;simp[hj dd hd]
 .have hr:h.row (K.base+d) Zc g=some (true,xs):=by simp[PH.row,hg]
  refine⟨_,_,((by rw[Qt,hr];rfl:Xq K h dd g T ys.length ys (.own (K.base+d) Zc g 0 xs.length)=Zxk K h T g (K.base+d) Zc 0 xs.length ys.length ys (true,xs)).trans (Zl8 h1 h2 h3 (by simp[can,hK]) rfl (by simp))),Or.inr ⟨d,Zc+1,by simp[h4],hdS,by simp,by simp⟩,rfl,fun j hj=>?_⟩;simp[hj d hdS]
theorem Wz {h:PH}:∀ {args:List PV},args.flatMap ownV=[]->Xe (inlV h) args=some args:=by
 have Zf0:∀a,ownV a=[]->inlV h a=some a:=by
  intro a ha
  have hc:∀cs:List PV,cs.flatMap Sd=[]->Xe (Qw h) cs=some cs:=by
   intro cs
   induction cs with
   |nil=>intro _;rfl
   |cons c cs ih=>
    intro hh;rw[List.flatMap_cons,List.append_eq_nil_iff]at hh;simp only[Xe,ih hh.2];cases c<;>simp_all[Sd,Qw]
  cases a with
  |agg cs=>simp only[inlV];rw[hc cs ha];rfl
  |own=>simp[ownV,Sd]at ha
  | _=>rfl
 intro args
 induction args with
 |nil=>intro _;rfl
 |cons a l ih=>
  intro ho;rw[List.flatMap_cons,List.append_eq_nil_iff]at ho;simp only[Xe,Zf0 a ho.1,ih ho.2]
theorem Acc.call {C:Ctx}{S:List Nat}{K:Loc}{h:PH}{g f:Nat}{v w:PV}{xs:List PV}(hA:Acc S K h g v xs)(hK:K.lo=K.base)(Xk:C.raw f=false)(pre post:List PV)(Zzm:Xn C f (pre++L g true xs::post) w)(hw:Zdt w=true)
  (h1:(pre++post).flatMap ownV=[]) (h2:(pre++post).flatMap (refs 3)=[]):Yv C K f (pre++v::post) h=some (w,h):=by
 rw[List.flatMap_append,List.append_eq_nil_iff]at h1 h2
 have Zn0:∀(a b:List PV) (a' b':List PV),Xe (inlV h) a=some a'->Xe (inlV h) b=some b'->Xe (inlV h) (a++b)=some (a'++b'):=by
  intro a
  induction a with
  |nil=>intro b a' b' e1 e2;simp only[Xe,Option.some.injEq]at e1;subst e1;exact e2
  |cons x a ih=>
   intro b a' b' e1 e2;simp only[Xe]at e1;simp only[List.cons_append,Xe];split at e1
   .rename_i y ys hy hys;cases e1;rw[hy,ih b ys b' hys e2];rfl
   .cases e1
 refine Zoo Zzm hw Xk (Zn0 _ _ _ _ (Wz h1.1) ?_) (by cases pre<;>rfl) ?_ ?_ ?_
 .simp only [Xe,hA.inl,Wz h1.2]
 .rw [List.flatMap_append,List.flatMap_cons,h1.1,h1.2];simp
 .rw [List.flatMap_append,List.flatMap_cons,h2.1,h2.2];simp
 .rw [List.flatMap_append,List.flatMap_cons,h1.1,h1.2];rcases hA with⟨_,rfl⟩ | ⟨d,Zc,_,_,rfl,hg⟩
  .simp
  .simp [hg,can,hK]
theorem Z1f {p:Prop}[Decidable p]{A B:Prop}{t:Tag A}{u:Tag B}(h1:p->A)(h2:¬p->B):ifB (decide p) A B t u:=by
 by_cases h:p
 .rw [decide_eq_true h];exact h1 h
 .rw [decide_eq_false h];exact h2 h
theorem Zly {α:Type}[BEq α][LawfulBEq α]{a b:α}{A B:Prop}{t:Tag A}{u:Tag B}(h1:a=b->A)(h2:(a==b)=false->a≠b->B):ifB (a==b) A B t u:=by
 by_cases h:a=b
 .subst h;rw[BEq.rfl];exact h1 rfl
 .rw [beq_false_of_ne h];exact h2 (beq_false_of_ne h) h
theorem Zvz {p:Prop}[Decidable p]{A B:Prop}{t:Tag A}{u:Tag B}(h:p)(hA:p->A):ifB (decide p) A B t u:=by rw[decide_eq_true h];exact hA h
theorem Zv0 {p:Prop}[Decidable p]{A B:Prop}{t:Tag A}{u:Tag B}(h:¬p)(hB:¬p->B):ifB (decide p) A B t u:=by rw[decide_eq_false h];exact hB h
theorem Z74 {a b:Int}{A B:Prop}{t:Tag A}{u:Tag B}(h:a=b)(hA:a=b->A):ifB (a==b) A B t u:=by subst h;rw[BEq.rfl];exact hA rfl
theorem Z75 {a b:Int}{A B:Prop}{t:Tag A}{u:Tag B}(h:a≠b)(hB:(a==b)=false->a≠b->B):ifB (a==b) A B t u:=by rw[beq_false_of_ne h];exact hB (beq_false_of_ne h) h
@[simp] theorem Zape {n i:Nat}{h:PH}:PH.stamp ⟨n,h.get⟩ i=h.stamp i:=rfl
@[simp] theorem Zamy {i j v:Nat}{o:PO}{h:PH}:PH.stamp (h.put i v o) j=if j=i then v+1 else h.stamp j:=by
 simp only[PH.stamp,PH.put];split<;>rename_i hh
 .split at hh
  .rename_i e;cases hh;simp[e]
  .rename_i e;rw[hh];simp[e]
 .split at hh
  .cases hh
  .rename_i e;rw[hh];simp[e]
theorem Zua {n:Int}(h1 : -9223372036854775808<=n)(h2:n < 9223372036854775808):IntKind.i64.wrap n=n:=Zub h1 h2
theorem Z59 {n:Int}(h1:0<=n)(h2:n < 256):IntKind.u8.wrap n=n:=Zaci h1 h2
theorem Zaox {n:Int}(h1:0<=n)(h2:n < 18446744073709551616):IntKind.u64.wrap n=n:=Zp1 h1 h2
theorem wrap32 {n:Int}(h1:0<=n)(h2:n < 4294967296):IntKind.u32.wrap n=n:=by
 simp only[IntKind.wrap,IntKind.bits,IntKind.signed,Bool.false_and,Bool.false_eq_true,if_false];omega
theorem toNat_add_nat (a b:Nat):((a:Int)+(b:Int)).toNat=a+b:=by omega
theorem Ztm (a b:Int):a+b - a=b:=by omega
theorem Z7z {a b:Int}:(if a < b then b else a)=max a b:=by omega
theorem Z7x {a b:Int}:(if a < b then a else b)=min a b:=by omega
theorem Z7y {a b:Nat}:(if a < b then (b:Int) else (a:Int))=((max a b:Nat):Int):=by omega
theorem Z7w {a b:Nat}:(if a < b then (a:Int) else (b:Int))=((min a b:Nat):Int):=by omega
theorem Zdg {l:List Nat}(h:∀c,c∈l->c < 256):Zh.bytesP (l.map fun c:Nat=>PV.int .u8 (c:Int))=some l:=by
 induction l with
 |nil=>rfl
 |cons c l ih=>
  have h1:c < 256:=h c List.mem_cons_self;have h2:=ih fun d hd=>h d (List.mem_cons_of_mem _ hd)
  simp only[List.map_cons,Zh.bytesP,h2,Option.map_some];congr 2;omega
def Stop (P:Prop)(_t:Tag P:=⟨⟩):Prop:=P
theorem Zls {P:Prop}{t:Tag P}(h:P):Stop P t:=h
theorem Zlq {C:Ctx}{K:Loc}{Xy:Bool}{A B:Code}{sl:Yu}{h:PH}{Q:Ex×Yu×PH->Prop}(hx:wp (Vl C K Xy A sl h) fun r=>match r with
  | (.normal,Yw,h')=>Stop (wp (Vl C K Xy B Yw h') Q)
  |r=>Q r):wp (Vl C K Xy (.seq A B) sl h) Q:=by
 rw[wp_seq];exact hx
theorem Z6b {C:Ctx}{K:Loc}{Xy:Bool}{A B:Code}{sl:Yu}{h:PH}{Q:Ex×Yu×PH->Prop}(R:Yu->PH->Prop)(hx:wp (Vl C K Xy A sl h) fun r=>match r with
  | (.normal,Yw,h')=>R Yw h'
  |r=>Q r) (hB:∀sl h,R sl h->wp (Vl C K Xy B sl h) Q):wp (Vl C K Xy (.seq A B) sl h) Q:=by
 rw[wp_seq];refine wp_mono hx ?_;rintro⟨x,Yw,h'⟩ hr;cases x with
 |normal=>exact hB _ _ hr
 |exit id=>exact hr
 |ret=>exact hr
theorem Zs:(∀ {n:Int}, -9223372036854775808<=n->n < 9223372036854775808->IntKind.i64.wrap n=n)/\(∀ {n:Int},0<=n->n < 256->IntKind.u8.wrap n=n)/\(∀ {n:Int},0<=n->n < 18446744073709551616->IntKind.u64.wrap n=n)/\(∀ {n:Int},0<=n->n < 4294967296->IntKind.u32.wrap n=n)/\(∀a b:Nat,((a:Int)+(b:Int)).toNat=a+b)/\(∀a b:Int,a+b - a=b)/\(∀ {a b:Int},(if a < b then b else a)=max a b)/\(∀ {a b:Int},(if a < b then a else b)=min a b)/\(∀ {a b:Nat},(if a < b then (b:Int) else (a:Int))=((max a b:Nat):Int))/\∀ {a b:Nat},(if a < b then (a:Int) else (b:Int))=((min a b:Nat):Int):=
 ⟨Zua,Z59,Zaox,wrap32,toNat_add_nat,Ztm,Z7z,Z7x,Z7y,Z7w⟩
theorem Zz:(∀ {g:Nat},L g true []=.nils)/\(∀ {g:Nat} {b:Bool} {x:PV} {xs:List PV},L g b (x::xs)=.lst g (x::xs))/\(∀ {n:Int}, -9223372036854775808<=n->n < 9223372036854775808->IntKind.i64.wrap n=n)/\(∀ {n:Int},0<=n->n < 256->IntKind.u8.wrap n=n)/\(∀ {n:Int},0<=n->n < 18446744073709551616->IntKind.u64.wrap n=n)/\(∀ {n:Int},0<=n->n < 4294967296->IntKind.u32.wrap n=n)/\(∀a b:Nat,((a:Int)+(b:Int)).toNat=a+b)/\(∀a b:Int,a+b - a=b)/\(∀ {a b:Int},(if a < b then b else a)=max a b)/\(∀ {a b:Int},(if a < b then a else b)=min a b)/\(∀ {a b:Nat},(if a < b then (b:Int) else (a:Int))=((max a b:Nat):Int))/\∀ {a b:Nat},(if a < b then (a:Int) else (b:Int))=((min a b:Nat):Int):=⟨Wi,Xs,Zs⟩
theorem Zq {P:Prop}(h:P:=by first|omega|(simp<;>omega)|fail):P:=h
theorem Zw {P:Prop}(h:P:=by first|omega|(simp<;>omega)|(simp[*];done)|fail):P:=h
structure Im (p A:Prop)(s:Tag p:=⟨⟩)(t:Tag A:=⟨⟩):Prop where
 h:p->A
theorem Zi {p A:Prop}{s:Tag p}{t:Tag A}(h:p->A):Im p A s t:=⟨h⟩
theorem Zm {A:Prop}(h:Im True A):A:=h.h trivial
structure Cn (b:Bool)(p:Prop)(T F:Prop->Prop):Prop where
 h:∀ {A B:Prop} {t:Tag A} {u:Tag B},(p->T A->ifB b A B t u)/\(¬p->F B->ifB b A B t u)/\(T A->F B->ifB b A B t u)
theorem Y3 {b:Bool}:Cn b (b=true) (fun A=>Im (b=true) A) (fun B=>Im (b=false) B):=⟨fun {A B t u}=>⟨fun h a=>Zcn (t:=t) (u:=u) a.h (fun e=>absurd h (by simp[e])),fun h a=>Zcn (t:=t) (u:=u) (fun e=>absurd e h) a.h,fun a c=>Zcn a.h c.h⟩⟩
theorem Y2 {p:Prop}[Decidable p]:Cn (decide p) p (fun A=>Im p A) (fun B=>Im (¬p) B):=⟨fun {A B t u}=>⟨fun h a=>Zvz h a.h,fun h a=>Zv0 h a.h,fun a c=>Z1f a.h c.h⟩⟩
theorem Y1 {α:Type}[BEq α][LawfulBEq α]{a b:α}:Cn (a==b) (a=b) (fun A=>Im (a=b) A) (fun B=>Im ((a==b)=false) (Im (a≠b) B)):=⟨fun {A B t u}=>⟨fun h x=>Zly (t:=t) (u:=u) x.h (fun _ e=>absurd h e),fun h x=>Zly (t:=t) (u:=u) (fun e=>absurd e h) (fun e f=>(x.h e).h f),fun x y=>Zly x.h (fun e f=>(y.h e).h f)⟩⟩
theorem Y0 {a b:Int}:Cn (a==b) (a=b) (fun A=>Im (a=b) A) (fun B=>Im ((a==b)=false) (Im (a≠b) B)):=Y1
structure An (P Q:Prop):Prop where
 l:P
 r:Q
theorem Zn {P Q:Prop}(l:P)(r:Q):An P Q:=⟨l,r⟩
structure Dn (b:Bool)(A B R:Prop):Prop where
 h:∀ {t:Tag A} {u:Tag B},R->ifB b A B t u
section
variable {b:Bool}{p:Prop}{T F:Prop->Prop}{A B R:Prop}{t:Tag A}{u:Tag B}
theorem E1 (c:Cn b p T F:=by first|exact Y0|((fail_if_success exact Y1);exact Y2)|fail)(h:p:=by omega):Dn b A B (T A):=⟨fun a=>c.h.1 h a⟩
theorem E2 (c:Cn b p T F:=by first|exact Y0|((fail_if_success exact Y1);exact Y2)|fail)(h:¬p:=by omega):Dn b A B (F B):=⟨fun a=>c.h.2.1 h a⟩
theorem E3 (c:Cn b p T F:=by first|exact Y1|exact Y2|exact Y3|fail):Dn b A B (An (T A) (F B)):=⟨fun a=>c.h.2.2 a.l a.r⟩
theorem Zx (h:R)(c:Dn b A B R:=by first|exact E1|exact E2|exact E3|fail):ifB b A B t u:=c.h h
end
section
variable {A B:Prop}{t:Tag A}{u:Tag B}
theorem Z1 {a b:Int}(hA:a=b->A)(h:a=b:=by omega):ifB (a==b) A B t u:=Z74 h hA
theorem Z2 {a b:Int}(hB:(a==b)=false->a≠b->B)(h:a≠b:=by omega):ifB (a==b) A B t u:=Z75 h hB
theorem Z3 {α:Type}[BEq α][LawfulBEq α]{a b:α}(h1:a=b->A)(h2:(a==b)=false->a≠b->B):ifB (a==b) A B t u:=Zly h1 h2
theorem Z4 {p:Prop}[Decidable p](hA:p->A)(h:p:=by omega):ifB (decide p) A B t u:=Zvz h hA
theorem Z5 {p:Prop}[Decidable p](hB:¬p->B)(h:¬p:=by omega):ifB (decide p) A B t u:=Zv0 h hB
theorem Z6 {p:Prop}[Decidable p](h1:p->A)(h2:¬p->B):ifB (decide p) A B t u:=Z1f h1 h2
theorem Z7 {b:Bool}(h1:b=true->A)(h2:b=false->B):ifB b A B t u:=Zcn h1 h2
end
structure Dm (C:Ctx)(ops:Array Oper)(m:Md):Prop where
 h:Zf7 C m ops=true
theorem D1 {C:Ctx}{ops:Array Oper}(h:Zf7 C {pf:=false,ld:=false,fr:=[]} ops=true:=by decide +kernel):Dm C ops {pf:=false,ld:=false,fr:=[]}:=⟨h⟩
theorem D2 {C:Ctx}{ops:Array Oper}(h:Zf7 C {pf:=true,ld:=false,fr:=[]} ops=true:=by decide +kernel):Dm C ops {pf:=true,ld:=false,fr:=[]}:=⟨h⟩
theorem D3 {C:Ctx}{ops:Array Oper}(h:Zf7 C {pf:=false,ld:=true,fr:=[]} ops=true:=by decide +kernel):Dm C ops {pf:=false,ld:=true,fr:=[]}:=⟨h⟩
section
variable {C:Ctx}{K:Loc}{Xy:Bool}{sl:Yu}{h:PH}{Q:Ex×Yu×PH->Prop}{id:Nat}{ops:Array Oper}
theorem Z8 (hx:wp (Zav {pf:=false,ld:=false,fr:=[]} h C (Yv C) (Sc C) K ops.toList ops.toList sl h) fun p=>Q (.normal,p.1,p.2))(hS:Zf7 C {pf:=false,ld:=false,fr:=[]} ops=true:=by decide +kernel):wp (Vl C K Xy (.region id ops true) sl h) Q:=Zd6 _ ⟨hS⟩ hx
theorem Z9 (hx:wp (Zav {pf:=true,ld:=false,fr:=[]} h C (Yv C) (Sc C) K ops.toList ops.toList sl h) fun p=>Q (.normal,p.1,p.2))(hS:Zf7 C {pf:=true,ld:=false,fr:=[]} ops=true:=by decide +kernel):wp (Vl C K Xy (.region id ops true) sl h) Q:=Zd6 _ ⟨hS⟩ hx
theorem Z0 (hx:wp (Zav {pf:=false,ld:=true,fr:=[]} h C (Yv C) (Sc C) K ops.toList ops.toList sl h) fun p=>Q (.normal,p.1,p.2))(hS:Zf7 C {pf:=false,ld:=true,fr:=[]} ops=true:=by decide +kernel):wp (Vl C K Xy (.region id ops true) sl h) Q:=Zd6 _ ⟨hS⟩ hx
theorem Ye {m:Md}(hx:Im True (wp (Zav m h C (Yv C) (Sc C) K ops.toList ops.toList sl h) fun p=>Q (.normal,p.1,p.2)))(c:Dm C ops m:=by first|exact D1|exact D2|exact D3|fail):wp (Vl C K Xy (.region id ops true) sl h) Q:=Zd6 _ ⟨c.h⟩ (hx.h trivial)
theorem Wc {K:Pure.Loc}{f:Nat}{args:List PV}{fn:Func}{c:Code}{v:PV}(hF:C.F f=some fn)
  (hx:wp (Vl C {base:=h.next,lo:=h.next,ok:=[]} true c (Sb 0 args) {h with next:=h.next+fn.ntmps}) fun r=>(r.1=.normal\/r.1=.ret)/\wp (Us C r.2.1 r.2.2 fn.results.toList) fun vs=>
    inlT r.2.2 (Wr vs)=some v/\(ownT (Wr vs)).all (fun i=>Nat.ble h.next i)=true) (h0:(C.ext f []).isNone=true:=by rfl) (hb:fn.body=some c:=by rfl) (Xk:C.raw f=false:=by rfl) (ho:args.flatMap ownV=[]:=by simp) (hr:args.flatMap (refs 3)=[]:=by simp) (hv:below h.next 4 v=true:=by simp[*]):Yv C K f args h=some (v,h):=Zhj h0 hF hb Xk ho hr hx hv
end
theorem Acc.lenK {S:List Nat}{K:Loc}{h:PH}{g e:Nat}{v:PV}{xs:List PV}(hA:Acc S K h g v xs):Pure.lenK (.slice e) v=some (.int .i64 xs.length):=by
 rcases hA with⟨rfl,rfl⟩ | ⟨d,Zc,Yi,_,rfl,hg⟩<;>rfl
theorem Acc.ownT {S:List Nat}{K:Loc}{h:PH}{g:Nat}{v:PV}{xs:List PV}(hA:Acc S K h g v xs):∀x,x∈ownT v->K.base<=x:=by
 rcases hA with⟨rfl,rfl⟩ | ⟨d,Zc,Yi,_,rfl,hg⟩
 .intro x hx;simp[Pure.ownT]at hx
 .intro x hx;simp[Pure.ownT]at hx;omega
theorem Acc.same {S:List Nat}{K:Loc}{h:PH}{g n:Nat}{v:PV}{xs:List PV}(hA:Acc S K h g v xs):W8 n v=true:=by
 rcases hA with⟨rfl,rfl⟩ | ⟨d,Zc,Yi,_,rfl,hg⟩<;>cases n<;>rfl
theorem Acc.pos {S:List Nat}{K:Loc}{h:PH}{g k:Nat}{v:PV}{α:Type}{f:α->PV}{l:List α}(hA:Acc S K h g v (l.map f))(hk:k < l.length):∃d Zc,d∈S/\v=.own (K.base+d) Zc g 0 l.length/\h.get (K.base+d)=some (Zc,.row g true (l.map f)):=by
 obtain⟨d,Zc,h1,h2,h3⟩:=hA.own (by intro e;simp at e;rw[e]at hk;simp at hk);rw[List.length_map]at h2;exact⟨d,Zc,h1,h2,h3⟩
theorem Acc.app' {S:List Nat}{K:Loc}{h:PH}{g:Nat}{v:PV}{xs ys:List PV}{T:Ty}{dd:Nat}(hA:Acc S K h g v xs)(hd:dd∈S)(hK:K.lo=K.base)(h1:xs.length+ys.length<=1073741824)(h2:T.bytes<=65536)(h3:0 < T.size):
  ∃v' h',Xq K h dd g T ys.length ys v=some (v',h')/\Acc S K h' g v' (xs++ys)/\h'.next=h.next/\∀j,(∀d,d∈S->j≠K.base+d)->h'.get j=h.get j:=by
 by_cases h4:ys=[]
 .subst h4;rcases hA with⟨rfl,rfl⟩ | ⟨d,Zc,Yi,hdS,rfl,hg⟩
  .refine ⟨.nils,h,?_,Or.inl ⟨rfl,rfl⟩,rfl,fun j hj=>rfl⟩;simp only[Xq,List.length_nil];rw[if_pos ⟨by decide,h2,h3⟩,if_pos trivial]
  .have hr:h.row (K.base+d) Zc g=some (true,xs):=by simp[PH.row,hg]
   refine⟨_,_,((by rw[Qt,hr];rfl:Xq K h dd g T ([]:List PV).length [] (.own (K.base+d) Zc g 0 xs.length)=Zxk K h T g (K.base+d) Zc 0 xs.length ([]:List PV).length [] (true,xs)).trans (Zl8 h1 h2 h3 (by simp[can,hK]) rfl (by simp))),Or.inr ⟨d,Zc+1,by simpa using Yi,hdS,by simp,by simp⟩,rfl,fun j hj=>?_⟩;simp[hj d hdS]
 .exact hA.app hd hK h1 h2 h3 h4
theorem Rh {p:Nat}:∀ {l:List Nat} {h:PH},(∀i∈l,i≠p)->(h.freeze l).get p=h.get p
 | [],h,_=>rfl
 |i::r,h,hp=>by
  have h1:=hp i (by simp);have h2:∀j∈r,j≠p:=fun j hj=>hp j (by simp[hj])
  simp only[PH.freeze];split
  .rw [Rh h2];simp[PH.put,Ne.symm h1]
  .exact Rh h2
theorem Z6c {C:Ctx}{K:Loc}{f p Zc off:Nat}{rest:List PV}{h:PH}{o o':PO}{ver':Nat}{fn:Func}{c:Code}{v:PV}(hF:C.F f=some fn)(hb:fn.body=some c)(Xk:C.raw f=false)(ho:rest.flatMap ownV=[])(hr:rest.flatMap (refs 3)=[])
  (Zt:can K p=true) (hlt:p < h.next) (hp:h.get p=some (Zc,o)) (hro:refsO o=[])
  (hx:wp (Vl C {base:=h.next,lo:=h.next,ok:=[p]} true c (Sb 0 (.ptr p Zc off::rest)) {h with next:=h.next+fn.ntmps}) fun r=>(r.1=.normal\/r.1=.ret)/\wp (Us C r.2.1 r.2.2 fn.results.toList) fun vs=>
    inlT r.2.2 (Wr vs)=some v/\(ownT (Wr vs)).all (fun i=>Nat.ble h.next i)=true/\r.2.2.get p=some (ver',o')) (hv:below h.next 4 v=true) (hbo:Wl h.next o'=true):
  Yv C K f (.ptr p Zc off::rest) h=some (v,h.put p ver' o'):=by
 have hm:Xe (inlV h) (.ptr p Zc off::rest)=some (.ptr p Zc off::rest):=Wz (by simpa[ownV,Sd]using ho);obtain⟨⟨x,Yw,h2⟩,h1,h3,h4⟩:=Y9.1 hx;obtain⟨vs,h5,h6,h7,h8⟩:=Y9.1 h4;simp only at h6 h7 h8;have hids:(PV.ptr p Zc off::rest).flatMap ownV=[]:=by simpa[ownV,Sd]using ho
 have hrf:(PV.ptr p Zc off::rest).flatMap (refs 3)=[p]:=by rw[List.flatMap_cons,hr];rfl
 have hre:reach h 4 [p]=[p]:=by simp[reach,hp,hro]
 have hfz:(h2.freeze (ownT (Wr vs))).get p=some (ver',o'):=by
  rw[Rh,h8];intro i hi;have:=List.all_eq_true.1 h7 i hi;simp at this;omega
 have hs:Xm h h2 [p] [] (Wr vs)=some (v,h.put p ver' o'):=by
  unfold Xm;rw[h6]
  have hall:(ownT (Wr vs)).all (fun i=>Nat.ble h.next i||[p].any (Nat.beq i))=true:=by
   rw[List.all_eq_true]at h7 ⊢;intro i hi;rw[h7 i hi];rfl
  simp only[hall,hv,List.all_cons,List.all_nil,Bool.and_true,Bool.true_and,PH.belowAt,hfz,hbo,if_true,Yg]
 rw[Uo];unfold callF;have Vx:extP C f (.ptr p Zc off::rest)=none:=rfl;rw[Vx];simp only[hF,hb,Xk,Bool.false_eq_true,if_false,hm,hids,hrf,hre,List.all_cons,List.all_nil,Bool.and_true,Zt,hp,Option.isSome_some,if_true,PH.freeze];have h1':Vl C {base:=h.next,lo:=h.next,ok:=[p]} true c (Sb 0 (.ptr p Zc off::rest)) {next:=h.next+fn.ntmps,get:=h.get}=some (x,Yw,h2):=h1;rw[h1'];simp only at h5;rcases h3 with h3 | h3<;>simp only at h3<;>subst h3<;>simp only[h5]<;>exact hs
theorem Zu4 {h:PH}{p Zc:Nat}{o:PO}(hp:h.get p=some (Zc,o)):h.put p Zc o=h:=by
 have:(h.put p Zc o).get=h.get:=by
  funext j;simp only[Zgu];split
  .rename_i e;rw[e,hp]
  .rfl
 cases h;simp only[PH.put]at this ⊢;congr 1
theorem T6 {h:PH}{p v1 v2:Nat}{o1 o2:PO}:(h.put p v1 o1).put p v2 o2=h.put p v2 o2:=by
 simp only[PH.put];congr 1;funext j;split<;>rfl
theorem Wp {C:Ctx}{K:Loc}{f p Zc off:Nat}{rest:List PV}{h:PH}{o o':PO}{ver':Nat}{fn:Func}{c:Code}{v:PV}(hF:C.F f=some fn)
  (Zt:can K p=true) (hlt:p < h.next) (hp:h.get p=some (Zc,o))
  (hx:wp (Vl C {base:=h.next,lo:=h.next,ok:=[p]} true c (Sb 0 (.ptr p Zc off::rest)) {h with next:=h.next+fn.ntmps}) fun r=>(r.1=.normal\/r.1=.ret)/\wp (Us C r.2.1 r.2.2 fn.results.toList) fun vs=>
    inlT r.2.2 (Wr vs)=some v/\(ownT (Wr vs)).all (fun i=>Nat.ble h.next i)=true/\r.2.2.get p=some (ver',o'))
  (hb:fn.body=some c:=by rfl) (Xk:C.raw f=false:=by rfl) (ho:rest.flatMap ownV=[]:=by simp) (hr:rest.flatMap (refs 3)=[]:=by simp) (hro:refsO o=[]:=by simp[refsO]) (hv:below h.next 4 v=true:=by simp[*]) (hbo:Wl h.next o'=true:=by simp[Wl]):
  Yv C K f (.ptr p Zc off::rest) h=some (v,h.put p ver' o'):=Z6c hF hb Xk ho hr Zt hlt hp hro hx hv hbo
theorem Zdb {h h3:PH}:∀ {l:List Nat},(∀i∈l,h3.get i=h.get i)->Yg h3 l h=h
 | [],_=>rfl
 |i::r,hl=>by
  have h1:=hl i (by simp);simp only[Yg];cases hg:h3.get i with
  |none=>exact Zdb fun j hj=>hl j (by simp[hj])
  |some x=>
   obtain⟨Zc,o⟩:=x;rw[hg]at h1;simp only;rw[Zu4 h1.symm];exact Zdb fun j hj=>hl j (by simp[hj])
theorem Vc {C:Ctx}{K:Loc}{f:Nat}{args:List PV}{h:PH}{ok:List Nat}{fn:Func}{c:Code}{v:PV}(hF:C.F f=some fn)(hb:fn.body=some c)(Xk:C.raw f=false)(Zir:(C.ext f []).isNone=true)(ho:args.flatMap ownV=[])(hre:reach h 4 (args.flatMap (refs 3))=ok)
  (Zt:ok.all (fun i=>can K i&&(h.get i).isSome)=true) (hlt:∀i∈ok,i < h.next) (hbo:∀i∈ok,h.belowAt h.next i=true)
  (hx:wp (Vl C {base:=h.next,lo:=h.next,ok:=ok} true c (Sb 0 args) {h with next:=h.next+fn.ntmps}) fun r=>(r.1=.normal\/r.1=.ret)/\wp (Us C r.2.1 r.2.2 fn.results.toList) fun vs=>
    inlT r.2.2 (Wr vs)=some v/\(ownT (Wr vs)).all (fun i=>Nat.ble h.next i)=true/\∀i∈ok,r.2.2.get i=h.get i) (hv:below h.next 4 v=true):
  Yv C K f args h=some (v,h):=by
 have Vx:=Zcv (args:=args) Zir Xk;have hm:Xe (inlV h) args=some args:=Wz ho;obtain⟨⟨x,Yw,h2⟩,h1,h3,h4⟩:=Y9.1 hx;obtain⟨vs,h5,h6,h7,h8⟩:=Y9.1 h4;simp only at h6 h7 h8
 have hfz:∀i∈ok,(h2.freeze (ownT (Wr vs))).get i=h.get i:=by
  intro i hi;rw[Rh,h8 i hi];intro j hj;have:=List.all_eq_true.1 h7 j hj;simp at this;have:=hlt i hi;omega
 have hs:Xm h h2 ok [] (Wr vs)=some (v,h):=by
  unfold Xm;rw[h6]
  have hall:(ownT (Wr vs)).all (fun i=>Nat.ble h.next i||ok.any (Nat.beq i))=true:=by
   rw[List.all_eq_true]at h7 ⊢;intro i hi;rw[h7 i hi];rfl
  have hbl:ok.all (fun i=>(h2.freeze (ownT (Wr vs))).belowAt h.next i)=true:=by
   rw[List.all_eq_true];intro i hi;simp only[PH.belowAt,hfz i hi];exact hbo i hi
  simp only[hall,hv,hbl,List.all_nil,Bool.and_true,Bool.true_and,if_true,Zdb hfz]
 rw[Uo];unfold callF;simp only[Vx,hF,hb,Xk,Bool.false_eq_true,if_false,hm,ho,hre,Zt,List.all_nil,Bool.and_true,if_true,PH.freeze];have h1':Vl C {base:=h.next,lo:=h.next,ok:=ok} true c (Sb 0 args) {next:=h.next+fn.ntmps,get:=h.get}=some (x,Yw,h2):=h1;rw[h1'];simp only at h5;rcases h3 with h3 | h3<;>simp only at h3<;>subst h3<;>simp only[h5]<;>exact hs
theorem Zhh {C:Ctx}{K:Loc}{f:Nat}{args:List PV}{h:PH}{ok:List Nat}{fn:Func}{c:Code}{R:PV->PH->Prop}(hF:C.F f=some fn)(hb:fn.body=some c)(Xk:C.raw f=false)(Zir:(C.ext f []).isNone=true)(ho:args.flatMap ownV=[])(hre:reach h 4 (args.flatMap (refs 3))=ok)
  (Zt:ok.all (fun i=>can K i&&(h.get i).isSome)=true)
  (hx:wp (Vl C {base:=h.next,lo:=h.next,ok:=ok} true c (Sb 0 args) {h with next:=h.next+fn.ntmps}) fun r=>(r.1=.normal\/r.1=.ret)/\wp (Us C r.2.1 r.2.2 fn.results.toList) fun vs=>
    ∃v,inlT r.2.2 (Wr vs)=some v/\ownT (Wr vs)=[]/\below h.next 4 v=false/\X3 5 v=false/\R v r.2.2):
  ∃v h',Yv C K f args h=some (v,h')/\R v h':=by
 have Vx:=Zcv (args:=args) Zir Xk;have hm:Xe (inlV h) args=some args:=Wz ho;obtain⟨⟨x,Yw,h2⟩,h1,h3,h4⟩:=Y9.1 hx;obtain⟨vs,h5,v,h6,h7,h8,h9,h10⟩:=Y9.1 h4;simp only at h6 h7 h8 h10
 have hs:Xm h h2 ok [] (Wr vs)=some (v,h2):=by
  unfold Xm;rw[h6];simp only[h7,h8,h9,List.all_nil,if_true,PH.freeze,Bool.false_and,Bool.false_eq_true,if_false,Bool.not_false,Bool.true_or]
 refine⟨v,h2,?_,h10⟩;rw[Uo];unfold callF;simp only[Vx,hF,hb,Xk,Bool.false_eq_true,if_false,hm,ho,hre,Zt,List.all_nil,Bool.and_true,if_true,PH.freeze];have h1':Vl C {base:=h.next,lo:=h.next,ok:=ok} true c (Sb 0 args) {next:=h.next+fn.ntmps,get:=h.get}=some (x,Yw,h2):=h1;rw[h1'];simp only at h5;rcases h3 with h3 | h3<;>simp only at h3<;>subst h3<;>simp only[h5]<;>exact hs
theorem Z5i {C:Ctx}{K:Loc}{f:Nat}{args args':List PV}{h:PH}{v:PV}(hA:Xn C f args' v)(hvb:∀m,below m 4 v=true)(Xk:C.raw f=false)(hm:Xe (inlV h) args=some args')(Yi:args.isEmpty=false)
  (ho:args'.flatMap ownV=[]) (hr:args'.flatMap (refs 3)=[])
  (hids:(args.flatMap ownV).all (fun i=>can K i&&match h.get i with | some (_,.row g _ _)=>Yy g 14 v | _=>false)=true):Yv C K f args h=some (v,h):=by
 have hx:∀l:List PV,l.isEmpty=false->extP C f l=none:=by
  intro l hl;unfold extP;split
  .cases hl
  .rw [Xk];rfl
  .rfl
 have Zim:args'.isEmpty=false:=by
  cases args with
  |nil=>cases Yi
  |cons a l=>
   simp only[Xe]at hm;split at hm
   .injection hm with hm;subst hm;rfl
   .cases hm
 have hm':∀H,Xe (inlV H) args'=some args':=by
  intro H
  have Zf0:∀a,ownV a=[]->inlV H a=some a:=by
   intro a ha
   have hc:∀cs:List PV,cs.flatMap Sd=[]->Xe (Qw H) cs=some cs:=by
    intro cs
    induction cs with
    |nil=>intro _;rfl
    |cons c cs ih=>
     intro hh;rw[List.flatMap_cons,List.append_eq_nil_iff]at hh;simp only[Xe,ih hh.2];cases c<;>simp_all[Sd,Qw]
   cases a with
   |agg cs=>simp only[inlV];rw[hc cs ha];rfl
   |own=>simp[ownV,Sd]at ha
   | _=>rfl
  clear hm hr Zim hA
  induction args' with
  |nil=>rfl
  |cons a l ih=>
   rw[List.flatMap_cons,List.append_eq_nil_iff]at ho;simp only[Xe,Zf0 a ho.1,ih ho.2]
 have h0:=hA K (h.freeze (args.flatMap ownV))
 have Rn:∀(l:List Nat) (g:PH),(g.freeze l).next=g.next:=by
  intro l
  induction l with
  |nil=>intro g;rfl
  |cons i l ih=>intro g;simp only[PH.freeze];split<;>rw[ih];rfl
 rw[Uo]at h0 ⊢;unfold callF at h0 ⊢;rw[hx _ Zim]at h0;rw[hx _ Yi];cases hF:C.F f with
 |none=>simp only[hF]at h0;cases h0
 |some fn=>
  simp only[hF]at h0 ⊢;cases hb:fn.body with
  |none=>simp only[hb]at h0;cases h0
  |some c=>
   simp only[hb,Xk,Bool.false_eq_true,if_false,hm',ho,hr,reach,List.all_nil,Bool.and_true,if_true]at h0
   have Zt:(args.flatMap ownV).all (can K)=true:=by
    rw[List.all_eq_true]at hids ⊢;intro i hi;have:=hids i hi;simp only[Bool.and_eq_true]at this;exact this.1
   simp only[Xk,Bool.false_eq_true,if_false,hm,hr,reach,List.all_nil,Bool.true_and,Zt,if_true];have e1:(PH.freeze (h.freeze (args.flatMap ownV)) [])=h.freeze (args.flatMap ownV):=rfl;rw[e1,Rn]at h0;cases hx:Vl C {base:=h.next,lo:=h.next,ok:=[]} true c (Sb 0 args') {h.freeze (args.flatMap ownV) with next:=h.next+fn.ntmps} with
   |none=>rw[hx]at h0;cases h0
   |some r=>
    obtain⟨x,Yw,h2⟩:=r;rw[hx]at h0
    have key:∀vs,Xm (h.freeze (args.flatMap ownV)) h2 [] [] (Wr vs)=some (v,h.freeze (args.flatMap ownV))->Xm h h2 [] (args.flatMap ownV) (Wr vs)=some (v,h):=by
     intro vs hs;unfold Xm at hs ⊢;cases hi:inlT h2 (Wr vs) with
     |none=>rw[hi]at hs;cases hs
     |some v'=>
      rw[hi]at hs;simp only[List.any_nil,Bool.or_false,Rn,List.all_nil,Bool.and_true,Yg]at hs ⊢;by_cases ha:((ownT (Wr vs)).all fun i=>Nat.ble h.next i)=true
      .rw [if_pos ha]at hs ⊢
       have hvv:v'=v:=by
        by_cases hb:below h.next 4 v'=true
        .rw [if_pos hb]at hs;simp only[if_true,Option.some.injEq,Prod.mk.injEq]at hs;exact hs.1
        .rw [if_neg hb]at hs;split at hs
         .simp only [Option.some.injEq,Prod.mk.injEq]at hs;exact hs.1
         .cases hs
       subst hvv;rw[if_pos (hvb _),if_pos];rw[List.all_eq_true]at hids ⊢;intro i hi;have:=hids i hi;simp only[Bool.and_eq_true]at this;simp only[Bool.not_false,Bool.true_and];have h2:=this.2;split at h2
       .rename_i Zc g own xs hg;rw[hg];cases own<;>simp[h2]
       .cases h2
      .rw [if_neg ha]at hs;cases hs
    cases x with
    |exit=>simp only at h0;cases h0
    |normal=>
     simp only at h0 ⊢;cases Wv:Us C Yw h2 fn.results.toList with
     |none=>rw[Wv]at h0;cases h0
     |some vs=>rw[Wv]at h0;exact key vs h0
    |ret=>
     simp only at h0 ⊢;cases Wv:Us C Yw h2 fn.results.toList with
     |none=>rw[Wv]at h0;cases h0
     |some vs=>rw[Wv]at h0;exact key vs h0
theorem Acc.callT {C:Ctx}{S:List Nat}{K:Loc}{h:PH}{g f:Nat}{v w:PV}{xs:List PV}(hA:Acc S K h g v xs)(hK:K.lo=K.base)(Xk:C.raw f=false)(pre post:List PV)(Zzm:Xn C f (pre++L g true xs::post) w)(hwb:∀m,below m 4 w=true)(hw:Yy g 14 w=true)
  (h1:(pre++post).flatMap ownV=[]) (h2:(pre++post).flatMap (refs 3)=[]):Yv C K f (pre++v::post) h=some (w,h):=by
 rw[List.flatMap_append,List.append_eq_nil_iff]at h1 h2
 have Zn0:∀(a b:List PV) (a' b':List PV),Xe (inlV h) a=some a'->Xe (inlV h) b=some b'->Xe (inlV h) (a++b)=some (a'++b'):=by
  intro a
  induction a with
  |nil=>intro b a' b' e1 e2;simp only[Xe,Option.some.injEq]at e1;subst e1;exact e2
  |cons x a ih=>
   intro b a' b' e1 e2;simp only[Xe]at e1;simp only[List.cons_append,Xe];split at e1
   .rename_i y ys hy hys;cases e1;rw[hy,ih b ys b' hys e2];rfl
   .cases e1
 refine Z5i Zzm hwb Xk (Zn0 _ _ _ _ (Wz h1.1) ?_) (by cases pre<;>rfl) ?_ ?_ ?_
 .simp only [Xe,hA.inl,Wz h1.2]
 .rw [List.flatMap_append,List.flatMap_cons,h1.1,h1.2];simp
 .rw [List.flatMap_append,List.flatMap_cons,h2.1,h2.2];simp
 .rw [List.flatMap_append,List.flatMap_cons,h1.1,h1.2];rcases hA with⟨_,rfl⟩ | ⟨d,Zc,_,_,rfl,hg⟩
  .simp
  .simp [hg,can,hK,hw]
theorem Zyq {g g':Nat}{xs:List PV}(hg:g'≠g)(h:∀x∈xs,Yy g 13 x=true):Yy g 14 (.lst g' xs)=true:=by
 simp only[Yy,Bool.and_eq_true,Bool.not_eq_true',List.all_eq_true];exact⟨by rw[<- Bool.not_eq_true,Nat.beq_eq];exact hg,h⟩
theorem Z5j {C:Ctx}{K:Loc}{f:Nat}{args args':List PV}{h:PH}{v:PV}(hA:Xn C f args' v)(hvb:∀m,below m 4 v=true)(Xk:C.raw f=false)(hm:Xe (inlV h) args=some args')(Yi:args.isEmpty=false)
  (ho:args'.flatMap ownV=[]) (hr:args'.flatMap (refs 3)=[])
  (hids:(args.flatMap ownV).all (fun i=>can K i&&match h.get i with | some (_,.row _ _ _)=>true | _=>false)=true):Yv C K f args h=some (v,h)\/Yv C K f args h=some (v,h.freeze (args.flatMap ownV)):=by
 have hx:∀l:List PV,l.isEmpty=false->extP C f l=none:=by
  intro l hl;unfold extP;split
  .cases hl
  .rw [Xk];rfl
  .rfl
 have Zim:args'.isEmpty=false:=by
  cases args with
  |nil=>cases Yi
  |cons a l=>
   simp only[Xe]at hm;split at hm
   .injection hm with hm;subst hm;rfl
   .cases hm
 have hm':∀H,Xe (inlV H) args'=some args':=by
  intro H
  have Zf0:∀a,ownV a=[]->inlV H a=some a:=by
   intro a ha
   have hc:∀cs:List PV,cs.flatMap Sd=[]->Xe (Qw H) cs=some cs:=by
    intro cs
    induction cs with
    |nil=>intro _;rfl
    |cons c cs ih=>
     intro hh;rw[List.flatMap_cons,List.append_eq_nil_iff]at hh;simp only[Xe,ih hh.2];cases c<;>simp_all[Sd,Qw]
   cases a with
   |agg cs=>simp only[inlV];rw[hc cs ha];rfl
   |own=>simp[ownV,Sd]at ha
   | _=>rfl
  clear hm hr Zim hA
  induction args' with
  |nil=>rfl
  |cons a l ih=>
   rw[List.flatMap_cons,List.append_eq_nil_iff]at ho;simp only[Xe,Zf0 a ho.1,ih ho.2]
 have h0:=hA K (h.freeze (args.flatMap ownV))
 have Rn:∀(l:List Nat) (g:PH),(g.freeze l).next=g.next:=by
  intro l
  induction l with
  |nil=>intro g;rfl
  |cons i l ih=>intro g;simp only[PH.freeze];split<;>rw[ih];rfl
 rw[Uo]at h0 ⊢;unfold callF at h0 ⊢;rw[hx _ Zim]at h0;rw[hx _ Yi];cases hF:C.F f with
 |none=>simp only[hF]at h0;cases h0
 |some fn=>
  simp only[hF]at h0 ⊢;cases hb:fn.body with
  |none=>simp only[hb]at h0;cases h0
  |some c=>
   simp only[hb,Xk,Bool.false_eq_true,if_false,hm',ho,hr,reach,List.all_nil,Bool.and_true,if_true]at h0
   have Zt:(args.flatMap ownV).all (can K)=true:=by
    rw[List.all_eq_true]at hids ⊢;intro i hi;have:=hids i hi;simp only[Bool.and_eq_true]at this;exact this.1
   simp only[Xk,Bool.false_eq_true,if_false,hm,hr,reach,List.all_nil,Bool.true_and,Zt,if_true];have e1:(PH.freeze (h.freeze (args.flatMap ownV)) [])=h.freeze (args.flatMap ownV):=rfl;rw[e1,Rn]at h0;cases hx:Vl C {base:=h.next,lo:=h.next,ok:=[]} true c (Sb 0 args') {h.freeze (args.flatMap ownV) with next:=h.next+fn.ntmps} with
   |none=>rw[hx]at h0;cases h0
   |some r=>
    obtain⟨x,Yw,h2⟩:=r;rw[hx]at h0
    have key:∀vs,Xm (h.freeze (args.flatMap ownV)) h2 [] [] (Wr vs)=some (v,h.freeze (args.flatMap ownV))->Xm h h2 [] (args.flatMap ownV) (Wr vs)=some (v,h)\/Xm h h2 [] (args.flatMap ownV) (Wr vs)=some (v,h.freeze (args.flatMap ownV)):=by
     intro vs hs;unfold Xm at hs ⊢;cases hi:inlT h2 (Wr vs) with
     |none=>rw[hi]at hs;cases hs
     |some v'=>
      rw[hi]at hs;simp only[List.any_nil,Bool.or_false,Rn,List.all_nil,Bool.and_true,Yg]at hs ⊢;by_cases ha:((ownT (Wr vs)).all fun i=>Nat.ble h.next i)=true
      .rw [if_pos ha]at hs ⊢
       have hvv:v'=v:=by
        by_cases hb:below h.next 4 v'=true
        .rw [if_pos hb]at hs;simp only[if_true,Option.some.injEq,Prod.mk.injEq]at hs;exact hs.1
        .rw [if_neg hb]at hs;split at hs
         .simp only [Option.some.injEq,Prod.mk.injEq]at hs;exact hs.1
         .cases hs
       subst hvv;rw[if_pos (hvb _)];split
       .exact .inl rfl
       .exact .inr rfl
      .rw [if_neg ha]at hs;cases hs
    cases x with
    |exit=>simp only at h0;cases h0
    |normal=>
     simp only at h0 ⊢;cases Wv:Us C Yw h2 fn.results.toList with
     |none=>rw[Wv]at h0;cases h0
     |some vs=>rw[Wv]at h0;exact key vs h0
    |ret=>
     simp only at h0 ⊢;cases Wv:Us C Yw h2 fn.results.toList with
     |none=>rw[Wv]at h0;cases h0
     |some vs=>rw[Wv]at h0;exact key vs h0
theorem Acc.callF {C:Ctx}{S:List Nat}{K:Loc}{h:PH}{g f:Nat}{v w:PV}{xs:List PV}(hA:Acc S K h g v xs)(hK:K.lo=K.base)(Xk:C.raw f=false)(pre post:List PV)(Zzm:Xn C f (pre++L g true xs::post) w)(hwb:∀m,below m 4 w=true)
  (h1:(pre++post).flatMap ownV=[]) (h2:(pre++post).flatMap (refs 3)=[]):∃h',Yv C K f (pre++v::post) h=some (w,h')/\h'.next=h.next/\∀j,(∀d∈S,j≠K.base+d)->h'.get j=h.get j:=by
 rw[List.flatMap_append,List.append_eq_nil_iff]at h1 h2
 have Zn0:∀(a b:List PV) (a' b':List PV),Xe (inlV h) a=some a'->Xe (inlV h) b=some b'->Xe (inlV h) (a++b)=some (a'++b'):=by
  intro a
  induction a with
  |nil=>intro b a' b' e1 e2;simp only[Xe,Option.some.injEq]at e1;subst e1;exact e2
  |cons x a ih=>
   intro b a' b' e1 e2;simp only[Xe]at e1;simp only[List.cons_append,Xe];split at e1
   .rename_i y ys hy hys;cases e1;rw[hy,ih b ys b' hys e2];rfl
   .cases e1
 have hids:(pre++v::post).flatMap ownV=ownV v:=by
  rw[List.flatMap_append,List.flatMap_cons,h1.1,h1.2];simp
 have hfz:(h.freeze (ownV v)).next=h.next/\∀j,(∀d∈S,j≠K.base+d)->(h.freeze (ownV v)).get j=h.get j:=by
  rcases hA with⟨_,rfl⟩ | ⟨d,Zc,_,hd,rfl,hg⟩
  .exact ⟨rfl,fun _ _=>rfl⟩
  .refine ⟨by simp[hg,PH.put],fun j hj=>?_⟩;simp[hg,PH.put,hj d hd]
 have key:Yv C K f (pre++v::post) h=some (w,h)\/Yv C K f (pre++v::post) h=some (w,h.freeze ((pre++v::post).flatMap ownV)):=by
  refine Z5j Zzm hwb Xk (Zn0 _ _ _ _ (Wz h1.1) ?_) (by cases pre<;>rfl) ?_ ?_ ?_
  .simp only [Xe,hA.inl,Wz h1.2]
  .rw [List.flatMap_append,List.flatMap_cons,h1.1,h1.2];simp
  .rw [List.flatMap_append,List.flatMap_cons,h2.1,h2.2];simp
  .rw [List.flatMap_append,List.flatMap_cons,h1.1,h1.2];rcases hA with⟨_,rfl⟩ | ⟨d,Zc,_,_,rfl,hg⟩
   .simp
   .simp [hg,can,hK]
 rcases key with key | key
 .exact ⟨h,key,rfl,fun _ _=>rfl⟩
 .rw [hids]at key;exact⟨_,key,hfz.1,hfz.2⟩
theorem Zrp {C:Ctx}{K:Loc}{f:Nat}{args:List PV}{h:PH}{fn:Func}{c:Code}{Q:PV×PH->Prop}(Vx:extP C f args=none)(hF:C.F f=some fn)(hb:fn.body=some c)(Xk:C.raw f=true)
  (hx:wp (Vl C {base:=h.next,lo:=K.lo,ok:=K.ok} true c (Sb 0 args) {h with next:=h.next+fn.ntmps}) fun r=>(r.1=.normal\/r.1=.ret)/\wp (Us C r.2.1 r.2.2 fn.results.toList) fun vs=>
    Q (Wr vs,if r.2.2.next=h.next+fn.ntmps/\Zis r.2.2 h.next r.2.2.next=true then {r.2.2 with next:=h.next} else r.2.2)):wp (Yv C K f args h) Q:=by
 obtain⟨⟨x,Yw,h2⟩,h1,h3,h4⟩:=Y9.1 hx;obtain⟨vs,h5,h6⟩:=Y9.1 h4;simp only at h5 h6;rw[Uo];unfold callF;rw[Vx];simp only[hF,hb,Xk,if_true];have h1':Vl C {base:=h.next,lo:=K.lo,ok:=K.ok} true c (Sb 0 args) {next:=h.next+fn.ntmps,get:=h.get}=some (x,Yw,h2):=h1;simp only at h3;rcases h3 with h3 | h3
 all_goals
  subst h3;simp only[h1',h5];split at h6
  .rename_i hc;rw[if_pos hc];exact Y9.2 ⟨_,rfl,h6⟩
  .rename_i hc;rw[if_neg hc];exact Y9.2 ⟨_,rfl,h6⟩
theorem Z6a {C:Ctx}{K:Loc}{l Zc:Nat}{args:List PV}{h:PH}{K0:Loc}{Ud:Yu}{ps:List Nat}{as bd:Code}{Q:PV×PH->Prop}(hl:h.get l=some (Zc,.loop K0 Ud ps as bd))(hlen:ps.length=args.length)(Sr:Nat.ble K.lo K0.lo=true)(hok:K0.ok.all (can K)=true)
  (hx:wp (Vl C K0 false as (Zef Ud (ps.zip args)) (h.put l Zc .gone)) fun r1=>r1.1=.normal/\wp (Vl C K0 false bd r1.2.1 r1.2.2) fun r2=>r2.1=.normal/\r2.2.2.get l=some (Zc,.gone)/\Q (.bool true,r2.2.2.put l Zc (.loop K0 Ud ps as bd))):wp (Sc C K l Zc args h) Q:=by
 obtain⟨⟨x1,Q5,h1⟩,e1,rfl,hx2⟩:=Y9.1 hx;obtain⟨⟨x2,sl2,h2⟩,e2,rfl,hg,hq⟩:=Y9.1 hx2;simp only at e2 hg hq;refine Y9.2 ⟨_,?_,hq⟩;rw[Z2x];unfold yieldF;rw[hl];simp only;rw[if_pos ⟨trivial,hlen,Sr,hok⟩,e1];simp only;rw[e2];simp only;rw[hg];simp only[if_true]
theorem Zuc {C:Ctx}{K:Loc}{f:Operand}{ps:Array Nat}{as bd:Code}{sl:Yu}{h:PH}{g:Nat}{first captured:List PV}{Q:Ex×Yu×PH->Prop}(hf:Yx sl f=some (.fn g first captured))(Xk:C.raw g=true)
  (hx:wp (Yv C K g (first++[.yield h.next 0]++captured) {h.put h.next 0 (.loop K sl ps.toList as bd) with next:=h.next+1}) fun r=>∃K1 s1 p1 a1 b1,r.2.get h.next=some (0,.loop K1 s1 p1 a1 b1)/\Q (.normal,sl,r.2.put h.next 0 .gone)):wp (Vl C K true (.rangeFunc f ps as bd) sl h) Q:=by
 obtain⟨⟨u,h'⟩,e1,K1,s1,p1,a1,b1,hg,hq⟩:=Y9.1 hx;refine Y9.2 ⟨_,?_,hq⟩;rw[Z41,hf];simp only[Xk,if_true];rw[show Yv C K g (first++[.yield h.next 0]++captured) {next:=h.next+1,get:=(h.put h.next 0 (.loop K sl ps.toList as bd)).get}=some (u,h') from e1];simp only at hg;simp only[hg]
theorem Zhi {C:Ctx}{K:Loc}{f:Nat}{args:List PV}{h:PH}{p a b va vb:Nat}{oa ob:PO}{fn:Func}{c:Code}{v:PV}(hF:C.F f=some fn)(hb:fn.body=some c)(Xk:C.raw f=false)(Zir:(C.ext f []).isNone=true)(ho:args.flatMap ownV=[])(hre:reach h 4 (args.flatMap (refs 3))=[p,a,b])
  (Zt:[p,a,b].all (fun i=>can K i&&(h.get i).isSome)=true) (hbp:h.belowAt h.next p=true)
  (hx:wp (Vl C {base:=h.next,lo:=h.next,ok:=[p,a,b]} true c (Sb 0 args) {h with next:=h.next+fn.ntmps}) fun r=>(r.1=.normal\/r.1=.ret)/\wp (Us C r.2.1 r.2.2 fn.results.toList) fun vs=>
    inlT r.2.2 (Wr vs)=some v/\ownT (Wr vs)=[]/\r.2.2.get p=h.get p/\r.2.2.get a=some (va,oa)/\r.2.2.get b=some (vb,ob)) (hv:below h.next 4 v=true) (hba:Wl h.next oa=true) (hbb:Wl h.next ob=true):
  Yv C K f args h=some (v,(h.put a va oa).put b vb ob):=by
 have Vx:=Zcv (args:=args) Zir Xk;have hm:Xe (inlV h) args=some args:=Wz ho;obtain⟨⟨x,Yw,h2⟩,h1,h3,h4⟩:=Y9.1 hx;obtain⟨vs,h5,h6,h7,h8,h9,h10⟩:=Y9.1 h4;simp only at h6 h7 h8 h9 h10
 have hfo:Yg h2 [p,a,b] h=(h.put a va oa).put b vb ob:=by
  cases hp:h2.get p with
  |none=>simp only[Yg,hp,h9,h10]
  |some y=>
   obtain⟨Zc,o⟩:=y;simp only[Yg,hp,h9,h10];rw[show h.put p Zc o=h from Zu4 (by rw[<- h8];exact hp)]
 have hs:Xm h h2 [p,a,b] [] (Wr vs)=some (v,(h.put a va oa).put b vb ob):=by
  unfold Xm;rw[h6]
  have hbl:[p,a,b].all (fun i=>h2.belowAt h.next i)=true:=by
   simp only[List.all_cons,List.all_nil,Bool.and_true,PH.belowAt,h9,h10,hba,hbb]
   have:h2.belowAt h.next p=true:=by
    unfold PH.belowAt at hbp ⊢;rw[h8];exact hbp
   unfold PH.belowAt at this;rw[this]
  simp only[h7,List.all_nil,if_true,PH.freeze,hv,hbl,Bool.and_self,hfo]
 rw[Uo];unfold callF;simp only[Vx,hF,hb,Xk,Bool.false_eq_true,if_false,hm,ho,hre,Zt,List.all_nil,Bool.and_true,if_true,PH.freeze];have h1':Vl C {base:=h.next,lo:=h.next,ok:=[p,a,b]} true c (Sb 0 args) {next:=h.next+fn.ntmps,get:=h.get}=some (x,Yw,h2):=h1;rw[h1'];simp only at h5;rcases h3 with h3 | h3<;>simp only at h3<;>subst h3<;>simp only[h5]<;>exact hs
def Own (h:PH)(g:Nat)(v:PV)(xs:List PV)(l:List Nat):Prop:=
 (xs=[]/\v=.nils/\l=[])\/∃i Zc,xs≠[]/\v=.own i Zc g 0 xs.length/\h.get i=some (Zc,.row g true xs)/\l=[i]
theorem Own.nil {h:PH}{g:Nat}:Own h g .nils [] []:=Or.inl ⟨rfl,rfl,rfl⟩
theorem Own.inlV {h:PH}{g:Nat}{v:PV}{xs:List PV}{l:List Nat}(hA:Own h g v xs l):Pure.inlV h v=some (L g true xs):=by
 rcases hA with⟨rfl,rfl,rfl⟩ | ⟨i,Zc,Yi,rfl,hg,rfl⟩
 .rfl
 .cases xs with
  |nil=>exact absurd rfl Yi
  |cons=>simp[Pure.inlV,Qw,PH.elems,PH.row,hg,L]
theorem Own.lenK {h:PH}{g e:Nat}{v:PV}{xs:List PV}{l:List Nat}(hA:Own h g v xs l):Pure.lenK (.slice e) v=some (.int .i64 xs.length):=by
 rcases hA with⟨rfl,rfl,rfl⟩ | ⟨i,Zc,Yi,rfl,hg,rfl⟩<;>rfl
theorem Own.same {h:PH}{g n:Nat}{v:PV}{xs:List PV}{l:List Nat}(hA:Own h g v xs l):W8 n v=true:=by
 rcases hA with⟨rfl,rfl,rfl⟩ | ⟨i,Zc,Yi,rfl,hg,rfl⟩<;>cases n<;>rfl
theorem Own.refs {h:PH}{g n:Nat}{v:PV}{xs:List PV}{l:List Nat}(hA:Own h g v xs l):Pure.refs n v=l:=by
 rcases hA with⟨rfl,rfl,rfl⟩ | ⟨i,Zc,Yi,rfl,hg,rfl⟩<;>cases n<;>rfl
theorem Own.ownV {h:PH}{g:Nat}{v:PV}{xs:List PV}{l:List Nat}(hA:Own h g v xs l):Pure.ownV v=l:=by
 rcases hA with⟨rfl,rfl,rfl⟩ | ⟨i,Zc,Yi,rfl,hg,rfl⟩<;>rfl
theorem Own.cells {h:PH}{g:Nat}{v:PV}{xs:List PV}{l:List Nat}(hA:Own h g v xs l):Zd v=[v]/\Wy v=true:=by
 rcases hA with⟨rfl,rfl,rfl⟩ | ⟨i,Zc,Yi,rfl,hg,rfl⟩<;>exact⟨rfl,rfl⟩
theorem Own.frame {h h':PH}{g:Nat}{v:PV}{xs:List PV}{l:List Nat}(hA:Own h g v xs l)(hf:∀i∈l,h'.get i=h.get i):Own h' g v xs l:=by
 rcases hA with h1 | ⟨i,Zc,Yi,e,hg,rfl⟩
 .exact Or.inl h1
 .exact Or.inr ⟨i,Zc,Yi,e,by rw[hf i (by simp),hg],rfl⟩
theorem Own.pos {h:PH}{g k:Nat}{v:PV}{α:Type}{f:α->PV}{xs:List α}{l:List Nat}(hA:Own h g v (xs.map f) l)(hk:k < xs.length):∃i Zc,v=.own i Zc g 0 xs.length/\h.get i=some (Zc,.row g true (xs.map f))/\l=[i]:=by
 rcases hA with⟨e,_⟩ | ⟨i,Zc,Yi,e,hg,rfl⟩
 .simp at e;subst e;simp at hk
 .rw [List.length_map]at e;exact⟨i,Zc,e,hg,rfl⟩
theorem Own.app {h:PH}{g:Nat}{v:PV}{xs ys:List PV}{l:List Nat}{K:Loc}{T:Ty}{dd:Nat}(hA:Own h g v xs l)(hK:∀i∈l,can K i=true)(h1:xs.length+ys.length<=1073741824)(h2:T.bytes<=65536)(h3:0 < T.size)(h4:ys≠[]):
  ∃v' h' l',Xq K h dd g T ys.length ys v=some (v',h')/\Own h' g v' (xs++ys) l'/\(l'=l\/l=[]/\l'=[K.base+dd])/\h'.next=h.next/\∀j,j∉l'->h'.get j=h.get j:=by
 have hl:ys.length≠0:=by
  cases ys with
  |nil=>exact absurd rfl h4
  |cons=>simp
 rcases hA with⟨rfl,rfl,rfl⟩ | ⟨i,Zc,Yi,rfl,hg,rfl⟩
 .refine ⟨_,_,[K.base+dd],Zaf (by omega) h2 h3 hl,Or.inr ⟨K.base+dd,h.stamp (K.base+dd),by simpa using h4,by simp,by simp,rfl⟩,Or.inr ⟨rfl,rfl⟩,rfl,fun j hj=>?_⟩;simp only[List.mem_singleton]at hj;simp[hj]
 .have hr:h.row i Zc g=some (true,xs):=by simp[PH.row,hg]
  refine⟨_,_,[i],((by rw[Qt,hr];rfl:Xq K h dd g T ys.length ys (.own i Zc g 0 xs.length)=Zxk K h T g i Zc 0 xs.length ys.length ys (true,xs)).trans (Zl8 h1 h2 h3 (hK i (by simp)) rfl (by simp))),.inr ⟨i,Zc+1,by simp[h4],by simp,by simp,rfl⟩,Or.inl rfl,rfl,fun j hj=>?_⟩;simp only[List.mem_singleton]at hj;simp[hj]
theorem Own.call {C:Ctx}{K:Loc}{h:PH}{g f:Nat}{v w:PV}{xs:List PV}{l:List Nat}(hA:Own h g v xs l)(hK:∀i∈l,can K i=true)(Xk:C.raw f=false)(pre post:List PV)(Zzm:Xn C f (pre++L g true xs::post) w)(hw:Zdt w=true)
  (h1:(pre++post).flatMap Pure.ownV=[]) (h2:(pre++post).flatMap (Pure.refs 3)=[]):Yv C K f (pre++v::post) h=some (w,h):=by
 rw[List.flatMap_append,List.append_eq_nil_iff]at h1 h2
 have Zn0:∀(a b:List PV) (a' b':List PV),Xe (Pure.inlV h) a=some a'->Xe (Pure.inlV h) b=some b'->Xe (Pure.inlV h) (a++b)=some (a'++b'):=by
  intro a
  induction a with
  |nil=>intro b a' b' e1 e2;simp only[Xe,Option.some.injEq]at e1;subst e1;exact e2
  |cons x a ih=>
   intro b a' b' e1 e2;simp only[Xe]at e1;simp only[List.cons_append,Xe];split at e1
   .rename_i y ys hy hys;cases e1;rw[hy,ih b ys b' hys e2];rfl
   .cases e1
 refine Zoo Zzm hw Xk (Zn0 _ _ _ _ (Wz h1.1) ?_) (by cases pre<;>rfl) ?_ ?_ ?_
 .simp only [Xe,hA.inlV,Wz h1.2]
 .rw [List.flatMap_append,List.flatMap_cons,h1.1,h1.2];simp
 .rw [List.flatMap_append,List.flatMap_cons,h2.1,h2.2];simp
 .rw [List.flatMap_append,List.flatMap_cons,h1.1,h1.2];rcases hA with⟨_,rfl,_⟩ | ⟨i,Zc,_,rfl,hg,rfl⟩
  .simp
  .have hc:=hK i (by simp);simp at hc;simp[hg,hc]
theorem W9 {h3:PH}:∀ {l:List Nat} {h:PH},(Yg h3 l h).next=h.next
 | [],h=>rfl
 |i::r,h=>by
  simp only[Yg];split
  .rw [W9];rfl
  .exact W9
theorem U8 {h3:PH}{j:Nat}:∀ {l:List Nat} {h:PH},j∉l->(Yg h3 l h).get j=h.get j
 | [],h,_=>rfl
 |i::r,h,hj=>by
  simp only[List.mem_cons,not_or]at hj;simp only[Yg];split
  .rw [U8 hj.2];simp[hj.1]
  .exact U8 hj.2
theorem Zoa {h3:PH}{j:Nat}(hs:(h3.get j).isSome=true):∀ {l:List Nat} {h:PH},j∈l->(Yg h3 l h).get j=h3.get j
 | [],h,hj=>by cases hj
 |i::r,h,hj=>by
  by_cases hr:j∈r
  .simp only [Yg];split<;>exact Zoa hs hr
  .have hi:j=i:=by
    rcases List.mem_cons.1 hj with h1 | h1
    .exact h1
    .exact absurd h1 hr
   subst hi;simp only[Yg];split
   .rename_i Zc o hg;rw[U8 hr,hg];simp
   .rename_i hg;rw[hg]at hs;cases hs
theorem Zue {C:Ctx}{K:Loc}{f:Nat}{args args':List PV}{h:PH}{ok:List Nat}{fn:Func}{c:Code}{v:PV}{R:PH->Prop}(hF:C.F f=some fn)(hb:fn.body=some c)(Xk:C.raw f=false)(Zir:(C.ext f []).isNone=true)(hm:Xe (inlV h) args=some args')(hre:reach h 4 (args'.flatMap (refs 3))=ok)
  (Zt:ok.all (fun i=>can K i&&(h.get i).isSome)=true) (hids:(args.flatMap ownV).all (can K)=true)
  (hx:wp (Vl C {base:=h.next,lo:=h.next,ok:=ok} true c (Sb 0 args') {h.freeze (args.flatMap ownV) with next:=h.next+fn.ntmps}) fun r=>(r.1=.normal\/r.1=.ret)/\wp (Us C r.2.1 r.2.2 fn.results.toList) fun vs=>
    inlT r.2.2 (Wr vs)=some v/\ownT (Wr vs)=[]/\below h.next 4 v=true/\((ok.all (fun i=>r.2.2.belowAt h.next i)=true/\R (Yg r.2.2 ok h)/\R (Yg r.2.2 ok (h.freeze (args.flatMap ownV))))\/(ok.any (fun i=>!(r.2.2.belowAt h.next i)&&h.belowAt h.next i)=true/\R r.2.2))):
  ∃h',Yv C K f args h=some (v,h')/\R h':=by
 have Vx:=Zcv (args:=args) Zir Xk;obtain⟨⟨x,Yw,h2⟩,h1,h3,h4⟩:=Y9.1 hx;obtain⟨vs,h5,h6,h7,h8,h9⟩:=Y9.1 h4;simp only at h6 h7 h9
 have hs:∃h',Xm h h2 ok (args.flatMap ownV) (Wr vs)=some (v,h')/\R h':=by
  unfold Xm;rw[h6];rcases h9 with⟨h9,h10,h11⟩ | ⟨h9,h10⟩
  .simp only [h7,PH.freeze,List.all_nil,if_true,h8,h9,Bool.and_self];split
   .exact ⟨_,rfl,h10⟩
   .exact ⟨_,rfl,h11⟩
  .refine ⟨_,?_,h10⟩
   have hn:ok.all (fun i=>h2.belowAt h.next i)=false:=by
    rw[List.any_eq_true]at h9;obtain⟨i,hi,hh⟩:=h9;rw[List.all_eq_false];refine⟨i,hi,?_⟩;simp only[Bool.and_eq_true,Bool.not_eq_true']at hh;rw[hh.1];decide
   simp only[h7,PH.freeze,List.all_nil,if_true,h8,hn,Bool.and_false,Bool.false_eq_true,if_false,h9,Bool.or_true]
 obtain⟨h',hs,hR⟩:=hs;refine⟨h',?_,hR⟩;rw[Uo];unfold callF;simp only[Vx,hF,hb,Xk,Bool.false_eq_true,if_false,hm,hre,Zt,hids,Bool.and_self,if_true];have h1':Vl C {base:=h.next,lo:=h.next,ok:=ok} true c (Sb 0 args') {next:=h.next+fn.ntmps,get:=(h.freeze (args.flatMap ownV)).get}=some (x,Yw,h2):=h1;rw[h1'];simp only at h5;rcases h3 with h3 | h3<;>simp only at h3<;>subst h3<;>simp only[h5]<;>exact hs
end Go.Pure
end
