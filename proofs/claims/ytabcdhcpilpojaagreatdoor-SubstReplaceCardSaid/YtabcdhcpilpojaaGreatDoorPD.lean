/- Plain runs by rewriting. -/
import Derived.Test.YtabcdhcpilpojaaGreatDoorPE
set_option linter.unusedSimpArgs false
set_option linter.unusedVariables false
section
namespace Go.Pure
open Go
open Go.Virt (Ex Ctx Ty TK maxLenV Yc)
structure Tag {α:Type}(a:α):Type where
def wp {α:Type}(x:Option α)(Q:α->Prop)(_t:Tag Q:=⟨⟩):Prop:=match x with | some a=>Q a | none=>False
@[simp] theorem Zq3 {α:Type}{a:α}{Q:α->Prop}{t:Tag Q}:wp (some a) Q t=Q a:=rfl
@[simp] theorem Zab2 {α:Type}{Q:α->Prop}{t:Tag Q}:wp (none:Option α) Q t=False:=rfl
theorem wp_mono {α:Type}{x:Option α}{Q R:α->Prop}(h:wp x Q)(hq:∀a,Q a->R a):wp x R:=by
 cases x with
 |none=>exact h
 |some a=>exact hq a h
theorem X5 {α:Type}{x:Option α}{Q:α->Prop}:wp x Q↔∃a,x=some a/\Q a:=by
 cases x with
 |none=>simp
 |some a=>simp
def bO {α β:Type}(x:Option α)(f:α->Option β)(_t:Tag f:=⟨⟩):Option β:=match x with | some a=>f a | none=>none
@[simp] theorem Xw {α β:Type}{a:α}{f:α->Option β}{t:Tag f}:bO (some a) f t=f a:=rfl
@[simp] theorem Z1u {α β:Type}{f:α->Option β}{t:Tag f}:bO none f t=none:=rfl
@[simp] theorem Zaz2 {α β:Type}{x:Option α}{f:α->Option β}{t:Tag f}{Q:β->Prop}{u:Tag Q}:wp (bO x f t) Q u=wp x fun a=>wp (f a) Q:=by cases x<;>rfl
@[simp] theorem Zah0 {α β:Type}{x:Option α}{f:α->β}{Q:β->Prop}{u:Tag Q}:wp (x.map f) Q u=wp x fun a=>Q (f a):=by cases x<;>rfl
@[simp] theorem Zatd {α β:Type}{x:Option α}{f:α->Option β}{Q:β->Prop}{u:Tag Q}:wp (x.bind f) Q u=wp x fun a=>wp (f a) Q:=by cases x<;>rfl
def ifB (b:Bool)(A B:Prop)(_t:Tag A:=⟨⟩)(_u:Tag B:=⟨⟩):Prop:=if b=true then A else B
@[simp] theorem Zvl {A B:Prop}{t:Tag A}{u:Tag B}:ifB true A B t u=A:=rfl
@[simp] theorem Z3b {A B:Prop}{t:Tag A}{u:Tag B}:ifB false A B t u=B:=rfl
theorem Zcb {b:Bool}{A B:Prop}{t:Tag A}{u:Tag B}(h1:b=true->A)(h2:b=false->B):ifB b A B t u:=by
 cases b with
 |true=>exact h1 rfl
 |false=>exact h2 rfl
@[simp] theorem Zatx {b:Bool}{A B:Prop}{t:Tag A}{u:Tag B}:ifB (!b) A B t u=ifB b B A u t:=by cases b<;>rfl
@[simp] theorem put_get (sl:Yt)(d t:Nat)(v:PV):(sl.put d v) t=if t=d then some v else sl t:=rfl
@[simp] theorem Zaoa (args:List PV)(t:Nat):R1 0 args t=args[t]?:=by simp[R1]
@[simp] theorem Zamx (sl Y6:Yt)(t:Nat):Zdc sl Y6 t=bO (sl t) fun _=>Y6 t:=by unfold Zdc bO;cases sl t<;>rfl
@[simp] theorem Zgd (h:PH)(i Zc:Nat)(o:PO)(j:Nat):(h.put i Zc o).get j=if j=i then some (Zc,o) else h.get j:=rfl
@[simp] theorem Zut (h:PH)(i Zc:Nat)(o:PO):(h.put i Zc o).next=h.next:=rfl
@[simp] theorem Zami {sl:Yt}{n:Nat}{v:PV}:putP sl (some n) v=sl.put n v:=rfl
@[simp] theorem Zamj {sl:Yt}{v:PV}:putP sl none v=sl:=rfl
@[simp] theorem Zao8 {sl:Yt}{t:Nat}:Yx sl (.tmp t)=sl t:=rfl
@[simp] theorem Zamq {sl:Yt}{f:Nat}:Yx sl (.func f)=some (.fn f [] []):=rfl
@[simp] theorem Zapa {sl:Yt}{k:IntKind}{n:Int}:Yx sl (.const (.int k n))=some (.int k n):=rfl
@[simp] theorem Zamr {sl:Yt}{b:Bool}:Yx sl (.const (.bool b))=some (.bool b):=rfl
@[simp] theorem Zao9 {sl:Yt}{b:ByteArray}:Yx sl (.const (.string b))=some (.str (b.data.toList.map UInt8.toNat)):=rfl
@[simp] theorem Zaml {sl:Yt}:Yx sl (.const (.slice none 0 0))=some .nils:=rfl
@[simp] theorem Zamm {sl:Yt}:Yx sl (.const (.pointer none))=some .nilp:=rfl
@[simp] theorem Zamn {sl:Yt}:Yx sl (.const (.map none))=some .nilm:=rfl
@[simp] theorem Zamp {sl:Yt}:Yx sl (.const .nilFunc)=some .nilf:=rfl
@[simp] theorem Zamo {sl:Yt}:Yx sl (.const .nilIface)=some .nili:=rfl
@[simp] theorem Zapb {sl:Yt}{cs:Array Value}:Yx sl (.const (.agg cs))=(Zz.go 2 cs.toList).map .agg:=rfl
@[simp] theorem Zazm {n:Nat}:Zz.go n []=some []:=by simp only[Zz.go]
@[simp] theorem Zau3 {n:Nat}{v:Value}{r:List Value}:Zz.go n (v::r)=bO (Zz n v) fun p=>bO (Zz.go n r) fun ps=>some (p::ps):=by
 simp only[Zz.go];cases Zz n v<;>cases Zz.go n r<;>rfl
@[simp] theorem Zavo {n:Nat}{k:IntKind}{i:Int}:Zz n (.int k i)=some (.int k i):=by cases n<;>rfl
@[simp] theorem Zatr {n:Nat}{b:Bool}:Zz n (.bool b)=some (.bool b):=by cases n<;>rfl
@[simp] theorem Zavn {n:Nat}{b:ByteArray}:Zz n (.string b)=some (.str (b.data.toList.map UInt8.toNat)):=by cases n<;>rfl
@[simp] theorem Zatm {n:Nat}:Zz n (.slice none 0 0)=some .nils:=by cases n<;>rfl
@[simp] theorem Zatn {n:Nat}:Zz n (.pointer none)=some .nilp:=by cases n<;>rfl
@[simp] theorem Zato {n:Nat}:Zz n (.map none)=some .nilm:=by cases n<;>rfl
@[simp] theorem Zatq {n:Nat}:Zz n .nilFunc=some .nilf:=by cases n<;>rfl
@[simp] theorem Zatp {n:Nat}:Zz n .nilIface=some .nili:=by cases n<;>rfl
@[simp] theorem Zaij {l:List Value}:Zbf l=Zz.go 0 l:=rfl
@[simp] theorem Zji {sl:Yt}:W8 sl []=some []:=rfl
@[simp] theorem Zak {sl:Yt}{x:Operand}{r:List Operand}:W8 sl (x::r)=bO (Yx sl x) fun v=>bO (W8 sl r) fun vs=>some (v::vs):=by
 simp only[W8];cases Yx sl x<;>cases W8 sl r<;>rfl
@[simp] theorem Zaik {sl:Yt}:U1 sl []=some []:=rfl
@[simp] theorem Zkg {sl:Yt}{i:Nat}{x:Operand}{r:List (Nat×Operand)}:U1 sl ((i,x)::r)=bO (Yx sl x) fun v=>bO (U1 sl r) fun vs=>some ((i,v)::vs):=by
 simp only[U1];cases Yx sl x<;>cases U1 sl r<;>rfl
section
variable {C:Ctx}{K:Loc}{Xs:Bool}{sl:Yt}{h:PH}{Q:Ex×Yt×PH->Prop}
@[simp] theorem wp_seq {a b:Code}:wp (Vt C K Xs (.seq a b) sl h) Q=wp (Vt C K Xs a sl h) fun r=>match r with
  | (.normal,sl,h)=>wp (Vt C K Xs b sl h) Q
  |r=>Q r:=by
 rw[Zad4];cases Vt C K Xs a sl h with
 |none=>rfl
 |some r=>
  obtain⟨x,Y6,h'⟩:=r;cases x<;>rfl
@[simp] theorem wp_cond {c:Operand}{a b:Code}:wp (Vt C K Xs (.cond c a b) sl h) Q=wp (Yx sl c) fun v=>match v with
  | .bool x=>ifB x (wp (Vt C K Xs a sl h) Q) (wp (Vt C K Xs b sl h) Q)
  | _=>False:=by
 rw[Z9p];cases Yx sl c with
 |none=>rfl
 |some v=>
  cases v with
  |bool x=>cases x<;>rfl
  | _=>rfl
@[simp] theorem wp_block {id:Nat}{b:Code}:wp (Vt C K Xs (.block id b) sl h) Q=wp (Vt C K Xs b sl h) fun r=>match r with
  | (.exit id',sl,h)=>if id'=id then Q (.normal,sl,h) else Q (.exit id',sl,h)
  |r=>Q r:=by
 rw[Z4n];cases Vt C K Xs b sl h with
 |none=>rfl
 |some r=>
  obtain⟨x,Y6,h'⟩:=r;cases x with
  |exit id'=>simp only[Z99,Zq3];split<;>rfl
  | _=>rfl
theorem wp_loop {b:Code}:wp (Vt C K Xs (.loop b) sl h) Q=wp (Vt C K Xs b sl h) fun r=>match r with
  | (.normal,Y6,h')=>wp (Vt C K Xs (.loop b) (Zdc sl Y6) h') Q
  |r=>Q r:=by
 rw[Z9m];cases Vt C K Xs b sl h with
 |none=>rfl
 |some r=>
  obtain⟨x,Y6,h'⟩:=r;cases x<;>rfl
@[simp] theorem wp_skip {t0:Tag Q}:wp (Vt C K Xs .skip sl h) Q t0=Q (.normal,sl,h):=by rw[Z9l];rfl
@[simp] theorem wp_exit {id:Nat}:wp (Vt C K Xs (.exit id) sl h) Q=Q (.exit id,sl,h):=by rw[Z9n];rfl
@[simp] theorem wp_ret {t0:Tag Q}:wp (Vt C K Xs .ret sl h) Q t0=Q (.ret,sl,h):=by rw[Zad5];rfl
@[simp] theorem wp_region {id:Nat}{ops:Array Oper}:wp (Vt C K Xs (.region id ops false) sl h) Q=wp (Za4 C (Yh C) (Tw C) K ops.toList ops.toList sl h) fun p=>Q (.normal,p.1,p.2):=by
 rw[Zzk,Zah0]
end
section
variable {C:Ctx}{cf:CF}{yf:YF}{K:Loc}{all:List Oper}{sl:Yt}{h:PH}{d:Option Nat}{t:TypeId}{pos:String}{af:Array Edge}{gd:Option (Nat×Bool)}
@[simp] theorem Zahz {Q:Yt×PH->Prop}:wp (Za4 C cf yf K all [] sl h) Q=Q (sl,h):=rfl
@[simp] theorem Zaf5 {o:Oper}{r:List Oper}{Q:Yt×PH->Prop}:wp (Za4 C cf yf K all (o::r) sl h) Q =
  wp (Vy all sl o) fun w=>ifB w (wp (opP C cf yf all K sl h o) fun p=>wp (Za4 C cf yf K all r (putP sl o.dst p.1) p.2) Q) (wp (Za4 C cf yf K all r (putP sl o.dst (.tuple [])) h) Q):=by
 simp only[Za4];cases Vy all sl o with
 |none=>rfl
 |some w=>
  cases w with
  |true=>cases opP C cf yf all K sl h o<;>rfl
  |false=>rfl
@[simp] theorem Zaf8 {op:Op}:Vy all sl ⟨d,op,t,pos,af,none⟩=some true:=rfl
@[simp] theorem Zaf7 {op:Op}{j:Nat}{want:Bool}:Vy all sl ⟨d,op,t,pos,af,some (j,want)⟩=(match (all[j]?).bind (·.dst) with
  |some d=>bO (sl d) fun v=>match v with | .bool b=>some (b==want) | _=>some false
  |none=>some false):=by
 simp only[Vy];cases hb:(all[j]?).bind (·.dst) with
 |none=>rfl
 |some d=>
  simp only;cases hs:sl d with
  |none=>rfl
  |some v=>cases v<;>rfl
end
attribute [simp low] Yi.eq_1 V5.eq_1 Zh.eq_1
section
variable {C:Ctx}{op:BinOp}{t:Nat}
@[simp] theorem Zas4 {k k':IntKind}{a b:Int}:Za6 C op t (.int k a) (.int k' b)=Ra op k k' a b:=rfl
@[simp] theorem Zas3 {a b:List Nat}:Za6 C op t (.str a) (.str b)=Zow op a b:=rfl
@[simp] theorem Zabt {a b:Bool}:Za6 C .eql t (.bool a) (.bool b)=(eqP C t (.bool a) (.bool b)).map .bool:=rfl
@[simp] theorem Zabq {a b:Bool}:Za6 C .neq t (.bool a) (.bool b)=(eqP C t (.bool a) (.bool b)).map fun b=>.bool (!b):=rfl
@[simp] theorem Zaep {cs:List PV}{y:PV}:Za6 C .eql t (.agg cs) y=(eqP C t (.agg cs) y).map .bool:=rfl
@[simp] theorem Zaem {cs:List PV}{y:PV}:Za6 C .neq t (.agg cs) y=(eqP C t (.agg cs) y).map fun b=>.bool (!b):=rfl
@[simp] theorem Zabs {y:PV}:Za6 C .eql t .nilp y=(eqP C t .nilp y).map .bool:=rfl
@[simp] theorem Zabp {y:PV}:Za6 C .neq t .nilp y=(eqP C t .nilp y).map fun b=>.bool (!b):=rfl
@[simp] theorem Zaen {i v o:Nat}{y:PV}:Za6 C .eql t (.ptr i v o) y=(eqP C t (.ptr i v o) y).map .bool:=rfl
@[simp] theorem Zaej {i v o:Nat}{y:PV}:Za6 C .neq t (.ptr i v o) y=(eqP C t (.ptr i v o) y).map fun b=>.bool (!b):=rfl
@[simp] theorem Zabr {cs:List PV}{y:PV}:Za6 C .eql t (.rptr cs) y=(eqP C t (.rptr cs) y).map .bool:=rfl
@[simp] theorem Zabn {cs:List PV}{y:PV}:Za6 C .neq t (.rptr cs) y=(eqP C t (.rptr cs) y).map fun b=>.bool (!b):=rfl
@[simp] theorem Zpc {y:PV}:Za6 C .eql t .nils y=(eqP C t .nils y).map .bool:=rfl
@[simp] theorem Zabo {y:PV}:Za6 C .neq t .nils y=(eqP C t .nils y).map fun b=>.bool (!b):=rfl
@[simp] theorem Zsn {g:Nat}{xs:List PV}{y:PV}:Za6 C .eql t (.lst g xs) y=(eqP C t (.lst g xs) y).map .bool:=rfl
@[simp] theorem Zael {g:Nat}{xs:List PV}{y:PV}:Za6 C .neq t (.lst g xs) y=(eqP C t (.lst g xs) y).map fun b=>.bool (!b):=rfl
@[simp] theorem Zaeo {i v g o n:Nat}{y:PV}:Za6 C .eql t (.own i v g o n) y=(eqP C t (.own i v g o n) y).map .bool:=rfl
@[simp] theorem Zaek {i v g o n:Nat}{y:PV}:Za6 C .neq t (.own i v g o n) y=(eqP C t (.own i v g o n) y).map fun b=>.bool (!b):=rfl
end
attribute [simp] Mk.obj Mk.val toP Go.Virt.TK.agg Sz Rx Zcx R3 Zrp Zk3 unP
attribute [simp] Zd.eq_1 Zd.eq_2 Wv.eq_1 Wv.eq_2 Wv.eq_3 Z29.eq_1 Z29.eq_2 Z29.eq_3 Z29.eq_4 Z29.eq_5
@[simp] theorem Zao4 {cs:List PV}{off n:Nat}:X1 cs off n=if off+n<=cs.length then some ((cs.drop off).take n) else none:=rfl
@[simp] theorem Zaob {ty:Ty}:Q8 ty=(Zbf ty.zero).bind (toP ty.k.agg):=rfl
def opF (x:Option PV)(Q:PV->Prop)(R:Prop)(_t:Tag Q:=⟨⟩)(_u:Tag R:=⟨⟩):Prop:=match x with | some v=>Q v | none=>R
@[simp] theorem Z6x {v:PV}{Q:PV->Prop}{R:Prop}{t:Tag Q}{u:Tag R}:opF (some v) Q R t u=Q v:=rfl
@[simp] theorem Zu1 {Q:PV->Prop}{R:Prop}{t:Tag Q}{u:Tag R}:opF none Q R t u=R:=rfl
def opM (x:Option Mk)(Q:Mk->Prop)(R:Prop)(_t:Tag Q:=⟨⟩)(_u:Tag R:=⟨⟩):Prop:=match x with | some v=>Q v | none=>R
@[simp] theorem Zu0 {v:Mk}{Q:Mk->Prop}{R:Prop}{t:Tag Q}{u:Tag R}:opM (some v) Q R t u=Q v:=rfl
@[simp] theorem Z6w {Q:Mk->Prop}{R:Prop}{t:Tag Q}{u:Tag R}:opM none Q R t u=R:=rfl
section
variable {C:Ctx}{cf:CF}{yf:YF}{K:Loc}{all:List Oper}{sl:Yt}{h:PH}{o:Oper}
@[simp] theorem Zaz1 {Q:PV×PH->Prop}:wp (opP C cf yf all K sl h o) Q=opF (Yi C sl o) (fun v=>Q (v,h)) (opM (V5 C all sl o)
   (fun m=>match m.obj,o.dst with
     |none,_=>Q (m.val 0 0,h)
     |some ob,some d=>Q (m.val (K.base+d) (h.stamp (K.base+d)),h.put (K.base+d) (h.stamp (K.base+d)) ob)
     |some _,none=>False)
   (wp (Zh C cf yf all K sl h o) Q)):=by
 unfold opP;cases Yi C sl o with
 |some v=>rfl
 |none=>
  cases V5 C all sl o with
  |none=>rfl
  |some m=>
   simp only[Zu1,Zu0];cases m.obj with
   |none=>rfl
   |some ob=>cases o.dst<;>rfl
end
section
variable {C:Ctx}{sl:Yt}{h:PH}
@[simp] theorem Zao1:Ut C sl h []=some []:=rfl
@[simp] theorem Zao0 {t:Nat}{r:List ResultVar}:Ut C sl h (.tmp t::r)=bO (sl t) fun v=>bO (Ut C sl h r) fun vs=>some (v::vs):=by
 simp only[Ut];cases sl t<;>cases Ut C sl h r<;>rfl
attribute [simp] inlT.eq_1 inlT.eq_2 inlV.eq_1 inlV.eq_2 Zee.eq_1 Zee.eq_2 ownT.eq_1 ownT.eq_2 ownV.eq_1 ownV.eq_2 Zdi.eq_1 Zdi.eq_2 Vh Vi refs below extP plain Zql PH.elems PH.row PH.freeze can Zmz Zh.bytesP
@[simp] theorem Z26 {α β:Type}{f:α->Option β}{x:α}{r:List α}:Vi f (x::r)=bO (f x) fun y=>bO (Vi f r) fun ys=>some (y::ys):=by
 simp only[Vi];cases f x<;>cases Vi f r<;>rfl
end
section
variable {sl:Yt}
attribute [simp] Sx
end
@[simp] theorem Zaiy {t:Nat}:Virt.litNil (.tmp t)=false:=rfl
@[simp] theorem Zaax {t:Nat}:Virt.litNil (.global t)=false:=rfl
@[simp] theorem Zagn {t:Nat}:Virt.litNil (.func t)=false:=rfl
@[simp] theorem Zago {b:Bool}:Virt.litNil (.const (.bool b))=false:=rfl
@[simp] theorem Zai3 {k:IntKind}{n:Int}:Virt.litNil (.const (.int k n))=false:=rfl
@[simp] theorem Zaiz {b:ByteArray}:Virt.litNil (.const (.string b))=false:=rfl
@[simp] theorem Zai0 {a:Option Addr}:Virt.litNil (.const (.pointer a))=false:=rfl
@[simp] theorem Zac0 {a:Option Addr}{n m:Nat}:Virt.litNil (.const (.slice a n m))=false:=rfl
@[simp] theorem Zai2 {a:Option Nat}:Virt.litNil (.const (.map a))=false:=rfl
@[simp] theorem Z7d:Virt.litNil (.const .nilFunc)=false:=rfl
@[simp] theorem Zai1:Virt.litNil (.const .nilIface)=true:=rfl
attribute [simp] Zu6 Virt.ifaceK
theorem Zci {C:Ctx}{f:Nat}{args:List PV}(Ur:(C.ext f []).isNone=true)(Xb:C.raw f=false):extP C f args=none:=by
 unfold extP;split
 .cases e:C.ext f []with
  |none=>rfl
  |some v=>rw[e]at Ur;cases Ur
 .rw [Xb];rfl
 .rfl
theorem Z1o {C:Ctx}{f:Nat}{args:List PV}(Yp:args.isEmpty=false)(Xb:C.raw f=false):extP C f args=none:=by
 unfold extP;split
 .cases Yp
 .rw [Xb];rfl
 .rfl
theorem Vs {h:PH}:∀ {args:List PV},args.flatMap ownV=[]->Vi (inlV h) args=some args:=by
 have Zvt:∀a,ownV a=[]->inlV h a=some a:=by
  intro a ha
  have hc:∀cs:List PV,cs.flatMap Zdi=[]->Vi (Zee h) cs=some cs:=by
   intro cs
   induction cs with
   |nil=>intro _;rfl
   |cons c cs ih=>
    intro hh;rw[List.flatMap_cons,List.append_eq_nil_iff]at hh;simp only[Vi,ih hh.2];cases c<;>simp_all[Zdi,Zee]
  cases a with
  |agg cs=>simp only[inlV];rw[hc cs ha];rfl
  |own=>simp[ownV,Zdi]at ha
  | _=>rfl
 intro args
 induction args with
 |nil=>intro _;rfl
 |cons a l ih=>
  intro ho;rw[List.flatMap_cons,List.append_eq_nil_iff]at ho;simp only[Vi,Zvt a ho.1,ih ho.2]
theorem Zhv {h:PH}{a b a' b':List PV}(e1:Vi (inlV h) a=some a')(e2:Vi (inlV h) b=some b'):Vi (inlV h) (a++b)=some (a'++b'):=by
 induction a generalizing a' with
 |nil=>simp only[Vi,Option.some.injEq]at e1;subst e1;exact e2
 |cons x a ih=>
  simp only[Vi]at e1;simp only[List.cons_append,Vi];split at e1
  .rename_i y ys hy hys;cases e1;rw[hy,ih hys];rfl
  .cases e1
theorem Ziq {C:Ctx}{K:Loc}{f:Nat}{args args':List PV}{h:PH}{ok:List Nat}{w:PV×PH}(Ur:extP C f args=none)(Xb:C.raw f=false)(hm:Vi (inlV h) args=some args')(hre:reach h 4 (args'.flatMap (refs 3))=ok):
  Yh C K f args h=some w↔∃fn c,C.F f=some fn/\fn.body=some c/\ok.all (fun i=>can K i&&(h.get i).isSome)=true/\(args.flatMap ownV).all (can K)=true /\
   wp (Vt C {base:=h.next,lo:=h.next,ok:=ok} true c (R1 0 args') {h.freeze (args.flatMap ownV) with next:=h.next+fn.ntmps}) fun r=>(r.1=.normal\/r.1=.ret)/\wp (Ut C r.2.1 r.2.2 fn.results.toList) fun vs=>Wq h r.2.2 ok (args.flatMap ownV) (Vh vs)=some w:=by
 rw[Zis];unfold callF;simp only[Ur,Xb,hm,hre,Bool.false_eq_true,if_false];cases C.F f with
 |none=>simp
 |some fn=>
  cases hb:fn.body with
  |none=>simp[hb]
  |some c=>
   simp only[Option.some.injEq,exists_and_left,exists_eq_left',hb];by_cases hc:(ok.all (fun i=>can K i&&(h.get i).isSome)&&(args.flatMap ownV).all (can K))=true
   .rw [if_pos hc];rw[Bool.and_eq_true]at hc;simp only[hc.1,hc.2,true_and];cases hx:Vt C {base:=h.next,lo:=h.next,ok:=ok} true c (R1 0 args') {next:=h.next+fn.ntmps,get:=(h.freeze (args.flatMap ownV)).get} with
    |none=>simp
    |some r=>
     obtain⟨x,Y6,h2⟩:=r;cases x with
     |exit=>simp
     |normal=>cases hr:Ut C Y6 h2 fn.results.toList<;>simp[hr]
     |ret=>cases hr:Ut C Y6 h2 fn.results.toList<;>simp[hr]
   .rw [if_neg hc];rw[Bool.and_eq_true]at hc;exact⟨fun e=>(by cases e),fun e=>absurd ⟨e.1,e.2.1⟩ hc⟩
theorem Zcm {C:Ctx}{K:Loc}{f:Nat}{args:List PV}{h:PH}{ok:List Nat}{fn:Func}{c:Code}{w:PV×PH}(Ur:extP C f args=none)(hF:C.F f=some fn)(hb:fn.body=some c)(Xb:C.raw f=false)(ho:args.flatMap ownV=[])(hre:reach h 4 (args.flatMap (refs 3))=ok)
  (Zu:ok.all (fun i=>can K i&&(h.get i).isSome)=true)
  (hx:wp (Vt C {base:=h.next,lo:=h.next,ok:=ok} true c (R1 0 args) {h with next:=h.next+fn.ntmps}) fun r=>(r.1=.normal\/r.1=.ret)/\wp (Ut C r.2.1 r.2.2 fn.results.toList) fun vs=>Wq h r.2.2 ok [] (Vh vs)=some w):
  Yh C K f args h=some w:=(Ziq Ur Xb (Vs ho) hre).2 ⟨fn,c,hF,hb,Zu,by rw[ho];rfl,by rw[ho];exact hx⟩
theorem Zg4 {C:Ctx}{K:Loc}{f:Nat}{args:List PV}{h:PH}{fn:Func}{c:Code}{v:PV}(Zic:(C.ext f []).isNone=true)(hF:C.F f=some fn)(hb:fn.body=some c)(Xb:C.raw f=false)(ho:args.flatMap ownV=[])(hr:args.flatMap (refs 3)=[])
  (hx:wp (Vt C {base:=h.next,lo:=h.next,ok:=[]} true c (R1 0 args) {h with next:=h.next+fn.ntmps}) fun r=>(r.1=.normal\/r.1=.ret)/\wp (Ut C r.2.1 r.2.2 fn.results.toList) fun vs=>
    inlT r.2.2 (Vh vs)=some v/\(ownT (Vh vs)).all (fun i=>Nat.ble h.next i)=true) (hv:below h.next 4 v=true):Yh C K f args h=some (v,h):=
 Zcm (Zci Zic Xb) hF hb Xb ho (by rw[hr];rfl) rfl (wp_mono hx fun r hr=>⟨hr.1,wp_mono hr.2 fun vs h6=>by
  unfold Wq;rw[h6.1];simp only[List.any_nil,Bool.or_false,h6.2,hv,List.all_nil,Bool.and_true,if_true,Yf]⟩)
theorem Zuj {h:PH}{ids:List Nat}(i:Nat):(match (h.freeze ids).get i with | some (_,o)=>refsO o | none=>[])=match h.get i with | some (_,o)=>refsO o | none=>[]:=by
 rw[Xc];cases h.get i with
 |none=>rfl
 |some x=>
  obtain⟨v,o⟩:=x;cases o<;>first | rfl | (by_cases hi:i∈ids<;>simp only[hi,if_true,if_false]<;>rfl)
theorem Zhh {h:PH}{ids:List Nat}:∀ {n:Nat} {l:List Nat},reach (h.freeze ids) n l=reach h n l
 | 0,l=>by cases l<;>rfl
 |n+1,[]=>rfl
 |n+1,a::l=>by
  simp only[reach];rw[Zhh];congr 3;funext i;exact Zuj i
theorem Z41 {C:Ctx}{K:Loc}{f:Nat}{args args':List PV}{h H':PH}{v:PV}{ok:List Nat}(hC:Yh C K f args' (h.freeze (args.flatMap ownV))=some (v,H'))(Ur:extP C f args=none)(Z8r:extP C f args'=none)(Xb:C.raw f=false)(hm:Vi (inlV h) args=some args')
  (ho:args'.flatMap ownV=[]) (hre:reach h 4 (args'.flatMap (refs 3))=ok) (hids:(args.flatMap ownV).all (can K)=true) (hvb:below h.next 4 v=true) (hbo:ok.all (fun i=>H'.belowAt h.next i)=true):
  ∃h3,H'=Yf h3 ok (h.freeze (args.flatMap ownV))/\(Yh C K f args h=some (v,Yf h3 ok h)\/Yh C K f args h=some (v,H')/\¬ (args.flatMap ownV).all (fun i=>!(ok.any (Nat.beq i))&&(match h.get i with
   |some (_,.row g true _)=>Yu g 14 v&&ok.all (fun j=>match h3.get j with | some (_,o)=>Zgh g o | none=>true)
   |some (_,.row _ false _)=>true
   | _=>false))=true):=by
 obtain⟨fn,c,hF,hb,Zu,_,hx⟩:=(Ziq (ok:=ok) Z8r Xb (Vs ho) (by rw[Zhh];exact hre)).1 hC;obtain⟨⟨x,Y6,h2⟩,h1,h3,h4⟩:=X5.1 hx;obtain⟨vs,h5,h6⟩:=X5.1 h4;rw[ho]at h1 h6;rw[X4]at h1;simp only at h5 h6
 have key:∃h3,H'=Yf h3 ok (h.freeze (args.flatMap ownV))/\(Wq h h2 ok (args.flatMap ownV) (Vh vs)=some (v,Yf h3 ok h)\/Wq h h2 ok (args.flatMap ownV) (Vh vs)=some (v,H')/\¬ (args.flatMap ownV).all (fun i=>!(ok.any (Nat.beq i))&&(match h.get i with
   |some (_,.row g true _)=>Yu g 14 v&&ok.all (fun j=>match h3.get j with | some (_,o)=>Zgh g o | none=>true)
   |some (_,.row _ false _)=>true
   | _=>false))=true):=by
  unfold Wq at h6 ⊢;cases hi:inlT h2 (Vh vs) with
  |none=>rw[hi]at h6;cases h6
  |some v'=>
   rw[hi]at h6;simp only[X4,List.all_nil,if_true]at h6 ⊢;split at h6
   .split at h6
    .rename_i h7 h8;simp only[Option.some.injEq,Prod.mk.injEq]at h6;obtain⟨rfl,rfl⟩:=h6;refine⟨h2.freeze (ownT (Vh vs)),rfl,?_⟩;rw[if_pos h7,if_pos h8];split
     .exact .inl rfl
     .rename_i h9;exact .inr ⟨rfl,h9⟩
    .rename_i h7 h8;exfalso;split at h6
     .simp only [Option.some.injEq,Prod.mk.injEq]at h6;obtain⟨rfl,rfl⟩:=h6;exact h8 (by rw[hvb,hbo];rfl)
     .cases h6
   .cases h6
 obtain⟨g3,e,key⟩:=key;refine⟨g3,e,?_⟩
 have go:∀w,Wq h h2 ok (args.flatMap ownV) (Vh vs)=some w->Yh C K f args h=some w:=fun w hw=>by
  refine (Ziq Ur Xb hm hre).2 ⟨fn,c,hF,hb,?_,hids,X5.2 ⟨_,h1,h3,X5.2 ⟨vs,h5,hw⟩⟩⟩;rw[List.all_eq_true]at Zu ⊢;intro i hi;have:=Zu i hi;rw[Xc]at this;split at this
  .rename_i hh;rw[hh];split at this<;>exact this
  .exact this
 rcases key with k | ⟨k,n⟩
 .exact .inl (go _ k)
 .exact .inr ⟨go _ k,n⟩
end Go.Pure
end
section
namespace Go.Pure
open Go
open Go.Virt (Ex Ctx Ty TK)
theorem Ztq {C:Ctx}{K:Loc}{Xs:Bool}{b:Code}{Q:Ex×Yt×PH->Prop}(I:Nat->Yt->PH->Prop)
  (step:∀n sl h,I n sl h->wp (Vt C K Xs b sl h) fun r=>match r with | (.normal,Y6,h')=>∃m,m < n/\I m (Zdc sl Y6) h' | r=>Q r):
  ∀n sl h,I n sl h->wp (Vt C K Xs (.loop b) sl h) Q:=by
 intro n
 induction n using Nat.strongRecOn with
 | _ n ih=>
   intro sl h hi;rw[wp_loop];refine wp_mono (step n sl h hi) ?_;rintro⟨x,Y6,h'⟩ hq;cases x with
   |normal=>obtain⟨m,hm,hI⟩:=hq;exact ih m hm _ _ hI
   |exit id=>exact hq
   |ret=>exact hq
structure Hide (p:Prop):Prop where
 get:p
theorem Zto {n:Int}(h1 : -9223372036854775808<=n)(h2:n < 9223372036854775808):IntKind.i64.wrap n=n:=by
 simp only[IntKind.wrap,IntKind.bits,IntKind.signed,Bool.true_and,decide_eq_true_eq,ge_iff_le];split<;>omega
theorem Zab0 {n:Int}(h1:0<=n)(h2:n < 256):IntKind.u8.wrap n=n:=by
 simp only[IntKind.wrap,IntKind.bits,IntKind.signed,Bool.false_and,Bool.false_eq_true,if_false];omega
theorem Z50 {n:Int}:0<=IntKind.u64.wrap n/\IntKind.u64.wrap n < 18446744073709551616:=by
 simp only[IntKind.wrap,IntKind.bits,IntKind.signed,Bool.false_and,Bool.false_eq_true,if_false];omega
theorem Zpf {n:Int}(h1:0<=n)(h2:n < 18446744073709551616):IntKind.u64.wrap n=n:=by
 simp only[IntKind.wrap,IntKind.bits,IntKind.signed,Bool.false_and,Bool.false_eq_true,if_false];omega
def Zdd:PV->Bool
 | .bool _ | .int _ _ | .str _ | .nilp | .nils | .nilm | .nilf | .nili=>true
 | _=>false
abbrev Xq (C:Ctx)(f:Nat)(args:List PV)(v:PV):Prop:=∀K H,Yh C K f args H=some (v,H)
theorem Zzg {v:PV}(h:Zdd v=true)(m n:Nat):below m n v=true:=by
 cases v<;>simp_all[Zdd]<;>cases n<;>rfl
theorem Zzf {v:PV}(h:Zdd v=true)(m:Nat)(n:Nat):Yu m n v=true:=by
 cases v<;>simp_all[Zdd]<;>cases n<;>rfl
theorem Zqw {C:Ctx}{K:Loc}{f:Nat}{args args':List PV}{h:PH}{v:PV}(hA:Xq C f args' v)(hvb:∀m,below m 4 v=true)(Xb:C.raw f=false)(hm:Vi (inlV h) args=some args')(Yp:args.isEmpty=false)
  (ho:args'.flatMap ownV=[]) (hr:args'.flatMap (refs 3)=[])
  (hids:(args.flatMap ownV).all (can K)=true):Yh C K f args h=some (v,h)\/(Yh C K f args h=some (v,h.freeze (args.flatMap ownV))/\¬ (args.flatMap ownV).all (fun i=>match h.get i with | some (_,.row g true _)=>Yu g 14 v | some (_,.row _ false _)=>true | _=>false)=true):=by
 have hne':args'.isEmpty=false:=by
  cases args with
  |nil=>cases Yp
  |cons a l=>
   simp only[Vi]at hm;split at hm
   .injection hm with hm;subst hm;rfl
   .cases hm
 obtain⟨h3,e,k⟩:=Z41 (ok:=[]) (hA K _) (Z1o Yp Xb) (Z1o hne' Xb) Xb hm ho (by rw[hr];rfl) hids (hvb _) rfl;refine k.imp id fun k=>⟨k.1,fun hh=>k.2 ?_⟩
 rw[List.all_eq_true]at hh ⊢;intro i hi;have h5:=hh i hi;simp only[List.any_nil,Bool.not_false,Bool.true_and,List.all_nil,Bool.and_true];exact h5
theorem Zqv {C:Ctx}{K:Loc}{f:Nat}{args args':List PV}{h:PH}{v:PV}(hA:Xq C f args' v)(hvb:∀m,below m 4 v=true)(Xb:C.raw f=false)(hm:Vi (inlV h) args=some args')(Yp:args.isEmpty=false)
  (ho:args'.flatMap ownV=[]) (hr:args'.flatMap (refs 3)=[])
  (hids:(args.flatMap ownV).all (fun i=>can K i&&match h.get i with | some (_,.row g _ _)=>Yu g 14 v | _=>false)=true):Yh C K f args h=some (v,h):=by
 rw[List.all_eq_true]at hids
 rcases Zqw hA hvb Xb hm Yp ho hr (by
  rw[List.all_eq_true];intro i hi;have:=hids i hi;rw[Bool.and_eq_true]at this;exact this.1) with h1 | ⟨_,h1⟩
 .exact h1
 .refine absurd ?_ h1;rw[List.all_eq_true];intro i hi;have:=hids i hi;rw[Bool.and_eq_true]at this;have h2:=this.2;split at h2
  .rename_i Zc g own xs hg;rw[hg];cases own
   .rfl
   .exact h2
  .cases h2
theorem Zoa {C:Ctx}{K:Loc}{f:Nat}{args args':List PV}{h:PH}{v:PV}(hA:Xq C f args' v)(hv:Zdd v=true)(Xb:C.raw f=false)(hm:Vi (inlV h) args=some args')(Yp:args.isEmpty=false)
  (ho:args'.flatMap ownV=[]) (hr:args'.flatMap (refs 3)=[])
  (hids:(args.flatMap ownV).all (fun i=>can K i&&match h.get i with | some (_,.row _ _ _)=>true | _=>false)=true):Yh C K f args h=some (v,h):=
 Zqv hA (fun m=>Zzg hv _ _) Xb hm Yp ho hr (by
  rw[List.all_eq_true]at hids ⊢;intro i hi;have:=hids i hi;rw[Bool.and_eq_true]at this ⊢;refine⟨this.1,?_⟩;have h2:=this.2;split at h2
  .exact Zzf hv _ _
  .cases h2)
theorem Zux {C:Ctx}{f g:Nat}{x:PV}{ys:List PV}{v:PV}(hA:Xq C f [x,.lst g ys] v)(hv:Zdd v=true)(hx:Zdd x=true)(Xb:C.raw f=false):
  ∀(K:Loc) (h:PH) (i Zc n:Nat) (own:Bool),K.lo<=i->h.get i=some (Zc,.row g own ys)->n=ys.length->Yh C K f [x,.own i Zc g 0 n] h=some (v,h):=by
 intro K h i Zc n own hK hg hn;have h1:inlV h x=some x:=by cases x<;>simp_all[Zdd]
 have h2:ownV x=[]:=by cases x<;>simp_all[Zdd]
 have h3:refs 3 x=[]:=by cases x<;>simp_all[Zdd]
 refine Zoa hA hv Xb ?_ rfl ?_ ?_ ?_
 .rw [Z26,h1];simp[hg,hn]
 .rw [List.flatMap_cons,h2];rfl
 .rw [List.flatMap_cons,h3];rfl
 .rw [List.flatMap_cons,h2];simp[hg,hK]
def Zav:Code->List Nat
 | .region _ ops _=>ops.toList.filterMap (·.dst)
 | .seq a b=>Zav a++Zav b
 | .cond _ a b=>Zav a++Zav b
 | .block _ b=>Zav b
 | .loop b=>Zav b
 | _=>[]
theorem U0 {sl:Yt}{d:Option Nat}{v:PV}{t:Nat}(h:d≠some t):putP sl d v t=sl t:=by
 cases d with
 |none=>rfl
 |some d=>
  show (if t=d then some v else sl t)=sl t;rw[if_neg];rintro rfl;exact h rfl
theorem Zm5 {sl Y6:Yt}{t:Nat}(h:Y6 t=sl t):Zdc sl Y6 t=sl t:=by
 unfold Zdc;cases hs:sl t with
 |none=>rfl
 |some v=>simp only;rw[h,hs]
section
variable {C:Ctx}{cf:CF}{yf:YF}{K:Loc}
theorem Zgg {all:List Oper}{t:Nat}:∀ {l:List Oper} {sl:Yt} {h:PH} {r:Yt×PH},Za4 C cf yf K all l sl h=some r->t∉l.filterMap (·.dst)->r.1 t=sl t
 | [],sl,h,r,he,ht=>by simp only[Za4,Option.some.injEq]at he;subst he;rfl
 |o::l,sl,h,r,he,ht=>by
  have h1:o.dst≠some t:=by
   intro e;exact ht (List.mem_filterMap.2 ⟨o,List.mem_cons_self,e⟩)
  have h2:t∉l.filterMap (·.dst):=by
   intro e;obtain⟨o',hm,e'⟩:=List.mem_filterMap.1 e;exact ht (List.mem_filterMap.2 ⟨o',List.mem_cons_of_mem _ hm,e'⟩)
  simp only[Za4]at he;split at he
  .split at he
   .rw [Zgg he h2,U0 h1]
   .cases he
  .rw [Zgg he h2,U0 h1]
  .cases he
theorem Zt8 {all:List Oper}{masks:Array Nat}{o:Oper}{i:Nat}{s s':PD}{t:Nat}(he:Zc9 C cf yf K all masks o i s=some s')(ht:o.dst≠some t):s'.sl t=s.sl t:=by
 unfold Zc9 at he;dsimp only at he;split at he
 .cases he
 .simp only [Option.some.injEq]at he;subst he;exact U0 ht
 .split at he
  .split at he
   .simp only [Option.some.injEq]at he;subst he;exact U0 ht
   .cases he
  .split at he
   .split at he
    .simp only [Option.some.injEq]at he;subst he;exact U0 ht
    .rename_i d _ hd;simp only[Option.some.injEq]at he;subst he;rw[hd]at ht;exact U0 (d:=some d) ht
    .cases he
   .split at he
    .unfold Z0p at he;split at he
     .split at he
      .simp only [Option.some.injEq]at he;subst he;exact U0 ht
      .cases he
     .split at he
      .simp only [Option.some.injEq]at he;subst he;exact U0 ht
      .cases he
    .cases he
theorem Zkf {all:List Oper}{masks:Array Nat}{t:Nat}:∀ {l:List Oper} {i:Nat} {s s':PD},Qm C cf yf K all masks l i s=some s'->t∉l.filterMap (·.dst)->s'.sl t=s.sl t
 | [],i,s,s',he,ht=>by simp only[Qm,Option.some.injEq]at he;subst he;rfl
 |o::l,i,s,s',he,ht=>by
  have h1:o.dst≠some t:=by
   intro e;exact ht (List.mem_filterMap.2 ⟨o,List.mem_cons_self,e⟩)
  have h2:t∉l.filterMap (·.dst):=by
   intro e;obtain⟨o',hm,e'⟩:=List.mem_filterMap.1 e;exact ht (List.mem_filterMap.2 ⟨o',List.mem_cons_of_mem _ hm,e'⟩)
  simp only[Qm]at he;split at he
  .rename_i s1 hs1;rw[Zkf he h2,Zt8 hs1 h1]
  .cases he
end
theorem Vc {C:Ctx}{t:Nat}:∀(n:Nat) {K:Loc} {Xs:Bool} {c:Code} {sl:Yt} {h:PH} {x:Ex} {Y6:Yt} {h':PH},exec C n K Xs c sl h=some (x,Y6,h')->t∉Zav c->Y6 t=sl t
 | 0,K,Xs,c,sl,h,x,Y6,h',he,ht=>by simp only[exec]at he;cases he
 |n+1,K,Xs,c,sl,h,x,Y6,h',he,ht=>by
  cases c with
  |skip=>simp only[exec,Option.some.injEq,Prod.mk.injEq]at he;rw[<- he.2.1]
  |region id ops draw=>
   cases draw with
   |true=>
    simp only[exec,if_true,Option.map_eq_some_iff,Zcj]at he;obtain⟨⟨s1,h1⟩,⟨s,hs,e1⟩,e2⟩:=he;simp only[Prod.mk.injEq]at e1 e2;rw[<- e2.2.1,<- e1.1];exact Zkf hs ht
   |false=>
    simp only[exec,Bool.false_eq_true,if_false,Option.map_eq_some_iff]at he;obtain⟨⟨s1,h1⟩,hs,e2⟩:=he;simp only[Prod.mk.injEq]at e2;rw[<- e2.2.1];exact Zgg hs ht
  |seq a b=>
   simp only[Zav,List.mem_append,not_or]at ht;simp only[exec]at he;split at he
   .rename_i Qr h1 ha;rw[Vc n he ht.2,Vc n ha ht.1]
   .rename_i Yp;exact Vc n he ht.1
  |cond c a b=>
   simp only[Zav,List.mem_append,not_or]at ht;simp only[exec]at he;split at he
   .exact Vc n he ht.1
   .exact Vc n he ht.2
   .cases he
  |block id b=>
   simp only[Zav]at ht;simp only[exec]at he;split at he
   .rename_i id' Qr h1 hb;have:=Vc n hb ht;split at he
    .simp only [Option.some.injEq,Prod.mk.injEq]at he;rw[<- he.2.1];exact this
    .simp only [Option.some.injEq,Prod.mk.injEq]at he;rw[<- he.2.1];exact this
   .exact Vc n he ht
  |loop b=>
   simp only[Zav]at ht;simp only[exec]at he;split at he
   .rename_i Qr h1 hb;rw[Vc n he (by simpa only[Zav]using ht)];exact Zm5 (Vc n hb ht)
   .exact Vc n he ht
  |exit id=>simp only[exec,Option.some.injEq,Prod.mk.injEq]at he;rw[<- he.2.1]
  |ret=>simp only[exec,Option.some.injEq,Prod.mk.injEq]at he;rw[<- he.2.1]
  |rangeFunc f ps assign body=>
   simp only[exec]at he;split at he
   .split at he
    .split at he
     .split at he
      .split at he
       .simp only [Option.some.injEq,Prod.mk.injEq]at he;rw[<- he.2.1]
       .cases he
      .cases he
     .cases he
    .cases he
   .cases he
  |scope b=>simp only[exec]at he;cases he
  |label l=>simp only[exec]at he;cases he
  |goto l=>simp only[exec]at he;cases he
  |refuse w=>simp only[exec]at he;cases he
theorem Z4m {C:Ctx}{t:Nat}{K:Loc}{Xs:Bool}{c:Code}{sl:Yt}{h:PH}{x:Ex}{Y6:Yt}{h':PH}(he:Vt C K Xs c sl h=some (x,Y6,h'))(ht:t∉Zav c):Y6 t=sl t:=by
 obtain⟨n,hn⟩:=Xu.1 he;exact Vc n hn ht
def Zw6 (sl Uc:Yt):List Nat->Prop
 | []=>True
 |t::r=>sl t=Uc t/\Zw6 sl Uc r
@[simp] theorem Zaoy {sl Uc:Yt}:Zw6 sl Uc []=True:=rfl
@[simp] theorem Zamg {sl Uc:Yt}{t:Nat}{r:List Nat}:Zw6 sl Uc (t::r)=(sl t=Uc t/\Zw6 sl Uc r):=rfl
theorem Zrd {sl Uc:Yt}:∀ {F:List Nat},(∀t,t∈F->sl t=Uc t)->Zw6 sl Uc F
 | [],_=>trivial
 |t::r,h=>⟨h t List.mem_cons_self,Zrd fun u hu=>h u (List.mem_cons_of_mem _ hu)⟩
theorem Zue {sl Uc:Yt}:∀ {F:List Nat},Zw6 sl Uc F->∀t,t∈F->sl t=Uc t
 | [],_,t,ht=>by cases ht
 |u::r,h,t,ht=>by
  rcases List.mem_cons.1 ht with rfl | ht
  .exact h.1
  .exact Zue h.2 t ht
theorem Zv {C:Ctx}{K:Loc}{Xs:Bool}{b:Code}{Q:Ex×Yt×PH->Prop}{Uc:Yt}{h0:PH}(F:List Nat)
  (I:Nat->Yt->PH->Prop) (n0:Nat) (hF:F.all (fun t=>!(Zav b).contains t)=true) (h00:I n0 Uc h0)
  (step:∀n sl h,Zw6 sl Uc F->I n sl h->wp (Vt C K Xs b sl h) fun r=>match r with | (.normal,Y6,h')=>∃m,m < n/\I m (Zdc sl Y6) h' | r=>Q r):
  wp (Vt C K Xs (.loop b) Uc h0) Q:=by
 refine Ztq (fun n sl h=>Zw6 sl Uc F/\I n sl h) ?_ n0 Uc h0 ⟨Zrd fun _ _=>rfl,h00⟩;rintro n sl h ⟨hf,hi⟩;have hs:=step n sl h hf hi;obtain⟨⟨x,Y6,h'⟩,he,hq⟩:=X5.1 hs;refine X5.2 ⟨_,he,?_⟩
 have hb:∀t,t∈F->t∉Zav b:=fun t ht=>by
  have:=List.all_eq_true.1 hF t ht;simpa using this
 cases x with
 |normal=>
  obtain⟨m,hm,hI⟩:=hq;refine⟨m,hm,Zrd fun t ht=>?_,hI⟩;rw[Zm5 (Z4m he (hb t ht)),Zue hf t ht]
 |exit id=>exact hq
 |ret=>exact hq
def L (g:Nat)(b:Bool)(xs:List PV):PV:=if b&&xs.isEmpty then .nils else .lst g xs
theorem Wn {g:Nat}:L g true []=.nils:=rfl
theorem Tv {g:Nat}{xs:List PV}:L g false xs=.lst g xs:=rfl
theorem Xe {g:Nat}{b:Bool}{x:PV}{xs:List PV}:L g b (x::xs)=.lst g (x::xs):=by simp[L]
theorem Zw7 (g:Nat)(b:Bool)(xs:List PV):(L g b xs=.nils/\b=true/\xs=[])\/(L g b xs=.lst g xs/\(b&&xs.isEmpty)=false):=by
 unfold L;cases h:(b&&xs.isEmpty)
 .exact Or.inr ⟨rfl,rfl⟩
 .simp at h;exact Or.inl ⟨rfl,h.1,h.2⟩
section
variable {g:Nat}{b:Bool}{xs:List PV}
@[simp high] theorem Zan5:Zd (L g b xs)=[L g b xs]:=by unfold L;split<;>rfl
@[simp high] theorem Zau6:Wv (L g b xs)=true:=by unfold L;split<;>rfl
@[simp high] theorem Zav1 {h:PH}:Zee h (L g b xs)=some (L g b xs):=by unfold L;split<;>rfl
@[simp high] theorem Zavz {h:PH}:inlV h (L g b xs)=some (L g b xs):=by unfold L;split<;>rfl
@[simp high] theorem Zav0 {h:PH}:inlT h (L g b xs)=some (L g b xs):=by unfold L;split<;>rfl
@[simp high] theorem Zavr:Zdi (L g b xs)=[]:=by unfold L;split<;>rfl
@[simp high] theorem Zavp:ownV (L g b xs)=[]:=by unfold L;split<;>rfl
@[simp high] theorem Zavq:ownT (L g b xs)=[]:=by unfold L;split<;>rfl
@[simp high] theorem Zavl {n:Nat}:refs n (L g b xs)=[]:=by unfold L;split<;>cases n<;>rfl
@[simp high] theorem Zau7 {m n:Nat}:below m n (L g b xs)=true:=by unfold L;split<;>cases n<;>rfl
@[simp high] theorem Zatl {n:Nat}:plain n (L g b xs)=true:=by unfold L;split<;>cases n<;>rfl
@[simp high] theorem Zatj {n:Nat}:W2 n (L g b xs)=true:=by unfold L;split<;>cases n<;>rfl
@[simp high] theorem Zau4 {h:PH}:h.elems g (L g b xs)=some xs:=by
 unfold L;split
 .rename_i h;simp at h;simp[PH.elems,h.2]
 .simp [PH.elems]
end
attribute [simp] eqP Zo0.eq_1 Zo0.eq_2 Zo0.eq_3 Zo0.eq_4 Zrm Zye Zqn
def lenK (k:TK)(v:PV):Option PV:=match k,v with
 | .str,.str s=>some (.int .i64 s.length)
 | .slice _,.nils=>some (.int .i64 0)
 | .slice _,.lst _ xs=>some (.int .i64 xs.length)
 | .slice _,.own _ _ _ _ n=>some (.int .i64 n)
 | .map _ _,.nilm=>some (.int .i64 0)
 | _,_=>none
def Zrr (C:Ctx)(k:TK)(v i:PV):Option PV:=match i with
 | .int _ i=>match k,v with
   | .slice e,.lst g xs=>
     match C.T e with
     |some te=>if e=g/\0<=i/\i < xs.length then (xs[i.toNat]?).map fun x=>.rptr (Zd x) else none
     |none=>none
   | .array n e,.ptr b v o=>
     match C.T e with
     |some te=>if 0<=i/\i < n then some (.ptr b v (o+i.toNat*te.size)) else none
     |none=>none
   | .array n e,.rptr cs=>
     match C.T e with
     |some te=>if 0<=i/\i < n/\i.toNat*te.size+te.size<=cs.length then some (.rptr (cs.drop (i.toNat*te.size))) else none
     |none=>none
   | _,_=>none
 | _=>none
def idxO (C:Ctx)(h:PH)(k:TK)(v i:PV):Option (PV×PH):=match v,i with
 | .own b Zc g off len,.int _ i=>match k with
   | .slice e=>match C.T e,h.row b Zc g with
     |some te,some (_,xs)=>if e=g/\0<=i/\i < len/\off+len<=xs.length then some (.eptr b Zc g (off+i.toNat) 0,h) else none
     | _,_=>none
   | _=>none
 | _,_=>none
def Z7u (C:Ctx)(k:TK)(v i:PV):Option PV:=match i with
 | .int _ i=>match k,v with
   | .array n e,.agg cs=>
     match C.T e with
     |some te=>if 0<=i/\i < n then (X1 cs (i.toNat*te.size) te.size).bind (toP te.k.agg) else none
     |none=>none
   | .str,.str s=>if 0<=i then (s[i.toNat]?).map fun (b:Nat)=>.int .u8 (b:Int) else none
   | _,_=>none
 | _=>none
def Zrb (C:Ctx)(k:TK)(v:PV)(lo hi:Option PV):Option PV:=match k,v with
 | .str,.str s=>(Xv s.length lo hi).map fun (l,u)=>.str ((s.drop l).take (u - l))
 | .slice e,.nils=>match C.T e,Xv 0 lo hi with
   |some _,some _=>some .nils
   | _,_=>none
 | .slice e,.lst g xs=>match C.T e,Xv xs.length lo hi with
   |some te,some (l,u)=>if e=g then some (.lst g ((xs.drop l).take (u - l))) else none
   | _,_=>none
 | _,_=>none
def sliO (C:Ctx)(h:PH)(k:TK)(v:PV)(lo hi:Option PV):Option (PV×PH):=match v with
 | .own i Zc g off len=>match k with
   | .slice e=>match C.T e,Xv len lo hi,h.row i Zc g with
     |some te,some (l,u),some _=>if e=g then some (.own i Zc g (off+l) (u - l),h) else none
     | _,_,_=>none
   | _=>none
 | _=>none
def Z0u (T:Ty)(v:PV):Option PV:=match v with
 | .rptr cs=>(X1 cs 0 T.size).bind (toP T.k.agg)
 | _=>none
def Zvh (h:PH)(T:Ty)(v:PV):Option (PV×PH):=match v with
 | .ptr i Zc off=>match h.get i with
   |some (v,.cells cs)=>if v=Zc then ((X1 cs off T.size).bind (toP T.k.agg)).map (·,h) else none
   | _=>none
 | .eptr i Zc g ix off=>match h.row i Zc g with
   |some (_,xs)=>match xs[ix]? with
    |some x=>((X1 (Zd x) off T.size).bind (toP T.k.agg)).map (·,h)
    |none=>none
   |none=>none
 | _=>none
def Zl5 (K:Loc)(h:PH)(T:Ty)(a v:PV):Option (PV×PH):=match a with
 | .ptr i Zc off=>
   if (Zd v).length=T.size/\(Zd v).all Wv=true/\can K i=true then
    match h.get i with
    |some (w,.cells cs)=>if w=Zc then (Yn cs off (Zd v)).map fun cs=>(.tuple [],h.put i Zc (.cells cs)) else none
    | _=>none
   else none
 | .eptr i Zc g ix off=>match inlV h v with
   |none=>none
   |some v'=>
    if (Zd v').length=T.size/\(Zd v').all Wv=true/\(Zd v').all (plain 3)=true/\can K i=true/\(ownV v).all (can K)=true then
     match (h.freeze (ownV v)).row i Zc g with
     |some (true,xs)=>match xs[ix]? with
      |some x=>(Ss x off (Zd v')).map fun x=>(.tuple [],(h.freeze (ownV v)).put i Zc (.row g true (xs.set ix x)))
      |none=>none
     | _=>none
    else none
 | _=>none
def mksK (C:Ctx)(k:TK)(n m:PV):Option Mk:=match n,m with
 | .int _ n,.int _ m=>match k with
   | .slice e=>match C.T e with
     |some te=>if 0<=n/\n<=m/\m<=Virt.maxLenV/\te.bytes<=2^16 then
       match Q8 te with
       |some z=>if (Zd z).length=te.size/\(Zd z).all Wv=true/\plain 4 z=true then some (.slice e n.toNat (.row e true (List.replicate n.toNat z))) else none
       |none=>none
      else none
     |none=>none
   | _=>none
 | _,_=>none
def Zw2 (C:Ctx)(K:Loc)(h:PH)(d:Nat)(k k':TK)(s x:PV):Option (PV×PH):=match k with
 | .slice e=>match C.T e with
   |some ty=>match k' with
    | .int _=>match s,x with
      | .nils,.int _ n=>
        if 0<=n/\n<=Virt.maxLenV/\ty.bytes<=2^16/\0 < ty.size then
         if n=0 then some (.nils,h) else
         match Q8 ty with
         |some z=>if (Zd z).length=ty.size/\(Zd z).all Wv=true/\plain 4 z=true then some (.own (K.base+d) (h.stamp (K.base+d)) e 0 n.toNat,h.put (K.base+d) (h.stamp (K.base+d)) (.row e true (List.replicate n.toNat z))) else none
         |none=>none
        else none
      | _,_=>none
    | _=>match x with
      | .str b=>if ty.size=1 then Xk K h d e ty b.length (b.map fun (b:Nat)=>.int .u8 (b:Int)) s else none
      | _=>match h.elems e x with
        |some ys=>Xk K h d e ty ys.length ys s
        |none=>none
   |none=>none
 | _=>none
def copK (C:Ctx)(K:Loc)(h:PH)(d:Nat)(k k':TK)(s x:PV):Option (PV×PH):=match k with
 | .slice e=>match C.T e with
   |some ty=>match k' with
    | .int _=>match s,x with
      | .nils,.int _ n=>
        if 0<=n/\n<=Virt.maxLenV/\ty.bytes<=2^16/\0 < ty.size then
         if n=0 then some (.nils,h) else
         match Q8 ty with
         |some z=>if (Zd z).length=ty.size/\(Zd z).all Wv=true/\plain 4 z=true then some (.own (K.base+d) (h.stamp (K.base+d)) e 0 n.toNat,h.put (K.base+d) (h.stamp (K.base+d)) (.row e true (List.replicate n.toNat z))) else none
         |none=>none
        else none
      | _,_=>none
    | _=>match x with
      | .str b=>if ty.size=1 then Xk K h d e ty b.length (b.map fun (b:Nat)=>.int .u8 (b:Int)) s else none
      | _=>match h.elems e x with
        |some ys=>Zkv h e ty ys s
        |none=>none
   |none=>none
 | _=>none
def Z4v (k k':TK)(v:PV):Option PV:=match k,k',v with
 | _,.int k,.int _ n=>some (.int k (k.wrap n))
 | _,.str,.str s=>some (.str s)
 | _,_,_=>none
def Z4u (C:Ctx)(K:Loc)(h:PH)(d:Option Nat)(k k':TK)(v:PV):Option (PV×PH):=match k,k',v with
 | .str,.slice e,.str s=>
   match C.T e,d with
   |some te,some d=>match te.k with
    | .int .u8=>if s.length<=Virt.maxLenV/\te.size=1 then some (.own (K.base+d) (h.stamp (K.base+d)) e 0 s.length,h.put (K.base+d) (h.stamp (K.base+d)) (.row e true (s.map fun (b:Nat)=>.int .u8 (b:Int)))) else none
    | _=>none
   | _,_=>none
 | .slice e,.str,v=>
   match C.T e with
   |some te=>match te.k with
    | .int .u8=>if te.size=1 then ((h.elems e v).bind Zh.bytesP).map fun b=>(.str b,h) else none
    | _=>none
   |none=>none
 | _,_,_=>none
section
variable {C:Ctx}{cf:CF}{yf:YF}{K:Loc}{all:List Oper}{sl:Yt}{h:PH}{d:Option Nat}{ty:TypeId}{pos:String}{af:Array Edge}{gd:Option (Nat×Bool)}{x y ix:Operand}{t t':TypeId}
@[simp high] theorem Zasv {ats:Array TypeId}:Yi C sl ⟨d,.call ⟨.builtin .len,#[x],ats⟩,ty,pos,af,gd⟩=bO (Yx sl x) fun v=>bO ((ats[0]?).bind C.T) fun T=>lenK T.k v:=by
 simp only[Yi,Zak,Zji];cases Yx sl x with
 |none=>rfl
 |some v=>
  simp only[Xw];cases (ats[0]?).bind C.T with
  |none=>rfl
  |some T=>rfl
@[simp high] theorem Zel:Yi C sl ⟨d,.indexAddr t x ix,ty,pos,af,gd⟩=bO (C.T t) fun T=>bO (Yx sl x) fun v=>bO (Yx sl ix) fun i=>Zrr C T.k v i:=by
 simp only[Yi];cases C.T t<;>cases Yx sl x<;>cases hi:Yx sl ix<;>try rfl
 rename_i i;cases i<;>rfl
@[simp high] theorem Qh:Zh C cf yf all K sl h ⟨d,.indexAddr t x ix,ty,pos,af,gd⟩=bO (C.T t) fun T=>bO (Yx sl x) fun v=>bO (Yx sl ix) fun i=>idxO C h T.k v i:=by
 simp only[Zh];cases C.T t<;>cases Yx sl x<;>cases Yx sl ix<;>try rfl
 .rename_i v;cases v<;>rfl
 .rename_i v i;cases v<;>cases i<;>rfl
@[simp high] theorem Zno:Yi C sl ⟨d,.index t x ix,ty,pos,af,gd⟩=bO (C.T t) fun T=>bO (Yx sl x) fun v=>bO (Yx sl ix) fun i=>Z7u C T.k v i:=by
 simp only[Yi];cases C.T t<;>cases Yx sl x<;>cases hi:Yx sl ix<;>try rfl
 rename_i i;cases i<;>rfl
@[simp high] theorem Znn {lo hi:Option Operand}:Yi C sl ⟨d,.slice t x lo hi none,ty,pos,af,gd⟩=bO (C.T t) fun T=>bO (Yx sl x) fun v=>bO (Sx sl lo) fun l=>bO (Sx sl hi) fun u=>Zrb C T.k v l u:=by
 simp only[Yi];cases C.T t<;>cases Yx sl x<;>try rfl
 simp only[Xw];cases Sx sl lo<;>cases Sx sl hi<;>try rfl
@[simp high] theorem Zdv {lo hi:Option Operand}:Zh C cf yf all K sl h ⟨d,.slice t x lo hi none,ty,pos,af,gd⟩=bO (C.T t) fun T=>bO (Yx sl x) fun v=>bO (Sx sl lo) fun l=>bO (Sx sl hi) fun u=>sliO C h T.k v l u:=by
 simp only[Zh];cases C.T t<;>cases Yx sl x<;>try rfl
 rename_i T v;simp only[Xw];cases v<;>cases Sx sl lo<;>cases Sx sl hi<;>rfl
@[simp high] theorem Zqh:Yi C sl ⟨d,.load t x,ty,pos,af,gd⟩=bO (C.T t) fun T=>bO (Yx sl x) fun v=>Z0u T v:=by
 simp only[Yi];cases C.T t<;>cases Yx sl x<;>try rfl
 rename_i T v;cases v<;>rfl
@[simp high] theorem Zl7:Zh C cf yf all K sl h ⟨d,.load t x,ty,pos,af,gd⟩=bO (C.T t) fun T=>bO (Yx sl x) fun v=>Zvh h T v:=by
 simp only[Zh];cases C.T t<;>cases Yx sl x<;>try rfl
 rename_i T v;cases v<;>rfl
@[simp high] theorem Zkd:Zh C cf yf all K sl h ⟨d,.store t x y,ty,pos,af,gd⟩=bO (C.T t) fun T=>bO (Yx sl x) fun a=>bO (Yx sl y) fun v=>Zl5 K h T a v:=by
 simp only[Zh];cases C.T t<;>cases Yx sl x<;>cases Yx sl y<;>try rfl
 .rename_i a;cases a<;>rfl
 .rename_i T a v;cases a<;>rfl
@[simp high] theorem Zd9 {l c:Operand}:V5 C all sl ⟨d,.makeSlice t l c,ty,pos,af,gd⟩=bO (C.T t) fun T=>bO (Yx sl l) fun n=>bO (Yx sl c) fun m=>mksK C T.k n m:=by
 simp only[V5];cases C.T t<;>cases Yx sl l<;>cases Yx sl c<;>try rfl
 .rename_i n;cases n<;>rfl
 .rename_i T n m;cases n<;>cases m<;>rfl
@[simp high] theorem Zacb {ats:Array TypeId}{dd:Nat}:Zh C cf yf all K sl h ⟨some dd,.call ⟨.builtin .append,#[x,y],ats⟩,ty,pos,af,gd⟩=bO (Yx sl x) fun s=>bO (Yx sl y) fun v=>bO ((ats[0]?).bind C.T) fun T=>bO ((ats[1]?).bind C.T) fun T'=>if Zm1 all x dd=true then copK C K h dd T.k T'.k s v else Zw2 C K h dd T.k T'.k s v:=by
 simp only[Zh,Zak,Zji];cases Yx sl x with
 |none=>rfl
 |some s=>
  simp only[Xw,Zak,Zji];cases Yx sl y with
  |none=>rfl
  |some v=>
   simp only[Xw];cases (ats[0]?).bind C.T with
   |none=>rfl
   |some T=>
    cases (ats[1]?).bind C.T with
    |none=>rfl
    |some T'=>
     simp only[Xw,Zw2,copK];have e0:(((#[x,y]:Array Operand)[0]?).any fun a=>Zm1 all a dd)=Zm1 all x dd:=rfl;rw[e0];cases Zm1 all x dd<;>simp only[if_true,Bool.false_eq_true,if_false]<;>cases hk:T.k<;>rfl
attribute [simp] Z27
@[simp] theorem Zaph {all:List Oper}{t d:Nat}:Zm1 all (.tmp t) d=false:=rfl
@[simp] theorem Zapi {all:List Oper}{a c d:Nat}:Zm1 all (.const (.slice none a c)) d=Z27 all d:=rfl
@[simp high] theorem Zie:Yi C sl ⟨d,.convert t t' x,ty,pos,af,gd⟩=bO (C.T t) fun T=>bO (C.T t') fun T'=>bO (Yx sl x) fun v=>Z4v T.k T'.k v:=by
 simp only[Yi];cases C.T t<;>cases C.T t'<;>cases Yx sl x<;>rfl
@[simp high] theorem Zbo:Zh C cf yf all K sl h ⟨d,.convert t t' x,ty,pos,af,gd⟩=bO (C.T t) fun T=>bO (C.T t') fun T'=>bO (Yx sl x) fun v=>Z4u C K h d T.k T'.k v:=by
 simp only[Zh];cases C.T t<;>cases C.T t'<;>cases Yx sl x<;>rfl
end
section
variable {C:Ctx}{K:Loc}{h:PH}{g e:Nat}{b:Bool}{xs:List PV}{k:IntKind}{i:Int}
@[simp] theorem Zapk {s:List Nat}:lenK .str (.str s)=some (.int .i64 s.length):=rfl
@[simp] theorem Zamu:lenK (.slice e) .nils=some (.int .i64 0):=rfl
@[simp] theorem Zapn:lenK (.slice e) (.lst g xs)=some (.int .i64 xs.length):=rfl
@[simp] theorem Zapl {i v o n:Nat}:lenK (.slice e) (.own i v g o n)=some (.int .i64 n):=rfl
@[simp] theorem Zavt:lenK (.slice e) (L g b xs)=some (.int .i64 xs.length):=by
 rcases Zw7 g b xs with⟨e,_,rfl⟩ | ⟨e,_⟩<;>rw[e]<;>rfl
@[simp] theorem Zamv {a c:Nat}:lenK (.map a c) .nilm=some (.int .i64 0):=rfl
@[simp] theorem Zapm {a c j v:Nat}:lenK (.map a c) (.map j v)=none:=rfl
@[simp] theorem Z7v (hg:(C.T g).isSome=true)(h0:0<=i)(h1:i < xs.length):Zrr C (.slice g) (.lst g xs) (.int k i)=some (.rptr (Zd (xs[i.toNat]'(by omega)))):=by
 obtain⟨T,hT⟩:=Option.isSome_iff_exists.1 hg;have hl:i.toNat < xs.length:=by omega
 simp only[Zrr,hT,h0,h1,and_self,if_true,List.getElem?_eq_getElem hl,Option.map_some]
@[simp] theorem Zav3 (hg:(C.T g).isSome=true)(h0:0<=i)(h1:i < xs.length):Zrr C (.slice g) (L g b xs) (.int k i)=some (.rptr (Zd (xs[i.toNat]'(by omega)))):=by
 rcases Zw7 g b xs with⟨e,_,rfl⟩ | ⟨e,_⟩
 .simp at h1;omega
 .rw [e];exact Z7v hg h0 h1
@[simp] theorem Zap6 {j v o n:Nat}{x:PV}:Zrr C (.slice e) (.own j v g o n) x=none:=by cases x<;>rfl
@[simp] theorem Zap5 {n a v o:Nat}:Zrr C (.array n e) (.ptr a v o) (.int k i)=bO (C.T e) fun te=>if 0<=i/\i < n then some (.ptr a v (o+i.toNat*te.size)) else none:=by
 simp only[Zrr];cases C.T e<;>rfl
@[simp] theorem Zamz {n:Nat}{cs:List PV}:Zrr C (.array n e) (.rptr cs) (.int k i)=bO (C.T e) fun te=>if 0<=i/\i < n/\i.toNat*te.size+te.size<=cs.length then some (.rptr (cs.drop (i.toNat*te.size))) else none:=by
 simp only[Zrr];cases C.T e<;>rfl
def Z0y (h:PH)(a Zc g off len:Nat)(i:Int)(n:Nat):Option (PV×PH):=if 0<=i/\i < len/\off+len<=n then some (.eptr a Zc g (off+i.toNat) 0,h) else none
@[simp] theorem Zap4 {a Zc off len n:Nat}(h0:0<=i)(h1:i < len)(h2:off+len<=n):Z0y h a Zc g off len i n=some (.eptr a Zc g (off+i.toNat) 0,h):=by
 rw[Z0y,if_pos ⟨h0,h1,h2⟩]
@[simp] theorem Zap3 {a Zc off len:Nat}(hg:(C.T g).isSome=true):idxO C h (.slice g) (.own a Zc g off len) (.int k i)=bO (h.row a Zc g) fun p=>Z0y h a Zc g off len i p.2.length:=by
 obtain⟨T,hT⟩:=Option.isSome_iff_exists.1 hg;simp only[idxO,hT];cases h.row a Zc g with
 |none=>rfl
 |some p=>simp only[Xw,Z0y,true_and]
@[simp] theorem Zap2 {s:List Nat}(h0:0<=i)(h1:i < s.length):Z7u C .str (.str s) (.int k i)=some (.int .u8 ((s[i.toNat]'(by omega):Nat):Int)):=by
 have hl:i.toNat < s.length:=by omega
 simp only[Z7u,h0,if_true,List.getElem?_eq_getElem hl,Option.map_some]
@[simp] theorem Zai8 {n:Nat}{cs:List PV}:Z7u C (.array n e) (.agg cs) (.int k i)=bO (C.T e) fun te=>if 0<=i/\i < n then (X1 cs (i.toNat*te.size) te.size).bind (toP te.k.agg) else none:=by
 simp only[Z7u];cases C.T e<;>rfl
@[simp] theorem Zaow {s:List Nat}{lo hi:Option PV}:Zrb C .str (.str s) lo hi=bO (Xv s.length lo hi) fun p=>some (.str ((s.drop p.1).take (p.2 - p.1))):=by
 simp only[Zrb];cases Xv s.length lo hi<;>rfl
@[simp] theorem Z2p {lo hi:Option PV}(hg:(C.T e).isSome=true):Zrb C (.slice e) .nils lo hi=bO (Xv 0 lo hi) fun p=>some .nils:=by
 obtain⟨T,hT⟩:=Option.isSome_iff_exists.1 hg;simp only[Zrb,hT];cases Xv 0 lo hi<;>rfl
@[simp] theorem Z6i {lo hi:Option PV}(hg:(C.T g).isSome=true):Zrb C (.slice g) (.lst g xs) lo hi=bO (Xv xs.length lo hi) fun p=>some (.lst g ((xs.drop p.1).take (p.2 - p.1))):=by
 obtain⟨T,hT⟩:=Option.isSome_iff_exists.1 hg;simp only[Zrb,hT];cases Xv xs.length lo hi with
 |none=>rfl
 |some p=>simp only[if_true,Xw]
@[simp] theorem Zavh {lo hi:Option PV}(hg:(C.T g).isSome=true):Zrb C (.slice g) (L g b xs) lo hi=bO (Xv xs.length lo hi) fun p=>some (L g (b&&xs.isEmpty) ((xs.drop p.1).take (p.2 - p.1))):=by
 rcases Zw7 g b xs with⟨e,rfl,rfl⟩ | ⟨e,e2⟩
 .rw [e,Z2p hg];simp only[List.length_nil,List.drop_nil,List.take_nil];cases Xv 0 lo hi<;>simp[L]
 .rw [e,Z6i hg,e2];rfl
@[simp] theorem Zaox {j v o n:Nat}{lo hi:Option PV}:Zrb C (.slice e) (.own j v g o n) lo hi=none:=rfl
@[simp] theorem Zaov {j v o n:Nat}{lo hi:Option PV}(hg:(C.T g).isSome=true):sliO C h (.slice g) (.own j v g o n) lo hi=bO (Xv n lo hi) fun p=>bO (h.row j v g) fun _=>some (.own j v g (o+p.1) (p.2 - p.1),h):=by
 obtain⟨T,hT⟩:=Option.isSome_iff_exists.1 hg;simp only[sliO,hT];cases Xv n lo hi<;>cases h.row j v g<;>simp
@[simp] theorem Zaiv {T:Ty}{cs:List PV}:Z0u T (.rptr cs)=(X1 cs 0 T.size).bind (toP T.k.agg):=rfl
@[simp] theorem Zamt {T:Ty}{i v o:Nat}:Z0u T (.ptr i v o)=none:=rfl
@[simp] theorem Zaiw {T:Ty}{i v g ix o:Nat}:Z0u T (.eptr i v g ix o)=none:=rfl
def Z7b (h:PH)(T:Ty)(Zc off:Nat)(p:Nat×PO):Option (PV×PH):=match p with
 | (v,.cells cs)=>if v=Zc then ((X1 cs off T.size).bind (toP T.k.agg)).map (·,h) else none
 | _=>none
@[simp] theorem Zagl {T:Ty}{Zc off:Nat}{cs:List PV}:Z7b h T Zc off (Zc,.cells cs)=((X1 cs off T.size).bind (toP T.k.agg)).map (·,h):=by simp[Z7b]
@[simp] theorem Zams {T:Ty}{i Zc off:Nat}:Zvh h T (.ptr i Zc off)=bO (h.get i) fun p=>Z7b h T Zc off p:=by
 simp only[Zvh];cases h.get i with
 |none=>rfl
 |some p=>
  obtain⟨v,o⟩:=p;cases o<;>rfl
def Z7c (h:PH)(T:Ty)(ix off:Nat)(xs:List PV):Option (PV×PH):=match xs[ix]? with
 |some x=>((X1 (Zd x) off T.size).bind (toP T.k.agg)).map (·,h)
 |none=>none
@[simp] theorem Zapf {T:Ty}{ix off:Nat}(h1:ix < xs.length):Z7c h T ix off xs=((X1 (Zd (xs[ix]'h1)) off T.size).bind (toP T.k.agg)).map (·,h):=by
 simp only[Z7c,List.getElem?_eq_getElem h1]
@[simp] theorem Zaiu {T:Ty}{i Zc ix off:Nat}:Zvh h T (.eptr i Zc g ix off)=bO (h.row i Zc g) fun p=>Z7c h T ix off p.2:=by
 simp only[Zvh];cases h.row i Zc g<;>rfl
def Zxv (h:PH)(i Zc off:Nat)(v:PV)(p:Nat×PO):Option (PV×PH):=match p with
 | (w,.cells cs)=>if w=Zc then (Yn cs off (Zd v)).map fun cs=>(.tuple [],h.put i Zc (.cells cs)) else none
 | _=>none
@[simp] theorem Zaca {i Zc off:Nat}{v:PV}{cs:List PV}:Zxv h i Zc off v (Zc,.cells cs)=(Yn cs off (Zd v)).map fun cs=>(.tuple [],h.put i Zc (.cells cs)):=by simp[Zxv]
@[simp] theorem Zaia {T:Ty}{i Zc off:Nat}{v:PV}(h1:(Zd v).length=T.size)(h2:(Zd v).all Wv=true)(h3:can K i=true):Zl5 K h T (.ptr i Zc off) v=bO (h.get i) fun p=>Zxv h i Zc off v p:=by
 simp only[Zl5];rw[if_pos ⟨h1,h2,h3⟩];cases h.get i with
 |none=>rfl
 |some p=>
  obtain⟨v,o⟩:=p;cases o<;>rfl
def Zxw (h:PH)(i Zc g ix off:Nat)(v:PV)(p:Bool×List PV):Option (PV×PH):=match p with
 | (true,xs)=>match xs[ix]? with
   |some x=>(Ss x off (Zd v)).map fun x=>(.tuple [],h.put i Zc (.row g true (xs.set ix x)))
   |none=>none
 | _=>none
@[simp] theorem Zamd {i Zc ix off:Nat}{v:PV}(h1:ix < xs.length):Zxw h i Zc g ix off v (true,xs)=(Ss (xs[ix]'h1) off (Zd v)).map fun x=>(.tuple [],h.put i Zc (.row g true (xs.set ix x))):=by
 simp only[Zxw,List.getElem?_eq_getElem h1]
@[simp] theorem Zagf {T:Ty}{i Zc ix off:Nat}{v:PV}(h0:ownV v=[])(h1:(Zd v).length=T.size)(h2:(Zd v).all Wv=true)(h4:(Zd v).all (plain 3)=true)(h3:can K i=true):Zl5 K h T (.eptr i Zc g ix off) v=bO (h.row i Zc g) fun p=>Zxw h i Zc g ix off v p:=by
 have hi:inlV h v=some v:=by
  have hc:∀cs:List PV,cs.flatMap Zdi=[]->Vi (Zee h) cs=some cs:=by
   intro cs
   induction cs with
   |nil=>intro _;rfl
   |cons c cs ih=>
    intro hh;rw[List.flatMap_cons,List.append_eq_nil_iff]at hh;simp only[Vi,ih hh.2];cases c<;>simp_all[Zdi,Zee]
  cases v with
  |agg cs=>simp only[inlV];rw[hc cs h0];rfl
  |own=>simp[ownV,Zdi]at h0
  | _=>rfl
 simp only[Zl5,hi,h0,List.all_nil,PH.freeze];rw[if_pos ⟨h1,h2,h4,h3,trivial⟩];cases h.row i Zc g with
 |none=>rfl
 |some p=>
  obtain⟨own,xs⟩:=p;cases own<;>rfl
def Z66 (e:Nat)(te:Ty)(n m:Int)(z:PV):Option Mk:=if 0<=n/\n<=m/\m<=Virt.maxLenV/\te.bytes<=2^16/\(Zd z).length=te.size/\(Zd z).all Wv=true/\plain 4 z=true then some (.slice e n.toNat (.row e true (List.replicate n.toNat z))) else none
@[simp] theorem Zatu {te:Ty}{n m:Int}{z:PV}(h0:0<=n)(h1:n<=m)(h2:m<=1073741824):
  Z66 e te n m z=if te.bytes<=65536/\(Zd z).length=te.size/\(Zd z).all Wv=true/\plain 4 z=true then some (.slice e n.toNat (.row e true (List.replicate n.toNat z))) else none:=by
 have h2':m<=(Virt.maxLenV:Int):=h2;by_cases h:te.bytes<=65536/\(Zd z).length=te.size/\(Zd z).all Wv=true/\plain 4 z=true
 .rw [if_pos h,Z66,if_pos ⟨h0,h1,h2',h⟩]
 .rw [if_neg h,Z66,if_neg (fun hh=>h hh.2.2.2)]
@[simp] theorem Zain {n m:Int}{k':IntKind}:mksK C (.slice e) (.int k n) (.int k' m)=bO (C.T e) fun te=>bO (Q8 te) fun z=>Z66 e te n m z:=by
 simp only[mksK];cases C.T e with
 |none=>rfl
 |some te=>
  simp only[Xw];cases Q8 te with
  |none=>simp only[Z1u];split<;>rfl
  |some z=>
   simp only[Xw,Z66];by_cases hc:0<=n/\n<=m/\m<=(Virt.maxLenV:Int)/\te.bytes<=2^16
   .rw [if_pos hc];by_cases hc2:(Zd z).length=te.size/\(Zd z).all Wv=true/\plain 4 z=true
    .rw [if_pos hc2,if_pos ⟨hc.1,hc.2.1,hc.2.2.1,hc.2.2.2,hc2⟩]
    .rw [if_neg hc2,if_neg (fun hh=>hc2 hh.2.2.2.2)]
   .rw [if_neg hc,if_neg (fun hh=>hc ⟨hh.1,hh.2.1,hh.2.2.1,hh.2.2.2.1⟩)]
@[simp] theorem Zalr {d:Nat}{k':TK}{s x:PV}(hk:∀j,k'≠.int j)(hx:∀b,x≠.str b):Zw2 C K h d (.slice e) k' s x=bO (C.T e) fun ty=>bO (h.elems e x) fun ys=>Xk K h d e ty ys.length ys s:=by
 simp only[Zw2];cases C.T e with
 |none=>rfl
 |some ty=>
  simp only[Xw];cases k' with
  |int j=>exact absurd rfl (hk j)
  | _=>
    cases x with
    |str b=>exact absurd rfl (hx b)
    | _=>first | rfl | (generalize PH.elems _ _ _=z;cases z<;>rfl)
@[simp] theorem Zalh {d:Nat}{k':TK}{s x:PV}(hk:∀j,k'≠.int j)(hx:∀b,x≠.str b):copK C K h d (.slice e) k' s x=bO (C.T e) fun ty=>bO (h.elems e x) fun ys=>Zkv h e ty ys s:=by
 simp only[copK];cases C.T e with
 |none=>rfl
 |some ty=>
  simp only[Xw];cases k' with
  |int j=>exact absurd rfl (hk j)
  | _=>
    cases x with
    |str b=>exact absurd rfl (hx b)
    | _=>first | rfl | (generalize PH.elems _ _ _=z;cases z<;>rfl)
@[simp] theorem Zas7 {d:Nat}{s:PV}{b:List Nat}:Zw2 C K h d (.slice e) .str s (.str b)=bO (C.T e) fun ty=>if ty.size=1 then Xk K h d e ty b.length (b.map fun (b:Nat)=>.int .u8 (b:Int)) s else none:=by
 simp only[Zw2];cases C.T e<;>rfl
@[simp] theorem Zan8 {s:List Nat}:(L g b xs=.str s)=False:=by
 rcases Zw7 g b xs with⟨e,_⟩ | ⟨e,_⟩<;>rw[e]<;>simp
def Zw3 (K:Loc)(h:PH)(T:Ty)(g i Zc off len n:Nat)(ys:List PV)(p:Bool×List PV):Option (PV×PH):=
 if len+n<=Virt.maxLenV/\T.bytes<=2^16/\0 < T.size/\can K i=true/\p.1=true/\off+len<=p.2.length then some (.own i (Zc+1) g 0 (len+n),h.put i (Zc+1) (.row g true ((p.2.drop off).take len++ys))) else none
@[simp] theorem Zlt {T:Ty}{i Zc off len n:Nat}{ys:List PV}{p:Bool×List PV}(h1:len+n<=1073741824)(h2:T.bytes<=65536)(h3:0 < T.size)(h4:can K i=true)(h5:p.1=true)(h6:off+len<=p.2.length):
  Zw3 K h T g i Zc off len n ys p=some (.own i (Zc+1) g 0 (len+n),h.put i (Zc+1) (.row g true ((p.2.drop off).take len++ys))):=by
 have h1':len+n<=Virt.maxLenV:=h1;rw[Zw3,if_pos ⟨h1',h2,h3,h4,h5,h6⟩]
theorem Qf {T:Ty}{i Zc off len n d:Nat}{ys:List PV}:Xk K h d g T n ys (.own i Zc g off len)=bO (h.row i Zc g) fun p=>Zw3 K h T g i Zc off len n ys p:=by
 simp only[Xk,true_and];cases h.row i Zc g with
 |none=>simp only[Z1u];split<;>rfl
 |some p=>
  obtain⟨own,zs⟩:=p;simp only[Xw,Zw3];by_cases hc:len+n<=Virt.maxLenV/\T.bytes<=2^16/\0 < T.size/\can K i=true
  .rw [if_pos hc];cases own with
   |false=>
    rw[if_neg (fun hh=>by have:=hh.2.2.2.2.1;cases this)]
   |true=>
    by_cases hd:off+len<=zs.length
    .simp only [hd,if_true];rw[if_pos ⟨hc.1,hc.2.1,hc.2.2.1,hc.2.2.2,trivial,trivial⟩]
    .simp only [hd,if_false];rw[if_neg (fun hh=>by have:=hh.2.2.2.2.2;exact this)]
  .rw [if_neg hc,if_neg (fun hh=>hc ⟨hh.1,hh.2.1,hh.2.2.1,hh.2.2.2.1⟩)]
@[simp] theorem Zalg {T:Ty}{ys:List PV}(h1:ys.length<=1073741824)(h2:T.bytes<=65536)(h3:0 < T.size):Zkv h g T ys .nils=some (L g true ys,h):=by
 have h1':ys.length<=Virt.maxLenV:=h1;unfold Zkv;simp only;rw[if_pos ⟨h1',h2,h3⟩];cases ys with
 |nil=>rfl
 |cons y ys=>rfl
theorem Q2 {T:Ty}{n d:Nat}{ys:List PV}(h1:n<=1073741824)(h2:T.bytes<=65536)(h3:0 < T.size)(h4:n≠0):
  Xk K h d g T n ys .nils=some (.own (K.base+d) (h.stamp (K.base+d)) g 0 n,h.put (K.base+d) (h.stamp (K.base+d)) (.row g true ys)):=by
 have h1':n<=Virt.maxLenV:=h1;simp only[Xk];rw[if_pos ⟨h1',h2,h3⟩,if_neg h4]
attribute [simp] Qf Q2
@[simp] theorem Zas2 {k:TK}{j j':IntKind}{n:Int}:Z4v k (.int j) (.int j' n)=some (.int j (j.wrap n)):=by cases k<;>rfl
@[simp] theorem Zas1 {k:TK}{s:List Nat}:Z4v k .str (.str s)=some (.str s):=by cases k<;>rfl
@[simp] theorem Zale {s:List Nat}:Z4v .str (.slice e) (.str s)=none:=rfl
@[simp] theorem Zald {v:PV}(hv:∀s,v≠.str s):Z4v (.slice e) .str v=none:=by
 cases v<;>first | rfl | exact absurd rfl (hv _)
@[simp] theorem Zan4 {e':Nat}{v:PV}:Z4v (.slice e) (.slice e') v=none:=by cases v<;>rfl
@[simp] theorem Zalc {d:Nat}{s:List Nat}:Z4u C K h (some d) .str (.slice e) (.str s)=bO (C.T e) fun te=>match te.k with
  | .int .u8=>if s.length<=Virt.maxLenV/\te.size=1 then some (.own (K.base+d) (h.stamp (K.base+d)) e 0 s.length,h.put (K.base+d) (h.stamp (K.base+d)) (.row e true (s.map fun (b:Nat)=>.int .u8 (b:Int)))) else none
  | _=>none:=by
 simp only[Z4u];cases C.T e<;>rfl
@[simp] theorem Zalb {d:Option Nat}{v:PV}:Z4u C K h d (.slice e) .str v=bO (C.T e) fun te=>match te.k with
  | .int .u8=>if te.size=1 then bO (h.elems e v) fun xs=>bO (Zh.bytesP xs) fun b=>some (.str b,h) else none
  | _=>none:=by
 simp only[Z4u];cases C.T e with
 |none=>rfl
 |some te=>
  simp only[Xw];split
  .split
   .cases h.elems e v with
    |none=>rfl
    |some xs=>simp only[Option.bind_some,Xw];cases Zh.bytesP xs<;>rfl
   .rfl
  .rfl
@[simp high] theorem Zan6 {C:Ctx}{t:Nat}:Za6 C .eql t (L g b xs) .nils=bO (C.T t) fun T=>match T.k with | .slice _=>some (.bool (b&&xs.isEmpty)) | _=>none:=by
 cases hT:C.T t with
 |none=>rcases Zw7 g b xs with⟨e,rfl,rfl⟩ | ⟨e,e2⟩<;>rw[e]<;>simp[hT]
 |some T=>
  simp only[Xw];rcases Zw7 g b xs with⟨e,rfl,rfl⟩ | ⟨e,e2⟩
  .rw [e];simp only[Zpc,eqP,hT];cases T.k<;>rfl
  .rw [e,e2];simp only[Zsn,eqP,hT];cases T.k<;>rfl
end
@[simp high] theorem Zaic {g:Nat}{b:Bool}{xs:List PV}{v:PV}:Ss (L g b xs) 0 [v]=some v:=by
 rcases Zw7 g b xs with⟨e,_⟩ | ⟨e,_⟩<;>rw[e]<;>rfl
attribute [simp] Ss.eq_1 Ss.eq_2 Yn
def resC (h:PH)(T:Ty)(v:PV)(vs:List PV):Option (List PV):=match v with
 | .ptr i Zc off=>match h.get i with
   |some (w,.cells cs)=>if w=Zc then ((X1 cs off T.size).bind (toP T.k.agg)).map (·::vs) else none
   | _=>none
 | _=>none
@[simp] theorem Zamh {C:Ctx}{sl:Yt}{h:PH}{a t:Nat}{r:List ResultVar}:Ut C sl h (.cell a t::r)=bO (sl a) fun v=>bO (C.T t) fun T=>bO (Ut C sl h r) fun vs=>resC h T v vs:=by
 simp only[Ut];cases sl a with
 |none=>rfl
 |some v=>
  cases C.T t with
  |none=>cases v<;>rfl
  |some T=>
   cases Ut C sl h r with
   |none=>cases v<;>rfl
   |some vs=>cases v<;>rfl
def resD (T:Ty)(Zc off:Nat)(vs:List PV)(p:Nat×PO):Option (List PV):=match p with
 | (w,.cells cs)=>if w=Zc then ((X1 cs off T.size).bind (toP T.k.agg)).map (·::vs) else none
 | _=>none
@[simp] theorem Zaig {T:Ty}{Zc off:Nat}{vs cs:List PV}:resD T Zc off vs (Zc,.cells cs)=((X1 cs off T.size).bind (toP T.k.agg)).map (·::vs):=by simp[resD]
@[simp] theorem Zao2 {h:PH}{T:Ty}{i Zc off:Nat}{vs:List PV}:resC h T (.ptr i Zc off) vs=bO (h.get i) fun p=>resD T Zc off vs p:=by
 simp only[resC];cases h.get i with
 |none=>rfl
 |some p=>
  obtain⟨w,o⟩:=p;cases o<;>rfl
@[simp] theorem Zan2 {pl:Nat->Option (Nat×Nat)}{cells:List PV}:Zf0 pl cells []=some cells:=rfl
@[simp] theorem Zak9 {pl:Nat->Option (Nat×Nat)}{cells:List PV}{i:Nat}{v:PV}{r:List (Nat×PV)}:Zf0 pl cells ((i,v)::r) =
  bO (pl i) fun p=>if (Zd v).length=p.2/\p.1+p.2<=cells.length/\(Zd v).all Wv=true then bO (Yn cells p.1 (Zd v)) fun Wx=>Zf0 pl Wx r else none:=by
 simp only[Zf0];cases pl i with
 |none=>rfl
 |some p=>
  obtain⟨o,s⟩:=p;simp only[Xw];split
  .cases Yn cells o (Zd v)<;>rfl
  .rfl
section
variable {k:IntKind}{a b:Int}
@[simp] theorem Zap0:Ra .add k k a b=some (.int k (k.wrap (a+b))):=by simp[Ra]
@[simp] theorem Zapp:Ra .sub k k a b=some (.int k (k.wrap (a - b))):=by simp[Ra]
@[simp] theorem Zapu:Ra .mul k k a b=some (.int k (k.wrap (a*b))):=by simp[Ra]
@[simp] theorem Zaps:Ra .quo k k a b=if b=0 then none else some (.int k (k.wrap (a.tdiv b))):=by simp[Ra]
@[simp] theorem Zapr:Ra .rem k k a b=if b=0 then none else some (.int k (a.tmod b)):=by simp[Ra]
@[simp] theorem Zapz:Ra .eql k k a b=some (.bool (a==b)):=by simp[Ra]
@[simp] theorem Zapt:Ra .neq k k a b=some (.bool (!(a==b))):=by simp[Ra,bne]
@[simp] theorem Zapv:Ra .lss k k a b=some (.bool (a < b)):=by simp[Ra]
@[simp] theorem Zapw:Ra .leq k k a b=some (.bool (a<=b)):=by simp[Ra]
@[simp] theorem Zapx:Ra .gtr k k a b=some (.bool (b < a)):=by simp[Ra]
@[simp] theorem Zapy:Ra .geq k k a b=some (.bool (b<=a)):=by simp[Ra]
@[simp] theorem Zapq {k':IntKind}(h:0<=b):Ra .shl k k' a b=some (.int k (k.wrap (a*2^min b.toNat k.bits))):=by
 simp only[Ra];rw[if_neg (by omega)]
end
@[simp high] theorem Zaos {a b:List Nat}(h:a.length+b.length<=4611686018427387904):Zow .add a b=some (.str (a++b)):=by simp[Zow,h]
@[simp] theorem Zaor {a b:List Nat}:Zow .eql a b=some (.bool (a==b)):=rfl
@[simp] theorem Zaoo {a b:List Nat}:Zow .neq a b=some (.bool (!(a==b))):=rfl
@[simp] theorem Zaop {a b:List Nat}:Zow .lss a b=some (.bool (ltL a b)):=rfl
@[simp] theorem Zaoq {a b:List Nat}:Zow .gtr a b=some (.bool (!(ltL a b||a==b))):=rfl
section
variable {k k':IntKind}{i j:Int}{n:Nat}
@[simp high] theorem Zalk (h0:0<=i)(h:i<=n):Xv n (some (.int k i)) none=some (i.toNat,n):=by
 have:i.toNat<=n:=by omega
 simp[Xv,Zk3,h0,this]
@[simp high] theorem Zalj (h0:0<=j)(h:j<=n):Xv n none (some (.int k j))=some (0,j.toNat):=by
 have:j.toNat<=n:=by omega
 simp[Xv,Zk3,h0,this]
@[simp high] theorem Zall (h0:0<=i)(h1:i<=j)(h:j<=n):Xv n (some (.int k i)) (some (.int k' j))=some (i.toNat,j.toNat):=by
 have h2:j.toNat<=n:=by omega
 have h3:i.toNat<=j.toNat:=by omega
 have h4:0<=j:=by omega
 simp[Xv,Zk3,h0,h2,h3,h4]
end
end Go.Pure
end
section
namespace Go.Pure
open Go
open Go.Virt (Ex Ctx Ty TK Yc)
def Vg (sl Y6:Yt)(l:List Operand):Prop:=∀x,x∈l->Yx sl x=Yx Y6 x
theorem Vg.opds {sl Y6:Yt}:∀ {l:List Operand},Vg sl Y6 l->W8 sl l=W8 Y6 l
 | [],_=>rfl
 |x::r,h=>by
  have h1:=h x List.mem_cons_self;have h2:=Vg.opds (l:=r) fun y hy=>h y (List.mem_cons_of_mem _ hy)
  rw[Zak,Zak,h1,h2]
theorem Vg.parts {sl Y6:Yt}:∀ {l:List (Nat×Operand)},Vg sl Y6 (l.map (·.2))->U1 sl l=U1 Y6 l
 | [],_=>rfl
 | (i,x)::r,h=>by
   have h1:=h x (by simp);have h2:=Vg.parts (l:=r) fun y hy=>h y (by simp at hy ⊢;exact Or.inr hy)
   rw[Zkg,Zkg,h1,h2]
theorem Vg.opt {sl Y6:Yt}{o:Option Operand}(h:Vg sl Y6 o.toList):Sx sl o=Sx Y6 o:=by
 cases o with
 |none=>rfl
 |some x=>simp only[Sx];rw[h x (by simp)]
theorem Vg.mono {sl Y6:Yt}{l l':List Operand}(h:Vg sl Y6 l)(hm:∀x,x∈l'->x∈l):Vg sl Y6 l':=fun x hx=>h x (hm x hx)
section
variable {C:Ctx}{cf:CF}{yf:YF}{K:Loc}{all:List Oper}{sl Y6:Yt}{h:PH}
theorem Zwc {o:Oper}(ha:Vg sl Y6 o.op.operands.toList):Yi C sl o=Yi C Y6 o:=by
 obtain⟨d,op,ty,pos,af,gd⟩:=o;cases op with
 |move x=>simp only[Yi];rw[ha x (by simp[Op.operands])]
 |assign x=>simp only[Yi];rw[ha x (by simp[Op.operands])]
 |pick c a b=>simp only[Yi];rw[ha c (by simp[Op.operands]),ha a (by simp[Op.operands]),ha b (by simp[Op.operands])]
 |build t ps=>
  have:U1 sl ps.toList=U1 Y6 ps.toList:=Vg.parts (ha.mono fun x hx=>by simpa[Op.operands]using hx);simp only[Yi,this]
 |load t a=>rw[Zqh,Zqh,ha a (by simp[Op.operands])]
 |nilCheck x=>simp only[Yi];rw[ha x (by simp[Op.operands])]
 |binOp op t x y yt=>simp only[Yi];rw[ha x (by simp[Op.operands]),ha y (by simp[Op.operands])]
 |unOp op t x=>simp only[Yi];rw[ha x (by simp[Op.operands])]
 |convert s t x=>rw[Zie,Zie,ha x (by simp[Op.operands])]
 |makeInterface t x=>simp only[Yi];rw[ha x (by simp[Op.operands])]
 |makeFunc f a b=>
  have h1:W8 sl a.toList=W8 Y6 a.toList:=Vg.opds (ha.mono fun x hx=>by simp[Op.operands];exact Or.inl (by simpa using hx));have h2:W8 sl b.toList=W8 Y6 b.toList:=Vg.opds (ha.mono fun x hx=>by simp[Op.operands];exact Or.inr (by simpa using hx));simp only[Yi,h1,h2]
 |slice t x lo hi mx=>
  have h1:=ha x (by simp[Op.operands]);have h2:Sx sl lo=Sx Y6 lo:=Vg.opt (ha.mono fun y hy=>by simp[Op.operands];right;left;simpa using hy);have h3:Sx sl hi=Sx Y6 hi:=Vg.opt (ha.mono fun y hy=>by simp[Op.operands];right;right;left;simpa using hy);cases mx with
  |none=>rw[Znn,Znn,h1,h2,h3]
  |some m=>simp only[Yi]
 |fieldAddr s x f=>simp only[Yi];rw[ha x (by simp[Op.operands])]
 |field s x f=>simp only[Yi];rw[ha x (by simp[Op.operands])]
 |indexAddr t x i=>rw[Zel,Zel,ha x (by simp[Op.operands]),ha i (by simp[Op.operands])]
 |index t x i=>rw[Zno,Zno,ha x (by simp[Op.operands]),ha i (by simp[Op.operands])]
 |lookup t x i ok=>simp only[Yi];rw[ha x (by simp[Op.operands]),ha i (by simp[Op.operands])]
 |extract t i=>simp only[Yi];rw[ha t (by simp[Op.operands])]
 |call c=>
  have:W8 sl c.args.toList=W8 Y6 c.args.toList:=Vg.opds (ha.mono fun x hx=>by simp[Op.operands,Call.operands];exact Or.inr (by simpa using hx));simp only[Yi,this]
 | _=>rfl
theorem Zvf {o:Oper}(ha:Vg sl Y6 o.op.operands.toList):V5 C all sl o=V5 C all Y6 o:=by
 obtain⟨d,op,ty,pos,af,gd⟩:=o;cases op with
 |box t x=>simp only[V5];rw[ha x (by simp[Op.operands])]
 |buildSlice t n ps=>
  have:U1 sl ps.toList=U1 Y6 ps.toList:=Vg.parts (ha.mono fun x hx=>by simpa[Op.operands]using hx);simp only[V5,this]
 |makeSlice t l c=>rw[Zd9,Zd9,ha l (by simp[Op.operands]),ha c (by simp[Op.operands])]
 |makeMap t r=>cases r<;>rfl
 | _=>rfl
theorem Zq8 {o:Oper}(ha:Vg sl Y6 o.op.operands.toList):Zh C cf yf all K sl h o=Zh C cf yf all K Y6 h o:=by
 obtain⟨d,op,ty,pos,af,gd⟩:=o;cases op with
 |load t a=>rw[Zl7,Zl7,ha a (by simp[Op.operands])]
 |store t a x=>rw[Zkd,Zkd,ha a (by simp[Op.operands]),ha x (by simp[Op.operands])]
 |convert s t x=>rw[Zbo,Zbo,ha x (by simp[Op.operands])]
 |slice t x lo hi mx=>
  have h1:=ha x (by simp[Op.operands]);have h2:Sx sl lo=Sx Y6 lo:=Vg.opt (ha.mono fun y hy=>by simp[Op.operands];right;left;simpa using hy);have h3:Sx sl hi=Sx Y6 hi:=Vg.opt (ha.mono fun y hy=>by simp[Op.operands];right;right;left;simpa using hy);cases mx with
  |none=>rw[Zdv,Zdv,h1,h2,h3]
  |some m=>simp only[Zh]
 |indexAddr t x i=>rw[Qh,Qh,ha x (by simp[Op.operands]),ha i (by simp[Op.operands])]
 |lookup t x i ok=>simp only[Zh];rw[ha x (by simp[Op.operands]),ha i (by simp[Op.operands])]
 |mapUpdate t m k x=>simp only[Zh];rw[ha m (by simp[Op.operands]),ha k (by simp[Op.operands]),ha x (by simp[Op.operands])]
 |insert t m k x=>simp only[Zh];rw[ha m (by simp[Op.operands]),ha k (by simp[Op.operands]),ha x (by simp[Op.operands])]
 |call c=>
  have h1:W8 sl c.args.toList=W8 Y6 c.args.toList:=Vg.opds (ha.mono fun x hx=>by simp[Op.operands,Call.operands];exact Or.inr (by simpa using hx));obtain⟨cal,args,ats⟩:=c;cases cal with
  |value f=>
   have h2:=ha f (by simp[Op.operands,Call.operands]);simp only[Zh,h1,h2]
  |invoke r m=>simp only[Zh,h1]
  |builtin b=>simp only[Zh,h1]
 | _=>rfl
end
def Zpk (C:Ctx):Op->Bool
 | .load _ _ | .store _ _ _ | .lookup _ _ _ _ | .mapUpdate _ _ _ _ | .insert _ _ _ _=>true
 | .slice t _ _ _ _ | .indexAddr t _ _=>match C.T t with
   |some a=>match a.k with | .slice _=>true | _=>false
   |none=>false
 | .convert s t _=>match C.T s,C.T t with
   |some a,some b=>match a.k,b.k with
    | .str,.slice _=>true
    | .slice _,.str=>true
    | _,_=>false
   | _,_=>false
 | .call c=>match c.callee with
   | .value _=>true
   | .builtin b=>match b with
     | .append | .delete=>true
     | .len=>match (c.argTypes[0]?).bind C.T with
       |some a=>match a.k with | .map _ _=>true | _=>false
       |none=>false
     | _=>false
   | _=>false
 | _=>false
def Zagk:Op->Bool
 | .alloc _ | .box _ _ | .buildSlice _ _ _ | .makeSlice _ _ _ | .makeMap _ _=>true
 | _=>false
def litO (all:List Oper)(o:Oper):Bool:=match o.op with
 | .buildSlice _ _ _=>match o.dst with | some d=>Zmz all d | none=>false
 | _=>false
def Zmv (all:List Oper)(o:Oper):Bool:=Zagk o.op&&!litO all o
def Zwv:Op->Bool
 | .call c=>match c.callee with | .value _=>true | _=>false
 | _=>false
def Zagm:Op->Bool
 | .load _ _ | .indexAddr _ _ _=>true
 | _=>false
structure Md where
 pf:Bool
 ld:Bool
 fr:List Nat
 rd:List Nat:=[]
 ids:List Nat:=[]
 fl:List Nat:=[]
 ls:Bool:=false
def Md.inRd (m:Md)(o:Oper):Bool:=match o.dst with | some d=>m.rd.contains d | none=>false
def Md.inFl (m:Md)(o:Oper):Bool:=match o.dst with | some d=>m.fl.contains d | none=>m.fl.contains 1000000
def Z4w (h0 h:PH)(u:Nat):Bool:=match h.get u,h0.get u with
 |some (v,_),some (w,_)=>Nat.beq v w
 | _,_=>false
def Z9w (h:PH)(u:Nat):Bool:=match h.get u with | some (_,.cells _)=>true | some (_,.row _ true _)=>true | _=>false
def Md.okB (m:Md)(h0 h:PH)(sl:Yt)(o:Oper)(v:PV):Bool:=match Zhx sl o with
 |some (u,Zc)=>m.ids.contains u&&(match h0.get u with | some (w,_)=>Nat.beq w Zc | none=>false)&&(Xy 4 v||(m.ls&&Z9w h u))&&W2 3 v
 |none=>false
def Md.free (m:Md)(o:Oper):Bool:=(m.ld&&Zagm o.op)||(match o.dst with | some d=>m.fr.contains d | none=>false)
def Vm (pf:Md)(o:Oper):Bool:=U8 o&&!(pf.pf&&Zwv o.op)
def Zaa (C:Ctx)(pf:Md)(o:Oper):Bool:=Zpk C o.op&&!pf.free o
def Zaot (C:Ctx)(pf:Md)(ops:Array Oper):Bool:=
 let masks:=Region.before ops
 ops.toList.zipIdx.all fun (o,i)=>!Zaa C pf o||ops.toList.zipIdx.all fun (p,j)=>!Nat.blt j i||((!Zmv ops.toList p||(masks.getD i 0).testBit j||pf.inRd o)&&(!Zaa C pf p||(!Vm pf o&&!Vm pf p)||(masks.getD i 0).testBit j||(pf.inRd o&&pf.inFl p)||(pf.inRd p&&pf.inFl o&&!Vm pf p)))
def Zagg (C:Ctx)(pf:Md)(ops:Array Oper):Bool:=!pf.ls||ops.toList.zipIdx.all fun (o,i)=>!pf.inRd o||ops.toList.zipIdx.all fun (p,j)=>!Nat.blt j i||!Zaa C pf p||!Vm pf p||pf.inFl p
def Zfq (C:Ctx)(pf:Md)(ops:Array Oper):Bool:=Zaot C pf ops&&Zagg C pf ops
structure Stat (C:Ctx)(pf:Md)(ops:Array Oper):Prop where
 ok:Zfq C pf ops=true
def Zai (pf:Md)(h0:PH)(C:Ctx)(cf:CF)(yf:YF)(K:Loc)(all:List Oper):List Oper->Yt->PH->Option (Yt×PH)
 | [],sl,h=>some (sl,h)
 |o::r,sl,h=>
  match Vy all sl o with
  |some true=>match Yi C sl o with
   |some v=>if W2 3 v=true then Zai pf h0 C cf yf K all r (putP sl o.dst v) h else none
   |none=>match V5 C all sl o with
    |some m=>match m.obj,o.dst with
     |none,_=>Zai pf h0 C cf yf K all r (putP sl o.dst (m.val 0 0)) h
     |some ob,some d=>Zai pf h0 C cf yf K all r (sl.put d (m.val (K.base+d) (h.stamp (K.base+d)))) (h.put (K.base+d) (h.stamp (K.base+d)) ob)
     |some _,none=>none
    |none=>match Zh C cf yf all K sl h o with
     |some (v,h')=>if (!pf.free o&&(!(pf.pf&&Zwv o.op)||Rf C sl o v)&&(!pf.inRd o||pf.okB h0 h sl o v)&&(!pf.inFl o||pf.ids.all fun u=>Wk (X3 C K sl h o) u&&Z4w h0 h u))=true then Zai pf h0 C cf yf K all r (putP sl o.dst v) h' else none
     |none=>none
  |some false=>Zai pf h0 C cf yf K all r (putP sl o.dst (.tuple [])) h
  |none=>none
section
variable {C:Ctx}{cf:CF}{yf:YF}{K:Loc}
theorem Zun {sl Y6:Yt}{o:Oper}{v:PV}(ha:Vg sl Y6 o.op.operands.toList):Rf C sl o v=Rf C Y6 o v:=by
 obtain⟨d,op,ty,pos,af,gd⟩:=o;cases op with
 |call c=>
  obtain⟨cal,args,ats⟩:=c;have h1:W8 sl args.toList=W8 Y6 args.toList:=Vg.opds (ha.mono fun x hx=>by simp[Op.operands,Call.operands];exact Or.inr (by simpa using hx));cases cal with
  |value f=>
   have h2:=ha f (by simp[Op.operands,Call.operands]);simp only[Rf,h1,h2]
  | _=>rfl
 | _=>rfl
theorem Zvg {sl Y6:Yt}{o:Oper}(ha:Vg sl Y6 o.op.operands.toList):Zhx sl o=Zhx Y6 o:=by
 obtain⟨d,op,ty,pos,af,gd⟩:=o;cases op with
 |load t a=>simp only[Zhx];rw[ha a (by simp[Op.operands])]
 | _=>rfl
theorem Zg8 {sl Y6:Yt}{h:PH}{o:Oper}(ha:Vg sl Y6 o.op.operands.toList):X3 C K sl h o=X3 C K Y6 h o:=by
 obtain⟨d,op,ty,pos,af,gd⟩:=o;cases op with
 |store t a x=>simp only[X3];rw[ha a (by simp[Op.operands]),ha x (by simp[Op.operands])]
 |call c=>
  obtain⟨cal,args,ats⟩:=c;have h1:W8 sl args.toList=W8 Y6 args.toList:=Vg.opds (ha.mono fun x hx=>by simp[Op.operands,Call.operands];exact Or.inr (by simpa using hx));cases cal with
  |value f=>
   have h2:=ha f (by simp[Op.operands,Call.operands]);simp only[X3,h1,h2]
  |builtin b=>
   cases b with
   |append=>
    simp only[X3];cases hl:args.toList with
    |nil=>rfl
    |cons x r=>
     have hm:x∈args.toList:=by rw[hl];simp
     have hx:=ha x (by simp[Op.operands,Call.operands];simpa using hm);cases d with
     |none=>rfl
     |some d=>simp only[hx]
   | _=>rfl
  | _=>rfl
 | _=>rfl
theorem Zvd {all:List Oper}{sl:Yt}{o:Oper}{m:Mk}(h:V5 C all sl o=some m):Zagk o.op=true:=by
 obtain⟨d,op,ty,pos,af,gd⟩:=o;cases op<;>first | rfl | (simp only[V5]at h;cases h)
theorem Zve {all:List Oper}{sl:Yt}{o:Oper}{m:Mk}{ob:PO}(h:V5 C all sl o=some m)(Tn:m.obj=some ob):Zmv all o=true:=by
 have h1:=Zvd h;unfold Zmv;rw[h1];obtain⟨d,op,ty,pos,af,gd⟩:=o;cases op with
 |buildSlice t len ps=>
  cases d with
  |none=>rfl
  |some d=>
   cases hl:Zmz all d with
   |false=>simp only[litO,hl];rfl
   |true=>
    simp only[V5,hl,if_true]at h;split at h
    .split at h
     .split at h
      .split at h
       .split at h
        .split at h
         .split at h
          .cases h;cases Tn
          .cases h
         .cases h
        .cases h
       .cases h
      .cases h
     .cases h
    .cases h
 | _=>rfl
theorem Zq7 {all:List Oper}{sl:Yt}{h:PH}{o:Oper}{r:PV×PH}(he:Zh C cf yf all K sl h o=some r):Zpk C o.op=true:=by
 obtain⟨d,op,ty,pos,af,gd⟩:=o;cases op with
 |convert s t x=>
  rw[Zbo]at he;simp only[Zpk];cases hs:C.T s with
  |none=>rw[hs]at he;cases he
  |some a=>
   cases ht:C.T t with
   |none=>rw[hs,ht]at he;cases he
   |some b=>
    simp only[hs,ht,Xw]at he ⊢;cases hx:Yx sl x with
    |none=>rw[hx]at he;cases he
    |some v=>
     rw[hx]at he;simp only[Xw,Z4u]at he;split at he
     .rename_i h1 h2;simp only[h1,h2]
     .rename_i h1 h2;simp only[h1,h2]
     .cases he
 |call c=>
  obtain⟨cal,args,ats⟩:=c;simp only[Zh]at he;split at he
  .cases he
  .cases cal with
   |value f=>rfl
   |invoke r m=>cases he
   |builtin b=>
    cases b with
    |append=>rfl
    |delete=>rfl
    |len=>
     simp only[Zpk];simp only at he;split at he
     .rename_i hb hx;cases hT:(ats[0]?).bind C.T with
      |none=>rw[hT]at he;cases he
      |some T=>
       rw[hT]at he;simp only at he ⊢;cases hk:T.k<;>first | rfl | (rw[hk]at he;cases he)
     .rename_i hb hx;cases hb
     .rename_i hb hx;cases hb
     .cases he
    | _=>simp only at he;cases he
 |slice t x lo hi mx=>
  cases mx with
  |some m=>simp only[Zh]at he;cases he
  |none=>
   rw[Zdv]at he;simp only[Zpk];cases hT:C.T t with
   |none=>rw[hT]at he;cases he
   |some T=>
    rw[hT]at he;simp only[Xw]at he ⊢;cases hx:Yx sl x with
    |none=>rw[hx]at he;cases he
    |some v=>
     rw[hx]at he;simp only[Xw]at he;cases h1:Sx sl lo with
     |none=>rw[h1]at he;cases he
     |some l=>
      rw[h1]at he;simp only[Xw]at he;cases h2:Sx sl hi with
      |none=>rw[h2]at he;cases he
      |some u=>
       rw[h2]at he;simp only[Xw,sliO]at he;cases v<;>first | (cases he;done) | skip
       cases hk:T.k<;>first | rfl | (rw[hk]at he;cases he)
 |indexAddr t x i=>
  rw[Qh]at he;simp only[Zpk];cases hT:C.T t with
  |none=>rw[hT]at he;cases he
  |some T=>
   rw[hT]at he;simp only[Xw]at he ⊢;cases hx:Yx sl x with
   |none=>rw[hx]at he;cases he
   |some v=>
    rw[hx]at he;simp only[Xw]at he;cases hi:Yx sl i with
    |none=>rw[hi]at he;cases he
    |some w=>
     rw[hi]at he;simp only[Xw,idxO]at he;cases v<;>first | (cases he;done) | skip
     cases w<;>first | (cases he;done) | skip
     cases hk:T.k<;>first | rfl | (rw[hk]at he;cases he)
 | _=>first | rfl | (simp only[Zh]at he;cases he)
theorem Zrj {pf:Md}{h0:PH}{ops:Array Oper}(hS:Stat C pf ops):∀(l done:List Oper) (s:PD) (r:Yt×PH),ops.toList=done++l ->
  (∀p,p∈s.st->∃o,ops.toList[p.1]?=some o/\p.1 < done.length/\Zaa C pf o=true/\(p.2=true->Vm pf o=true)/\pf.inRd o=false)->(∀j,j∈s.made->∃o,ops.toList[j]?=some o/\j < done.length/\Zmv ops.toList o=true) ->
  (∀p,p∈s.rb->∃o,ops.toList[p.1]?=some o/\p.1 < done.length/\Zaa C pf o=true/\(pf.inRd o=true->p.2∈pf.ids))->(∀p,p∈s.wt->∃o,ops.toList[p.1]?=some o/\p.1 < done.length/\Zaa C pf o=true/\Vm pf o=true/\(pf.inFl o=true->∀u,u∈pf.ids->Wk p.2 u=true))->(∀u,s.old u=(h0.get u).map (·.1)) ->
  Zai pf h0 C cf yf K ops.toList l s.sl s.h=some r->∃s',Qm C cf yf K ops.toList (Region.before ops) l done.length s=some s'/\(s'.sl,s'.h)=r:=by
 intro l
 induction l with
 |nil=>
  intro done s r hd h1 h2 h3 h4 hol he;simp only[Zai,Option.some.injEq]at he;exact⟨s,rfl,he⟩
 |cons o l ih=>
  intro done s r hd h1 h2 h3 h4 hol he;have hd':ops.toList=(done++[o])++l:=by rw[hd];simp
  have hlen:(done++[o]).length=done.length+1:=by simp
  have hio:ops.toList[done.length]?=some o:=by rw[hd];simp
  have hpk:∀t,t∈Yc ops.toList o->(fun t=>if (Yc ops.toList o).contains t then s.sl t else none) t=s.sl t:=by
   intro t ht;have:(Yc ops.toList o).contains t=true:=by simpa using ht
   simp only[this,if_true]
  have hag:Vg (fun t=>if (Yc ops.toList o).contains t then s.sl t else none) s.sl o.op.operands.toList:=by
   intro x hx;cases x with
   |tmp t=>
    refine hpk t ?_;unfold Yc;refine List.mem_append_left _ (List.mem_filterMap.2 ⟨.tmp t,hx,rfl⟩)
   | _=>rfl
  have hw:Vy ops.toList (fun t=>if (Yc ops.toList o).contains t then s.sl t else none) o=Vy ops.toList s.sl o:=by
   unfold Vy;cases hg:o.guard with
   |none=>rfl
   |some p=>
    obtain⟨j,want⟩:=p;simp only;cases hj:(ops.toList[j]?).bind (·.dst) with
    |none=>rfl
    |some d=>
     simp only
     have:d∈Yc ops.toList o:=by
      unfold Yc;refine List.mem_append_right _ ?_;rw[hg];simp only[hj,Option.toList,List.mem_singleton]
     have:=hpk d this;simp only at this;rw[this]
  have Za0d:∀p,p∈s.st->∃o,ops.toList[p.1]?=some o/\p.1 < (done++[o]).length/\Zaa C pf o=true/\(p.2=true->Vm pf o=true)/\pf.inRd o=false:=fun p hp=>by
   obtain⟨o',a,b,c⟩:=h1 p hp;exact⟨o',a,by simp;omega,c⟩
  have Zp3:∀j,j∈s.made->∃o',ops.toList[j]?=some o'/\j < (done++[o]).length/\Zmv ops.toList o'=true:=fun j hj=>by
   obtain⟨o',a,b,c⟩:=h2 j hj;exact⟨o',a,by simp;omega,c⟩
  have Zjo:∀p,p∈s.st->∃o',ops.toList[p.1]?=some o'/\p.1 < (done++[o]).length/\Zaa C pf o'=true/\(p.2=true->Vm pf o'=true)/\pf.inRd o'=false:=fun p hp=>by
   obtain⟨o',a,b,c⟩:=h1 p hp;exact⟨o',a,by simp;omega,c⟩
  have Za0c:∀p,p∈s.rb->∃o,ops.toList[p.1]?=some o/\p.1 < (done++[o]).length/\Zaa C pf o=true/\(pf.inRd o=true->p.2∈pf.ids):=fun p hp=>by
   obtain⟨o',a,b,c⟩:=h3 p hp;exact⟨o',a,by simp;omega,c⟩
  have Zm2:∀p,p∈s.wt->∃o',ops.toList[p.1]?=some o'/\p.1 < (done++[o]).length/\Zaa C pf o'=true/\Vm pf o'=true/\(pf.inFl o'=true->∀u,u∈pf.ids->Wk p.2 u=true):=fun p hp=>by
   obtain⟨o',a,b,c⟩:=h4 p hp;exact⟨o',a,by simp;omega,c⟩
  have Zjn:∀p,p∈s.rb->∃o',ops.toList[p.1]?=some o'/\p.1 < (done++[o]).length/\Zaa C pf o'=true/\(pf.inRd o'=true->p.2∈pf.ids):=fun p hp=>by
   obtain⟨o',a,b,c⟩:=h3 p hp;exact⟨o',a,by simp;omega,c⟩
  simp only[Zai]at he;simp only[Qm,Zc9,hw,Zwc hag,Zvf hag,Zq8 hag];cases hwt:Vy ops.toList s.sl o with
  |none=>rw[hwt]at he;cases he
  |some w=>
   rw[hwt]at he;cases w with
   |false=>
    simp only at he ⊢;have:=ih (done++[o]) {s with sl:=putP s.sl o.dst (.tuple [])} r hd' Zjo Zp3 Zjn Zm2 hol he
    rwa [hlen]at this
   |true=>
    simp only at he ⊢;cases hf:Yi C s.sl o with
    |some v=>
     rw[hf]at he;simp only at he ⊢;split at he
     .rename_i hsm;rw[if_pos hsm];have:=ih (done++[o]) {s with sl:=putP s.sl o.dst v} r hd' Zjo Zp3 Zjn Zm2 hol he
      rwa [hlen]at this
     .cases he
    |none=>
     rw[hf]at he;simp only at he ⊢;cases hm:V5 C ops.toList s.sl o with
     |some m=>
      rw[hm]at he;simp only at he ⊢;cases Tn:m.obj with
      |none=>
       rw[Tn]at he;simp only at he ⊢;have:=ih (done++[o]) {s with sl:=putP s.sl o.dst (m.val 0 0)} r hd' Zjo Zp3 Zjn Zm2 hol he
       rwa [hlen]at this
      |some ob=>
       rw[Tn]at he;cases Rb:o.dst with
       |none=>rw[Rb]at he;cases he
       |some d=>
        rw[Rb]at he;simp only at he ⊢
        have:=ih (done++[o]) {s with sl:=s.sl.put d (m.val (K.base+d) (s.h.stamp (K.base+d))),h:=s.h.put (K.base+d) (s.h.stamp (K.base+d)) ob,made:=done.length::s.made} r hd' Zjo (fun j hj=>by
         rcases List.mem_cons.1 hj with rfl | hj
         .exact ⟨o,hio,by simp,Zve hm Tn⟩
         .exact Zp3 j hj) Zjn Zm2 hol he
        rwa [hlen]at this
     |none=>
      rw[hm]at he;simp only at he ⊢;cases Xr:Zh C cf yf ops.toList K s.sl s.h o with
      |none=>rw[Xr]at he;cases he
      |some p=>
       obtain⟨v,h'⟩:=p;rw[Xr]at he;simp only at he ⊢;split at he
       .rename_i hpc;rw[Bool.and_eq_true,Bool.and_eq_true,Bool.and_eq_true]at hpc;obtain⟨⟨⟨hpf,hpc⟩,hrd⟩,Uq⟩:=hpc
        have hwi:(U8 o&&!Rf C s.sl o v)=true->Vm pf o=true:=by
         intro hh;rw[Bool.and_eq_true,Bool.not_eq_true']at hh;unfold Vm;rw[hh.1,Bool.true_and];rw[hh.2,Bool.or_false]at hpc;exact hpc
        have hso:Zaa C pf o=true:=by unfold Zaa;rw[Zq7 Xr,hpf];rfl
        have hok:=hS.ok;unfold Zfq at hok;rw[Bool.and_eq_true]at hok
        have hB:=List.all_eq_true.1 hok.1 (o,done.length) (by
         rw[List.mem_zipIdx_iff_getElem?];simpa using hio)
        simp only[hso,Bool.not_true,Bool.false_or]at hB
        have hB':∀j p,ops.toList[j]?=some p->j < done.length->((!Zmv ops.toList p||((Region.before ops).getD done.length 0).testBit j||pf.inRd o)&&(!Zaa C pf p||(!Vm pf o&&!Vm pf p)||((Region.before ops).getD done.length 0).testBit j||(pf.inRd o&&pf.inFl p)||(pf.inRd p&&pf.inFl o&&!Vm pf p)))=true:=fun j p hj hlt=>by
         have:=List.all_eq_true.1 hB (p,j) (by rw[List.mem_zipIdx_iff_getElem?];simpa using hj);have hb:Nat.blt j done.length=true:=by simpa using hlt
         simp only[hb,Bool.not_true,Bool.false_or]at this;exact this
        have hwd:Qo C (fun t=>if (Yc ops.toList o).contains t then s.sl t else none) o v=(U8 o&&!Rf C s.sl o v):=by
         simp only[Qo,Zun hag]
        have Xa:∀u,s.old u=(h0.get u).map (·.1):=hol
        have hrd1:pf.inRd o=true->∃u,u∈pf.ids/\Zod s (fun t=>if (Yc ops.toList o).contains t then s.sl t else none) o v=some u:=fun Uv=>by
         rw[Uv,Bool.not_true,Bool.false_or]at hrd;unfold Md.okB at hrd;unfold Zod;rw[Zvg hag];cases hlk:Zhx s.sl o with
         |none=>rw[hlk]at hrd;cases hrd
         |some q=>
          obtain⟨u,Zc⟩:=q;rw[hlk]at hrd;simp only[Bool.and_eq_true]at hrd;obtain⟨⟨⟨a1,a2⟩,a3⟩,a4⟩:=hrd;have hu1:u∈pf.ids:=by simpa using a1
          refine⟨u,hu1,?_⟩
          have a3':(Xy 4 v||s.clear u)=true:=by
           rw[Bool.or_eq_true]at a3 ⊢;refine a3.imp id fun a3=>?_
           rw[Bool.and_eq_true]at a3;unfold PD.clear;rw[Bool.and_eq_true];refine⟨List.all_eq_true.2 ?_,a3.2⟩;rintro⟨j,t⟩ hj;obtain⟨o',b1,b2,b3,b4,b5⟩:=h4 _ hj;refine b5 ?_ u hu1;have h9:=hok.2;unfold Zagg at h9;rw[a3.1,Bool.not_true,Bool.false_or]at h9;have h9:=List.all_eq_true.1 h9 (o,done.length) (by rw[List.mem_zipIdx_iff_getElem?];simpa using hio);simp only[Uv,Bool.not_true,Bool.false_or]at h9;have h9:=List.all_eq_true.1 h9 (o',j) (by rw[List.mem_zipIdx_iff_getElem?];simpa using b1);have hb:Nat.blt j done.length=true:=by simpa using b2
           simpa only[hb,b3,b4,Bool.not_true,Bool.false_or]using h9
          simp only[Xa];cases hx:h0.get u with
          |none=>rw[hx]at a2;cases a2
          |some x=>
           rw[hx]at a2;simp only[Option.map_some];rw[if_pos (by simp only[a2,a3',a4,Bool.and_self])]
        have Znh:∀u,Z4w h0 s.h u=true->s.cur u=true:=fun u hu=>by
         unfold Z4w at hu;unfold PD.cur;rw[Xa];cases hx:s.h.get u with
         |none=>rw[hx]at hu;cases hu
         |some x=>
          cases hy:h0.get u with
          |none=>rw[hx,hy]at hu;cases hu
          |some y=>rw[hx,hy]at hu;exact hu
        unfold Z0p;simp only[hwd];cases hbl:Zod s (fun t=>if (Yc ops.toList o).contains t then s.sl t else none) o v with
        |some u=>
         have hru:pf.inRd o=true->u∈pf.ids:=fun Uv=>by
          obtain⟨u',a1,a2⟩:=hrd1 Uv;rw[hbl]at a2;cases a2;exact a1
         simp only
         rw[if_pos (List.all_eq_true.2 fun p hp=>by
          obtain⟨o',a,b,c,e,f⟩:=h4 p hp;have:=hB' p.1 o' a b;simp only[c,e,Bool.not_true,Bool.false_or,Bool.and_false,Bool.and_eq_true,Bool.or_eq_true]at this;simp only[Bool.or_eq_true];rcases this.2 with (h7 | h7) | h7
          .exact .inl h7
          .exact .inr (f h7.2 u (hru h7.1))
          .cases h7)]
         have:=ih (done++[o]) {s with sl:=putP s.sl o.dst v,h:=h',rb:=(done.length,u)::s.rb} r hd' Zjo Zp3 (fun p hp=>by
          rcases List.mem_cons.1 hp with rfl | hp
          .exact ⟨o,hio,by simp,hso,hru⟩
          .exact Zjn p hp) Zm2 hol he
         rwa [hlen]at this
        |none=>
         have hno:pf.inRd o=false:=by
          cases Uv:pf.inRd o with
          |false=>rfl
          |true=>
           obtain⟨u',a1,a2⟩:=hrd1 Uv;rw[hbl]at a2;cases a2
         have hB2:∀j p,ops.toList[j]?=some p->j < done.length->((!Zmv ops.toList p||((Region.before ops).getD done.length 0).testBit j)&&(!Zaa C pf p||(!Vm pf o&&!Vm pf p)||((Region.before ops).getD done.length 0).testBit j||(pf.inRd p&&pf.inFl o&&!Vm pf p)))=true:=fun j p hj hlt=>by
          have:=hB' j p hj hlt
          rwa [hno,Bool.or_false,Bool.false_and,Bool.or_false]at this
         have c1:(s.st.all fun x=>match x with | (j,w)=>(!w&&!(U8 o&&!Rf C s.sl o v))||((Region.before ops).getD done.length 0).testBit j)=true:=by
          rw[List.all_eq_true];rintro⟨j,w⟩ hj;obtain⟨p,a,b,c,e,f⟩:=h1 _ hj;have:=hB2 j p a b;simp only at e c f;simp only[c,f,Bool.not_true,Bool.false_or,Bool.and_eq_true,Bool.false_and,Bool.or_false]at this;simp only;have h2:=this.2;rw[Bool.or_eq_true]at h2 ⊢;rcases h2 with h2 | h2
          .left;rw[Bool.and_eq_true,Bool.not_eq_true',Bool.not_eq_true']at h2 ⊢;constructor
           .cases w with
            |false=>rfl
            |true=>rw[e rfl]at h2;cases h2.2
           .cases hx:(U8 o&&!Rf C s.sl o v) with
            |false=>rfl
            |true=>rw[hwi hx]at h2;cases h2.1
          .exact Or.inr h2
         have c2:(s.made.all fun j=>((Region.before ops).getD done.length 0).testBit j)=true:=by
          rw[List.all_eq_true];intro j hj;obtain⟨p,a,b,c⟩:=h2 _ hj;have:=hB2 j p a b;simp only[c,Bool.not_true,Bool.false_or,Bool.and_eq_true]at this;exact this.1
         have c5:(!(U8 o&&!Rf C s.sl o v)||s.rb.all fun x=>match x with | (c,u)=>((Region.before ops).getD done.length 0).testBit c||(Wk (X3 C K (fun t=>if (Yc ops.toList o).contains t then s.sl t else none) s.h o) u&&s.cur u))=true:=by
          cases hx:(U8 o&&!Rf C s.sl o v) with
          |false=>rfl
          |true=>
           simp only[Bool.not_true,Bool.false_or];refine List.all_eq_true.2 fun p hp=>?_
           obtain⟨o',a,b,c,f⟩:=h3 p hp;have:=hB2 p.1 o' a b;simp only[c,hwi hx,Bool.not_true,Bool.false_or,Bool.false_and,Bool.and_eq_true,Bool.or_eq_true]at this;simp only[Bool.or_eq_true,Bool.and_eq_true];rcases this.2 with h7 | h7
           .exact .inl h7
           .right;rw[h7.1.2,Bool.not_true,Bool.false_or]at Uq;have h8:=List.all_eq_true.1 Uq p.2 (f h7.1.1);rw[Bool.and_eq_true]at h8;exact⟨by rw[Zg8 hag];exact h8.1,Znh _ h8.2⟩
         simp only;rw[if_pos (by rw[c1,c2,c5];rfl)]
         have:=ih (done++[o]) {s with sl:=putP s.sl o.dst v,h:=h',st:=(done.length,U8 o&&!Rf C s.sl o v)::s.st,wt:=if (U8 o&&!Rf C s.sl o v)=true then (done.length,X3 C K (fun t=>if (Yc ops.toList o).contains t then s.sl t else none) s.h o)::s.wt else s.wt} r hd' (fun q hq=>by
          rcases List.mem_cons.1 hq with rfl | hq
          .exact ⟨o,hio,by simp,hso,hwi,hno⟩
          .exact Zjo q hq) Zp3 Zjn (fun p hp=>by
          simp only at hp;split at hp
          .rename_i hx;rcases List.mem_cons.1 hp with rfl | hp
           .refine ⟨o,hio,by simp,hso,hwi hx,fun Uv u hu=>?_⟩;rw[Uv,Bool.not_true,Bool.false_or]at Uq;have h8:=List.all_eq_true.1 Uq u hu;rw[Bool.and_eq_true]at h8;simp only[Zg8 hag];exact h8.1
           .exact Zm2 p hp
          .exact Zm2 p hp) hol he
         rwa [hlen]at this
       .cases he
theorem Zsi {pf:Md}{ops:Array Oper}(hS:Stat C pf ops){sl:Yt}{h:PH}{r:Yt×PH}(he:Zai pf h C cf yf K ops.toList ops.toList sl h=some r):Zcj C cf yf K ops sl h=some r:=by
 obtain⟨s',h1,h2⟩:=Zrj hS ops.toList [] {sl,h,st:=[],made:=[],old:=fun u=>(h.get u).map (·.1),rb:=[],wt:=[]} r rfl (by simp) (by simp) (by simp) (by simp) (fun _=>rfl) he;unfold Zcj;rw[show (0:Nat)=([]:List Oper).length from rfl,h1,Option.map_some,h2]
end
section
variable {C:Ctx}{K:Loc}{Xs:Bool}{sl:Yt}{h:PH}
theorem Zds (pf:Md){Q:Ex×Yt×PH->Prop}{id:Nat}{ops:Array Oper}(hS:Stat C pf ops)(hx:wp (Zai pf h C (Yh C) (Tw C) K ops.toList ops.toList sl h) fun p=>Q (.normal,p.1,p.2)):wp (Vt C K Xs (.region id ops true) sl h) Q:=by
 obtain⟨r,h1,h2⟩:=X5.1 hx;rw[Z9o,Zsi hS h1];exact h2
end
theorem Yw {C:Ctx}{K:Loc}{Xs:Bool}{sl:Yt}{h:PH}(pf ld:Bool)(fr rd ids fl:List Nat)(ls:Bool){Q:Ex×Yt×PH->Prop}{id:Nat}{ops:Array Oper}(hS:Zfq C {pf:=pf,ld:=ld,fr:=fr,rd:=rd,ids:=[],fl:=fl,ls:=ls} ops=true)
  (hx:wp (Zai {pf:=pf,ld:=ld,fr:=fr,rd:=rd,ids:=ids,fl:=fl,ls:=ls} h C (Yh C) (Tw C) K ops.toList ops.toList sl h) fun p=>Q (.normal,p.1,p.2)):wp (Vt C K Xs (.region id ops true) sl h) Q:=
 Zds {pf:=pf,ld:=ld,fr:=fr,rd:=rd,ids:=ids,fl:=fl,ls:=ls} ⟨hS⟩ hx
section
variable {C:Ctx}{cf:CF}{yf:YF}{K:Loc}{all:List Oper}{sl:Yt}{h h0:PH}{pf:Md}
@[simp] theorem Zaf6 {Q:Yt×PH->Prop}:wp (Zai pf h0 C cf yf K all [] sl h) Q=Q (sl,h):=rfl
@[simp] theorem Zab1 {o:Oper}{r:List Oper}{Q:Yt×PH->Prop}:wp (Zai pf h0 C cf yf K all (o::r) sl h) Q =
  wp (Vy all sl o) fun w=>ifB w
   (opF (Yi C sl o) (fun v=>ifB (W2 3 v) (wp (Zai pf h0 C cf yf K all r (putP sl o.dst v) h) Q) False)
     (opM (V5 C all sl o) (fun m=>match m.obj,o.dst with
       |none,_=>wp (Zai pf h0 C cf yf K all r (putP sl o.dst (m.val 0 0)) h) Q
       |some ob,some d=>wp (Zai pf h0 C cf yf K all r (sl.put d (m.val (K.base+d) (h.stamp (K.base+d)))) (h.put (K.base+d) (h.stamp (K.base+d)) ob)) Q
       |some _,none=>False)
     (wp (Zh C cf yf all K sl h o) fun p=>ifB (!pf.free o&&(!(pf.pf&&Zwv o.op)||Rf C sl o p.1)&&(!pf.inRd o||pf.okB h0 h sl o p.1)&&(!pf.inFl o||pf.ids.all fun u=>Wk (X3 C K sl h o) u&&Z4w h0 h u)) (wp (Zai pf h0 C cf yf K all r (putP sl o.dst p.1) p.2) Q) False)))
   (wp (Zai pf h0 C cf yf K all r (putP sl o.dst (.tuple [])) h) Q):=by
 simp only[Zai];cases Vy all sl o with
 |none=>rfl
 |some w=>
  cases w with
  |false=>rfl
  |true=>
   simp only[Zq3,Zvl];cases Yi C sl o with
   |some v=>
    simp only[Z6x];cases hs:W2 3 v<;>simp[ifB]
   |none=>
    simp only[Zu1];cases V5 C all sl o with
    |some m=>
     simp only[Zu0];cases m.obj with
     |none=>rfl
     |some ob=>cases o.dst<;>rfl
    |none=>
     simp only[Z6w];cases Zh C cf yf all K sl h o with
     |none=>rfl
     |some p=>
      simp only[Zq3];cases hs:(!pf.free o&&(!(pf.pf&&Zwv o.op)||Rf C sl o p.1)&&(!pf.inRd o||pf.okB h0 h sl o p.1)&&(!pf.inFl o||pf.ids.all fun u=>Wk (X3 C K sl h o) u&&Z4w h0 h u))<;>simp only[Bool.false_eq_true,if_false,if_true,Zvl,Z3b,Zab2]
end
attribute [simp] W2 Zwv Rf Xy Zagm Md.free Md.inRd Md.inFl Md.okB Z9w Z4w Zhx X3 Wk
end Go.Pure
end
section
namespace Go.Pure
open Go
open Go.Virt (Ex Ctx Ty TK)
theorem Rm:Virt.maxLenV=1073741824:=rfl
def Acc (S:List Nat)(K:Loc)(h:PH)(g:Nat)(v:PV)(xs:List PV):Prop:=
 (xs=[]/\v=.nils)\/∃d Zc,xs≠[]/\d∈S/\v=.own (K.base+d) Zc g 0 xs.length/\h.get (K.base+d)=some (Zc,.row g true xs)
theorem Acc.nil {S:List Nat}{K:Loc}{h:PH}{g:Nat}:Acc S K h g .nils []:=Or.inl ⟨rfl,rfl⟩
theorem Acc.inl {S:List Nat}{K:Loc}{h:PH}{g:Nat}{v:PV}{xs:List PV}(hA:Acc S K h g v xs):inlV h v=some (L g true xs):=by
 rcases hA with⟨rfl,rfl⟩ | ⟨d,Zc,Yp,_,rfl,hg⟩
 .rfl
 .cases xs with
  |nil=>exact absurd rfl Yp
  |cons=>simp[inlV,Zee,PH.elems,PH.row,hg,L]
theorem Acc.inlT {S:List Nat}{K:Loc}{h:PH}{g:Nat}{v:PV}{xs:List PV}(hA:Acc S K h g v xs):inlT h v=inlV h v:=by
 rcases hA with⟨rfl,rfl⟩ | ⟨d,Zc,Yp,_,rfl,hg⟩<;>rfl
theorem Acc.len {S:List Nat}{K:Loc}{h:PH}{g:Nat}{v:PV}{xs:List PV}(hA:Acc S K h g v xs):Z29 v=some xs.length:=by
 rcases hA with⟨rfl,rfl⟩ | ⟨d,Zc,Yp,_,rfl,hg⟩<;>rfl
theorem Acc.frame {S:List Nat}{K:Loc}{h h':PH}{g:Nat}{v:PV}{xs:List PV}(hA:Acc S K h g v xs)(hf:∀d,d∈S->h'.get (K.base+d)=h.get (K.base+d)):Acc S K h' g v xs:=by
 rcases hA with h1 | ⟨d,Zc,Yp,hd,e,hg⟩
 .exact Or.inl h1
 .exact Or.inr ⟨d,Zc,Yp,hd,e,by rw[hf d hd,hg]⟩
theorem Acc.own {S:List Nat}{K:Loc}{h:PH}{g:Nat}{v:PV}{xs:List PV}(hA:Acc S K h g v xs)(Yp:xs≠[]):∃d Zc,d∈S/\v=.own (K.base+d) Zc g 0 xs.length/\h.get (K.base+d)=some (Zc,.row g true xs):=by
 rcases hA with⟨e,_⟩ | h1
 .exact absurd e Yp
 .obtain ⟨d,Zc,_,h2,h3,h4⟩:=h1;exact⟨d,Zc,h2,h3,h4⟩
theorem Acc.app {S:List Nat}{K:Loc}{h:PH}{g:Nat}{v:PV}{xs ys:List PV}{T:Ty}{dd:Nat}(hA:Acc S K h g v xs)(hd:dd∈S)(hK:K.lo=K.base)(h1:xs.length+ys.length<=1073741824)(h2:T.bytes<=65536)(h3:0 < T.size)(h4:ys≠[]):
  ∃v' h',Xk K h dd g T ys.length ys v=some (v',h')/\Acc S K h' g v' (xs++ys)/\h'.next=h.next/\∀j,(∀d,d∈S->j≠K.base+d)->h'.get j=h.get j:=by
 have hl:ys.length≠0:=by
  cases ys with
  |nil=>exact absurd rfl h4
  |cons=>simp
 rcases hA with⟨rfl,rfl⟩ | ⟨d,Zc,Yp,hdS,rfl,hg⟩
 .refine ⟨_,_,Q2 (by omega) h2 h3 hl,Or.inr ⟨dd,h.stamp (K.base+dd),by simpa using h4,hd,by simp,by simp⟩,rfl,fun j hj=>?_⟩;simp[hj dd hd]
 .have hr:h.row (K.base+d) Zc g=some (true,xs):=by simp[PH.row,hg]
  refine⟨_,_,((by rw[Qf,hr];rfl:Xk K h dd g T ys.length ys (.own (K.base+d) Zc g 0 xs.length)=Zw3 K h T g (K.base+d) Zc 0 xs.length ys.length ys (true,xs)).trans (Zlt h1 h2 h3 (by simp[can,hK]) rfl (by simp))),Or.inr ⟨d,Zc+1,by simp[h4],hdS,by simp,by simp⟩,rfl,fun j hj=>?_⟩;simp[hj d hdS]
theorem Acc.call {C:Ctx}{S:List Nat}{K:Loc}{h:PH}{g f:Nat}{v w:PV}{xs:List PV}(hA:Acc S K h g v xs)(hK:K.lo=K.base)(Xb:C.raw f=false)(pre post:List PV)(Zy9:Xq C f (pre++L g true xs::post) w)(hw:Zdd w=true)
  (h1:(pre++post).flatMap ownV=[]) (h2:(pre++post).flatMap (refs 3)=[]):Yh C K f (pre++v::post) h=some (w,h):=by
 rw[List.flatMap_append,List.append_eq_nil_iff]at h1 h2;refine Zoa Zy9 hw Xb (Zhv (Vs h1.1) ?_) (by cases pre<;>rfl) ?_ ?_ ?_
 .simp only [Vi,hA.inl,Vs h1.2]
 .rw [List.flatMap_append,List.flatMap_cons,h1.1,h1.2];simp
 .rw [List.flatMap_append,List.flatMap_cons,h2.1,h2.2];simp
 .rw [List.flatMap_append,List.flatMap_cons,h1.1,h1.2];rcases hA with⟨_,rfl⟩ | ⟨d,Zc,_,_,rfl,hg⟩
  .simp
  .simp [hg,can,hK]
theorem Z0x {p:Prop}[Decidable p]{A B:Prop}{t:Tag A}{u:Tag B}(h1:p->A)(h2:¬p->B):ifB (decide p) A B t u:=by
 by_cases h:p
 .rw [decide_eq_true h];exact h1 h
 .rw [decide_eq_false h];exact h2 h
theorem Zlf {α:Type}[BEq α][LawfulBEq α]{a b:α}{A B:Prop}{t:Tag A}{u:Tag B}(h1:a=b->A)(h2:(a==b)=false->a≠b->B):ifB (a==b) A B t u:=by
 by_cases h:a=b
 .subst h;rw[BEq.rfl];exact h1 rfl
 .rw [beq_false_of_ne h];exact h2 (beq_false_of_ne h) h
theorem Zvm {p:Prop}[Decidable p]{A B:Prop}{t:Tag A}{u:Tag B}(h:p)(hA:p->A):ifB (decide p) A B t u:=by rw[decide_eq_true h];exact hA h
theorem Zvn {p:Prop}[Decidable p]{A B:Prop}{t:Tag A}{u:Tag B}(h:¬p)(hB:¬p->B):ifB (decide p) A B t u:=by rw[decide_eq_false h];exact hB h
theorem Z7q {a b:Int}{A B:Prop}{t:Tag A}{u:Tag B}(h:a=b)(hA:a=b->A):ifB (a==b) A B t u:=by subst h;rw[BEq.rfl];exact hA rfl
theorem Z7r {a b:Int}{A B:Prop}{t:Tag A}{u:Tag B}(h:a≠b)(hB:(a==b)=false->a≠b->B):ifB (a==b) A B t u:=by rw[beq_false_of_ne h];exact hB (beq_false_of_ne h) h
@[simp] theorem Zaou {n i:Nat}{h:PH}:PH.stamp ⟨n,h.get⟩ i=h.stamp i:=rfl
@[simp] theorem Zame {i j v:Nat}{o:PO}{h:PH}:PH.stamp (h.put i v o) j=if j=i then v+1 else h.stamp j:=by
 simp only[PH.stamp,PH.put];split<;>rename_i hh
 .split at hh
  .rename_i e;cases hh;simp[e]
  .rename_i e;rw[hh];simp[e]
 .split at hh
  .cases hh
  .rename_i e;rw[hh];simp[e]
theorem Ztn {n:Int}(h1 : -9223372036854775808<=n)(h2:n < 9223372036854775808):IntKind.i64.wrap n=n:=Zto h1 h2
theorem Z51 {n:Int}(h1:0<=n)(h2:n < 256):IntKind.u8.wrap n=n:=Zab0 h1 h2
theorem Zaoc {n:Int}(h1:0<=n)(h2:n < 18446744073709551616):IntKind.u64.wrap n=n:=Zpf h1 h2
theorem wrap32 {n:Int}(h1:0<=n)(h2:n < 4294967296):IntKind.u32.wrap n=n:=by
 simp only[IntKind.wrap,IntKind.bits,IntKind.signed,Bool.false_and,Bool.false_eq_true,if_false];omega
theorem toNat_add_nat (a b:Nat):((a:Int)+(b:Int)).toNat=a+b:=by omega
theorem Zs1 (a b:Int):a+b - a=b:=by omega
theorem Z7m {a b:Int}:(if a < b then b else a)=max a b:=by omega
theorem Z7k {a b:Int}:(if a < b then a else b)=min a b:=by omega
theorem Z7l {a b:Nat}:(if a < b then (b:Int) else (a:Int))=((max a b:Nat):Int):=by omega
theorem Z7j {a b:Nat}:(if a < b then (a:Int) else (b:Int))=((min a b:Nat):Int):=by omega
theorem Zc5 {l:List Nat}(h:∀c,c∈l->c < 256):Zh.bytesP (l.map fun c:Nat=>PV.int .u8 (c:Int))=some l:=by
 induction l with
 |nil=>rfl
 |cons c l ih=>
  have h1:c < 256:=h c List.mem_cons_self;have h2:=ih fun d hd=>h d (List.mem_cons_of_mem _ hd)
  simp only[List.map_cons,Zh.bytesP,h2,Option.map_some];congr 2;omega
def Stop (P:Prop)(_t:Tag P:=⟨⟩):Prop:=P
theorem Ru {P:Prop}{t:Tag P}(h:P):Stop P t:=h
theorem Zbb {C:Ctx}{K:Loc}{Xs:Bool}{A B:Code}{sl:Yt}{h:PH}{Q:Ex×Yt×PH->Prop}(hx:wp (Vt C K Xs A sl h) fun r=>match r with
  | (.normal,Y6,h')=>Stop (wp (Vt C K Xs B Y6 h') Q)
  |r=>Q r):wp (Vt C K Xs (.seq A B) sl h) Q:=by
 rw[wp_seq];exact hx
theorem Zxq {C:Ctx}{K:Loc}{Xs:Bool}{A B:Code}{sl:Yt}{h:PH}{Q:Ex×Yt×PH->Prop}(R:Yt->PH->Prop)(hx:wp (Vt C K Xs A sl h) fun r=>match r with
  | (.normal,Y6,h')=>R Y6 h'
  |r=>Q r) (hB:∀sl h,R sl h->wp (Vt C K Xs B sl h) Q):wp (Vt C K Xs (.seq A B) sl h) Q:=by
 rw[wp_seq];refine wp_mono hx ?_;rintro⟨x,Y6,h'⟩ hr;cases x with
 |normal=>exact hB _ _ hr
 |exit id=>exact hr
 |ret=>exact hr
theorem Yb:(∀ {n:Int}, -9223372036854775808<=n->n < 9223372036854775808->IntKind.i64.wrap n=n)/\(∀ {n:Int},0<=n->n < 256->IntKind.u8.wrap n=n)/\(∀ {n:Int},0<=n->n < 18446744073709551616->IntKind.u64.wrap n=n)/\(∀ {n:Int},0<=n->n < 4294967296->IntKind.u32.wrap n=n)/\(∀a b:Nat,((a:Int)+(b:Int)).toNat=a+b)/\(∀a b:Int,a+b - a=b)/\(∀ {a b:Int},(if a < b then b else a)=max a b)/\(∀ {a b:Int},(if a < b then a else b)=min a b)/\(∀ {a b:Nat},(if a < b then (b:Int) else (a:Int))=((max a b:Nat):Int))/\∀ {a b:Nat},(if a < b then (a:Int) else (b:Int))=((min a b:Nat):Int):=
 ⟨Ztn,Z51,Zaoc,wrap32,toNat_add_nat,Zs1,Z7m,Z7k,Z7l,Z7j⟩
theorem Yd:(∀ {g:Nat},L g true []=.nils)/\(∀ {g:Nat} {b:Bool} {x:PV} {xs:List PV},L g b (x::xs)=.lst g (x::xs))/\(∀ {n:Int}, -9223372036854775808<=n->n < 9223372036854775808->IntKind.i64.wrap n=n)/\(∀ {n:Int},0<=n->n < 256->IntKind.u8.wrap n=n)/\(∀ {n:Int},0<=n->n < 18446744073709551616->IntKind.u64.wrap n=n)/\(∀ {n:Int},0<=n->n < 4294967296->IntKind.u32.wrap n=n)/\(∀a b:Nat,((a:Int)+(b:Int)).toNat=a+b)/\(∀a b:Int,a+b - a=b)/\(∀ {a b:Int},(if a < b then b else a)=max a b)/\(∀ {a b:Int},(if a < b then a else b)=min a b)/\(∀ {a b:Nat},(if a < b then (b:Int) else (a:Int))=((max a b:Nat):Int))/\∀ {a b:Nat},(if a < b then (a:Int) else (b:Int))=((min a b:Nat):Int):=⟨Wn,Xe,Yb⟩
theorem Zq {P:Prop}(h:P:=by first|omega|(simp<;>omega)|fail):P:=h
theorem Zw {P:Prop}(h:P:=by first|omega|(simp<;>omega)|(simp[*];done)|fail):P:=h
structure Im (p A:Prop)(s:Tag p:=⟨⟩)(t:Tag A:=⟨⟩):Prop where
 h:p->A
theorem Zi {p A:Prop}{s:Tag p}{t:Tag A}(h:p->A):Im p A s t:=⟨h⟩
theorem Zm {A:Prop}(h:Im True A):A:=h.h trivial
structure Cn (b:Bool)(p:Prop)(T F:Prop->Prop):Prop where
 h:∀ {A B:Prop} {t:Tag A} {u:Tag B},(p->T A->ifB b A B t u)/\(¬p->F B->ifB b A B t u)/\(T A->F B->ifB b A B t u)
theorem Y3 {b:Bool}:Cn b (b=true) (fun A=>Im (b=true) A) (fun B=>Im (b=false) B):=⟨fun {A B t u}=>⟨fun h a=>Zcb (t:=t) (u:=u) a.h (fun e=>absurd h (by simp[e])),fun h a=>Zcb (t:=t) (u:=u) (fun e=>absurd e h) a.h,fun a c=>Zcb a.h c.h⟩⟩
theorem Y2 {p:Prop}[Decidable p]:Cn (decide p) p (fun A=>Im p A) (fun B=>Im (¬p) B):=⟨fun {A B t u}=>⟨fun h a=>Zvm h a.h,fun h a=>Zvn h a.h,fun a c=>Z0x a.h c.h⟩⟩
theorem Y1 {α:Type}[BEq α][LawfulBEq α]{a b:α}:Cn (a==b) (a=b) (fun A=>Im (a=b) A) (fun B=>Im ((a==b)=false) (Im (a≠b) B)):=⟨fun {A B t u}=>⟨fun h x=>Zlf (t:=t) (u:=u) x.h (fun _ e=>absurd h e),fun h x=>Zlf (t:=t) (u:=u) (fun e=>absurd e h) (fun e f=>(x.h e).h f),fun x y=>Zlf x.h (fun e f=>(y.h e).h f)⟩⟩
theorem Y0 {a b:Int}:Cn (a==b) (a=b) (fun A=>Im (a=b) A) (fun B=>Im ((a==b)=false) (Im (a≠b) B)):=Y1
structure An (P Q:Prop):Prop where
 l:P
 r:Q
theorem Zn {P Q:Prop}(l:P)(r:Q):An P Q:=⟨l,r⟩
structure Dn (b:Bool)(A B R:Prop):Prop where
 h:∀ {t:Tag A} {u:Tag B},R->ifB b A B t u
section
variable {b:Bool}{p:Prop}{T F:Prop->Prop}{A B R:Prop}{t:Tag A}{u:Tag B}
theorem E1 (c:Cn b p T F:=by first|exact Y0|((fail_if_success exact Y1);exact Y2)|fail)(h:p:=by omega):Dn b A B (T A):=⟨fun a=>c.h.1 h a⟩
theorem E2 (c:Cn b p T F:=by first|exact Y0|((fail_if_success exact Y1);exact Y2)|fail)(h:¬p:=by omega):Dn b A B (F B):=⟨fun a=>c.h.2.1 h a⟩
theorem E3 (c:Cn b p T F:=by first|exact Y1|exact Y2|exact Y3|fail):Dn b A B (An (T A) (F B)):=⟨fun a=>c.h.2.2 a.l a.r⟩
theorem Zx (h:R)(c:Dn b A B R:=by first|exact E1|exact E2|exact E3|fail):ifB b A B t u:=c.h h
end
section
variable {A B:Prop}{t:Tag A}{u:Tag B}
theorem Z1 {a b:Int}(hA:a=b->A)(h:a=b:=by omega):ifB (a==b) A B t u:=Z7q h hA
theorem Z2 {a b:Int}(hB:(a==b)=false->a≠b->B)(h:a≠b:=by omega):ifB (a==b) A B t u:=Z7r h hB
theorem Z3 {α:Type}[BEq α][LawfulBEq α]{a b:α}(h1:a=b->A)(h2:(a==b)=false->a≠b->B):ifB (a==b) A B t u:=Zlf h1 h2
theorem Z4 {p:Prop}[Decidable p](hA:p->A)(h:p:=by omega):ifB (decide p) A B t u:=Zvm h hA
theorem Z5 {p:Prop}[Decidable p](hB:¬p->B)(h:¬p:=by omega):ifB (decide p) A B t u:=Zvn h hB
theorem Z6 {p:Prop}[Decidable p](h1:p->A)(h2:¬p->B):ifB (decide p) A B t u:=Z0x h1 h2
theorem Z7 {b:Bool}(h1:b=true->A)(h2:b=false->B):ifB b A B t u:=Zcb h1 h2
end
structure Dm (C:Ctx)(ops:Array Oper)(m:Md):Prop where
 h:Zfq C m ops=true
theorem D1 {C:Ctx}{ops:Array Oper}(h:Zfq C {pf:=false,ld:=false,fr:=[]} ops=true:=by decide +kernel):Dm C ops {pf:=false,ld:=false,fr:=[]}:=⟨h⟩
theorem D2 {C:Ctx}{ops:Array Oper}(h:Zfq C {pf:=true,ld:=false,fr:=[]} ops=true:=by decide +kernel):Dm C ops {pf:=true,ld:=false,fr:=[]}:=⟨h⟩
theorem D3 {C:Ctx}{ops:Array Oper}(h:Zfq C {pf:=false,ld:=true,fr:=[]} ops=true:=by decide +kernel):Dm C ops {pf:=false,ld:=true,fr:=[]}:=⟨h⟩
section
variable {C:Ctx}{K:Loc}{Xs:Bool}{sl:Yt}{h:PH}{Q:Ex×Yt×PH->Prop}{id:Nat}{ops:Array Oper}
theorem Z8 (hx:wp (Zai {pf:=false,ld:=false,fr:=[]} h C (Yh C) (Tw C) K ops.toList ops.toList sl h) fun p=>Q (.normal,p.1,p.2))(hS:Zfq C {pf:=false,ld:=false,fr:=[]} ops=true:=by decide +kernel):wp (Vt C K Xs (.region id ops true) sl h) Q:=Zds _ ⟨hS⟩ hx
theorem Z9 (hx:wp (Zai {pf:=true,ld:=false,fr:=[]} h C (Yh C) (Tw C) K ops.toList ops.toList sl h) fun p=>Q (.normal,p.1,p.2))(hS:Zfq C {pf:=true,ld:=false,fr:=[]} ops=true:=by decide +kernel):wp (Vt C K Xs (.region id ops true) sl h) Q:=Zds _ ⟨hS⟩ hx
theorem Z0 (hx:wp (Zai {pf:=false,ld:=true,fr:=[]} h C (Yh C) (Tw C) K ops.toList ops.toList sl h) fun p=>Q (.normal,p.1,p.2))(hS:Zfq C {pf:=false,ld:=true,fr:=[]} ops=true:=by decide +kernel):wp (Vt C K Xs (.region id ops true) sl h) Q:=Zds _ ⟨hS⟩ hx
theorem Ye {m:Md}(hx:Im True (wp (Zai m h C (Yh C) (Tw C) K ops.toList ops.toList sl h) fun p=>Q (.normal,p.1,p.2)))(c:Dm C ops m:=by first|exact D1|exact D2|exact D3|fail):wp (Vt C K Xs (.region id ops true) sl h) Q:=Zds _ ⟨c.h⟩ (hx.h trivial)
theorem Wc {K:Pure.Loc}{f:Nat}{args:List PV}{fn:Func}{c:Code}{v:PV}(hF:C.F f=some fn)
  (hx:wp (Vt C {base:=h.next,lo:=h.next,ok:=[]} true c (R1 0 args) {h with next:=h.next+fn.ntmps}) fun r=>(r.1=.normal\/r.1=.ret)/\wp (Ut C r.2.1 r.2.2 fn.results.toList) fun vs=>
    inlT r.2.2 (Vh vs)=some v/\(ownT (Vh vs)).all (fun i=>Nat.ble h.next i)=true) (h0:(C.ext f []).isNone=true:=by rfl) (hb:fn.body=some c:=by rfl) (Xb:C.raw f=false:=by rfl) (ho:args.flatMap ownV=[]:=by simp) (hr:args.flatMap (refs 3)=[]:=by simp) (hv:below h.next 4 v=true:=by simp[*]):Yh C K f args h=some (v,h):=Zg4 h0 hF hb Xb ho hr hx hv
end
theorem Acc.lenK {S:List Nat}{K:Loc}{h:PH}{g e:Nat}{v:PV}{xs:List PV}(hA:Acc S K h g v xs):Pure.lenK (.slice e) v=some (.int .i64 xs.length):=by
 rcases hA with⟨rfl,rfl⟩ | ⟨d,Zc,Yp,_,rfl,hg⟩<;>rfl
theorem Acc.ownT {S:List Nat}{K:Loc}{h:PH}{g:Nat}{v:PV}{xs:List PV}(hA:Acc S K h g v xs):∀x,x∈ownT v->K.base<=x:=by
 rcases hA with⟨rfl,rfl⟩ | ⟨d,Zc,Yp,_,rfl,hg⟩
 .intro x hx;simp[Pure.ownT]at hx
 .intro x hx;simp[Pure.ownT]at hx;omega
theorem Acc.same {S:List Nat}{K:Loc}{h:PH}{g n:Nat}{v:PV}{xs:List PV}(hA:Acc S K h g v xs):W2 n v=true:=by
 rcases hA with⟨rfl,rfl⟩ | ⟨d,Zc,Yp,_,rfl,hg⟩<;>cases n<;>rfl
theorem Acc.pos {S:List Nat}{K:Loc}{h:PH}{g k:Nat}{v:PV}{α:Type}{f:α->PV}{l:List α}(hA:Acc S K h g v (l.map f))(hk:k < l.length):∃d Zc,d∈S/\v=.own (K.base+d) Zc g 0 l.length/\h.get (K.base+d)=some (Zc,.row g true (l.map f)):=by
 obtain⟨d,Zc,h1,h2,h3⟩:=hA.own (by intro e;simp at e;rw[e]at hk;simp at hk);rw[List.length_map]at h2;exact⟨d,Zc,h1,h2,h3⟩
theorem Acc.app' {S:List Nat}{K:Loc}{h:PH}{g:Nat}{v:PV}{xs ys:List PV}{T:Ty}{dd:Nat}(hA:Acc S K h g v xs)(hd:dd∈S)(hK:K.lo=K.base)(h1:xs.length+ys.length<=1073741824)(h2:T.bytes<=65536)(h3:0 < T.size):
  ∃v' h',Xk K h dd g T ys.length ys v=some (v',h')/\Acc S K h' g v' (xs++ys)/\h'.next=h.next/\∀j,(∀d,d∈S->j≠K.base+d)->h'.get j=h.get j:=by
 by_cases h4:ys=[]
 .subst h4;rcases hA with⟨rfl,rfl⟩ | ⟨d,Zc,Yp,hdS,rfl,hg⟩
  .refine ⟨.nils,h,?_,Or.inl ⟨rfl,rfl⟩,rfl,fun j hj=>rfl⟩;simp only[Xk,List.length_nil];rw[if_pos ⟨by decide,h2,h3⟩,if_pos trivial]
  .have hr:h.row (K.base+d) Zc g=some (true,xs):=by simp[PH.row,hg]
   refine⟨_,_,((by rw[Qf,hr];rfl:Xk K h dd g T ([]:List PV).length [] (.own (K.base+d) Zc g 0 xs.length)=Zw3 K h T g (K.base+d) Zc 0 xs.length ([]:List PV).length [] (true,xs)).trans (Zlt h1 h2 h3 (by simp[can,hK]) rfl (by simp))),Or.inr ⟨d,Zc+1,by simpa using Yp,hdS,by simp,by simp⟩,rfl,fun j hj=>?_⟩;simp[hj d hdS]
 .exact hA.app hd hK h1 h2 h3 h4
theorem S6 {p:Nat}:∀ {l:List Nat} {h:PH},(∀i∈l,i≠p)->(h.freeze l).get p=h.get p
 | [],h,_=>rfl
 |i::r,h,hp=>by
  have h1:=hp i (by simp);have h2:∀j∈r,j≠p:=fun j hj=>hp j (by simp[hj])
  simp only[PH.freeze];split
  .rw [S6 h2];simp[PH.put,Ne.symm h1]
  .exact S6 h2
theorem Z53 {C:Ctx}{K:Loc}{f p Zc off:Nat}{rest:List PV}{h:PH}{o o':PO}{ver':Nat}{fn:Func}{c:Code}{v:PV}(hF:C.F f=some fn)(hb:fn.body=some c)(Xb:C.raw f=false)(ho:rest.flatMap ownV=[])(hr:rest.flatMap (refs 3)=[])
  (Zu:can K p=true) (hlt:p < h.next) (hp:h.get p=some (Zc,o)) (hro:refsO o=[])
  (hx:wp (Vt C {base:=h.next,lo:=h.next,ok:=[p]} true c (R1 0 (.ptr p Zc off::rest)) {h with next:=h.next+fn.ntmps}) fun r=>(r.1=.normal\/r.1=.ret)/\wp (Ut C r.2.1 r.2.2 fn.results.toList) fun vs=>
    inlT r.2.2 (Vh vs)=some v/\(ownT (Vh vs)).all (fun i=>Nat.ble h.next i)=true/\r.2.2.get p=some (ver',o')) (hv:below h.next 4 v=true) (hbo:Wj h.next o'=true):
  Yh C K f (.ptr p Zc off::rest) h=some (v,h.put p ver' o'):=by
 have hrf:(PV.ptr p Zc off::rest).flatMap (refs 3)=[p]:=by rw[List.flatMap_cons,hr];rfl
 refine Zcm (ok:=[p]) rfl hF hb Xb (by simpa[ownV,Zdi]using ho) (by rw[hrf];simp[reach,hp,hro]) (by simp only[List.all_cons,List.all_nil,Zu,hp];rfl) (wp_mono hx fun r hr=>⟨hr.1,wp_mono hr.2 fun vs h6=>?_⟩);obtain⟨h6,h7,h8⟩:=h6;rw[List.all_eq_true]at h7
 have hfz:(r.2.2.freeze (ownT (Vh vs))).get p=some (ver',o'):=by
  rw[S6,h8];intro i hi;have:=h7 i hi;simp at this;omega
 unfold Wq;rw[h6]
 have hall:(ownT (Vh vs)).all (fun i=>Nat.ble h.next i||[p].any (Nat.beq i))=true:=by
  rw[List.all_eq_true];intro i hi;rw[h7 i hi];rfl
 simp only[hall,hv,List.all_cons,List.all_nil,Bool.and_true,Bool.true_and,PH.belowAt,hfz,hbo,if_true,Yf]
theorem Zum {h:PH}{p Zc:Nat}{o:PO}(hp:h.get p=some (Zc,o)):h.put p Zc o=h:=by
 have:(h.put p Zc o).get=h.get:=by
  funext j;simp only[Zgd];split
  .rename_i e;rw[e,hp]
  .rfl
 cases h;simp only[PH.put]at this ⊢;congr 1
theorem Z0j {h:PH}{p v1 v2:Nat}{o1 o2:PO}:(h.put p v1 o1).put p v2 o2=h.put p v2 o2:=by
 simp only[PH.put];congr 1;funext j;split<;>rfl
theorem Wp {C:Ctx}{K:Loc}{f p Zc off:Nat}{rest:List PV}{h:PH}{o o':PO}{ver':Nat}{fn:Func}{c:Code}{v:PV}(hF:C.F f=some fn)
  (Zu:can K p=true) (hlt:p < h.next) (hp:h.get p=some (Zc,o))
  (hx:wp (Vt C {base:=h.next,lo:=h.next,ok:=[p]} true c (R1 0 (.ptr p Zc off::rest)) {h with next:=h.next+fn.ntmps}) fun r=>(r.1=.normal\/r.1=.ret)/\wp (Ut C r.2.1 r.2.2 fn.results.toList) fun vs=>
    inlT r.2.2 (Vh vs)=some v/\(ownT (Vh vs)).all (fun i=>Nat.ble h.next i)=true/\r.2.2.get p=some (ver',o'))
  (hb:fn.body=some c:=by rfl) (Xb:C.raw f=false:=by rfl) (ho:rest.flatMap ownV=[]:=by simp) (hr:rest.flatMap (refs 3)=[]:=by simp) (hro:refsO o=[]:=by simp[refsO]) (hv:below h.next 4 v=true:=by simp[*]) (hbo:Wj h.next o'=true:=by simp[Wj]):
  Yh C K f (.ptr p Zc off::rest) h=some (v,h.put p ver' o'):=Z53 hF hb Xb ho hr Zu hlt hp hro hx hv hbo
theorem Zc1 {h h3:PH}:∀ {l:List Nat},(∀i∈l,h3.get i=h.get i)->Yf h3 l h=h
 | [],_=>rfl
 |i::r,hl=>by
  have h1:=hl i (by simp);simp only[Yf];cases hg:h3.get i with
  |none=>exact Zc1 fun j hj=>hl j (by simp[hj])
  |some x=>
   obtain⟨Zc,o⟩:=x;rw[hg]at h1;simp only;rw[Zum h1.symm];exact Zc1 fun j hj=>hl j (by simp[hj])
theorem W3 {h3:PH}:∀ {l:List Nat} {h:PH},(Yf h3 l h).next=h.next
 | [],h=>rfl
 |i::r,h=>by
  simp only[Yf];split
  .rw [W3];rfl
  .exact W3
theorem U3 {h3:PH}{j:Nat}:∀ {l:List Nat} {h:PH},j∉l->(Yf h3 l h).get j=h.get j
 | [],h,_=>rfl
 |i::r,h,hj=>by
  simp only[List.mem_cons,not_or]at hj;simp only[Yf];split
  .rw [U3 hj.2];simp[hj.1]
  .exact U3 hj.2
theorem W6 {C:Ctx}{K:Loc}{f:Nat}{args:List PV}{h:PH}{ok:List Nat}{fn:Func}{c:Code}{v:PV}(hF:C.F f=some fn)(hb:fn.body=some c)(Xb:C.raw f=false)(Zic:(C.ext f []).isNone=true)(ho:args.flatMap ownV=[])(hre:reach h 4 (args.flatMap (refs 3))=ok)
  (Zu:ok.all (fun i=>can K i&&(h.get i).isSome)=true) (hlt:∀i∈ok,i < h.next) (hbo:∀i∈ok,h.belowAt h.next i=true)
  (hx:wp (Vt C {base:=h.next,lo:=h.next,ok:=ok} true c (R1 0 args) {h with next:=h.next+fn.ntmps}) fun r=>(r.1=.normal\/r.1=.ret)/\wp (Ut C r.2.1 r.2.2 fn.results.toList) fun vs=>
    inlT r.2.2 (Vh vs)=some v/\(ownT (Vh vs)).all (fun i=>Nat.ble h.next i)=true/\∀i∈ok,r.2.2.get i=h.get i) (hv:below h.next 4 v=true):
  Yh C K f args h=some (v,h):=by
 refine Zcm (Zci Zic Xb) hF hb Xb ho hre Zu (wp_mono hx fun r hr=>⟨hr.1,wp_mono hr.2 fun vs h6=>?_⟩);obtain⟨h6,h7,h8⟩:=h6;rw[List.all_eq_true]at h7
 have hfz:∀i∈ok,(r.2.2.freeze (ownT (Vh vs))).get i=h.get i:=by
  intro i hi;rw[S6,h8 i hi];intro j hj;have:=h7 j hj;simp at this;have:=hlt i hi;omega
 unfold Wq;rw[h6]
 have hall:(ownT (Vh vs)).all (fun i=>Nat.ble h.next i||ok.any (Nat.beq i))=true:=by
  rw[List.all_eq_true];intro i hi;rw[h7 i hi];rfl
 have hbl:ok.all (fun i=>(r.2.2.freeze (ownT (Vh vs))).belowAt h.next i)=true:=by
  rw[List.all_eq_true];intro i hi;simp only[PH.belowAt,hfz i hi];exact hbo i hi
 simp only[hall,hv,hbl,List.all_nil,Bool.and_true,Bool.true_and,if_true,Zc1 hfz]
theorem Zg2 {C:Ctx}{K:Loc}{f:Nat}{args:List PV}{h:PH}{ok:List Nat}{fn:Func}{c:Code}{R:PV->PH->Prop}(hF:C.F f=some fn)(hb:fn.body=some c)(Xb:C.raw f=false)(Zic:(C.ext f []).isNone=true)(ho:args.flatMap ownV=[])(hre:reach h 4 (args.flatMap (refs 3))=ok)
  (Zu:ok.all (fun i=>can K i&&(h.get i).isSome)=true)
  (hx:wp (Vt C {base:=h.next,lo:=h.next,ok:=ok} true c (R1 0 args) {h with next:=h.next+fn.ntmps}) fun r=>(r.1=.normal\/r.1=.ret)/\wp (Ut C r.2.1 r.2.2 fn.results.toList) fun vs=>
    ∃v,inlT r.2.2 (Vh vs)=some v/\ownT (Vh vs)=[]/\below h.next 4 v=false/\Xy 5 v=false/\R v r.2.2):
  ∃v h',Yh C K f args h=some (v,h')/\R v h':=by
 obtain⟨r,h1,h3,h4⟩:=X5.1 hx;obtain⟨vs,h5,v,h6,h7,h8,h9,h10⟩:=X5.1 h4;refine⟨v,r.2.2,Zcm (Zci Zic Xb) hF hb Xb ho hre Zu (X5.2 ⟨_,h1,h3,X5.2 ⟨vs,h5,?_⟩⟩),h10⟩;unfold Wq;rw[h6];simp only[h7,h8,h9,List.all_nil,if_true,PH.freeze,Bool.false_and,Bool.false_eq_true,if_false,Bool.not_false,Bool.true_or]
theorem Acc.callT {C:Ctx}{S:List Nat}{K:Loc}{h:PH}{g f:Nat}{v w:PV}{xs:List PV}(hA:Acc S K h g v xs)(hK:K.lo=K.base)(Xb:C.raw f=false)(pre post:List PV)(Zy9:Xq C f (pre++L g true xs::post) w)(hwb:∀m,below m 4 w=true)(hw:Yu g 14 w=true)
  (h1:(pre++post).flatMap ownV=[]) (h2:(pre++post).flatMap (refs 3)=[]):Yh C K f (pre++v::post) h=some (w,h):=by
 rw[List.flatMap_append,List.append_eq_nil_iff]at h1 h2;refine Zqv Zy9 hwb Xb (Zhv (Vs h1.1) ?_) (by cases pre<;>rfl) ?_ ?_ ?_
 .simp only [Vi,hA.inl,Vs h1.2]
 .rw [List.flatMap_append,List.flatMap_cons,h1.1,h1.2];simp
 .rw [List.flatMap_append,List.flatMap_cons,h2.1,h2.2];simp
 .rw [List.flatMap_append,List.flatMap_cons,h1.1,h1.2];rcases hA with⟨_,rfl⟩ | ⟨d,Zc,_,_,rfl,hg⟩
  .simp
  .simp [hg,can,hK,hw]
theorem Zyd {g g':Nat}{xs:List PV}(hg:g'≠g)(h:∀x∈xs,Yu g 13 x=true):Yu g 14 (.lst g' xs)=true:=by
 simp only[Yu,Bool.and_eq_true,Bool.not_eq_true',List.all_eq_true];exact⟨by rw[<- Bool.not_eq_true,Nat.beq_eq];exact hg,h⟩
theorem Z40 {C:Ctx}{K:Loc}{f:Nat}{args args':List PV}{h:PH}{v:PV}(hA:Xq C f args' v)(hvb:∀m,below m 4 v=true)(Xb:C.raw f=false)(hm:Vi (inlV h) args=some args')(Yp:args.isEmpty=false)
  (ho:args'.flatMap ownV=[]) (hr:args'.flatMap (refs 3)=[])
  (hids:(args.flatMap ownV).all (fun i=>can K i&&match h.get i with | some (_,.row _ _ _)=>true | _=>false)=true):Yh C K f args h=some (v,h)\/Yh C K f args h=some (v,h.freeze (args.flatMap ownV)):=by
 rcases Zqw hA hvb Xb hm Yp ho hr (by
  rw[List.all_eq_true]at hids ⊢;intro i hi;have:=hids i hi;simp only[Bool.and_eq_true]at this;exact this.1) with h1 | ⟨h1,_⟩
 .exact .inl h1
 .exact .inr h1
theorem Acc.callF {C:Ctx}{S:List Nat}{K:Loc}{h:PH}{g f:Nat}{v w:PV}{xs:List PV}(hA:Acc S K h g v xs)(hK:K.lo=K.base)(Xb:C.raw f=false)(pre post:List PV)(Zy9:Xq C f (pre++L g true xs::post) w)(hwb:∀m,below m 4 w=true)
  (h1:(pre++post).flatMap ownV=[]) (h2:(pre++post).flatMap (refs 3)=[]):∃h',Yh C K f (pre++v::post) h=some (w,h')/\h'.next=h.next/\∀j,(∀d∈S,j≠K.base+d)->h'.get j=h.get j:=by
 rw[List.flatMap_append,List.append_eq_nil_iff]at h1 h2
 have hids:(pre++v::post).flatMap ownV=ownV v:=by
  rw[List.flatMap_append,List.flatMap_cons,h1.1,h1.2];simp
 have hfz:(h.freeze (ownV v)).next=h.next/\∀j,(∀d∈S,j≠K.base+d)->(h.freeze (ownV v)).get j=h.get j:=by
  rcases hA with⟨_,rfl⟩ | ⟨d,Zc,_,hd,rfl,hg⟩
  .exact ⟨rfl,fun _ _=>rfl⟩
  .refine ⟨by simp[hg,PH.put],fun j hj=>?_⟩;simp[hg,PH.put,hj d hd]
 have key:Yh C K f (pre++v::post) h=some (w,h)\/Yh C K f (pre++v::post) h=some (w,h.freeze ((pre++v::post).flatMap ownV)):=by
  refine Z40 Zy9 hwb Xb (Zhv (Vs h1.1) ?_) (by cases pre<;>rfl) ?_ ?_ ?_
  .simp only [Vi,hA.inl,Vs h1.2]
  .rw [List.flatMap_append,List.flatMap_cons,h1.1,h1.2];simp
  .rw [List.flatMap_append,List.flatMap_cons,h2.1,h2.2];simp
  .rw [List.flatMap_append,List.flatMap_cons,h1.1,h1.2];rcases hA with⟨_,rfl⟩ | ⟨d,Zc,_,_,rfl,hg⟩
   .simp
   .simp [hg,can,hK]
 rcases key with key | key
 .exact ⟨h,key,rfl,fun _ _=>rfl⟩
 .rw [hids]at key;exact⟨_,key,hfz.1,hfz.2⟩
theorem Zlz {C:Ctx}{K:Loc}{f:Nat}{args:List PV}{h:PH}{fn:Func}{c:Code}{Q:PV×PH->Prop}(Ur:extP C f args=none)(hF:C.F f=some fn)(hb:fn.body=some c)(Xb:C.raw f=true)
  (hx:wp (Vt C {base:=h.next,lo:=K.lo,ok:=K.ok} true c (R1 0 args) {h with next:=h.next+fn.ntmps}) fun r=>(r.1=.normal\/r.1=.ret)/\wp (Ut C r.2.1 r.2.2 fn.results.toList) fun vs=>
    Q (Vh vs,if r.2.2.next=h.next+fn.ntmps/\Zid r.2.2 h.next r.2.2.next=true then {r.2.2 with next:=h.next} else r.2.2)):wp (Yh C K f args h) Q:=by
 obtain⟨⟨x,Y6,h2⟩,h1,h3,h4⟩:=X5.1 hx;obtain⟨vs,h5,h6⟩:=X5.1 h4;simp only at h5 h6;rw[Zis];unfold callF;rw[Ur];simp only[hF,hb,Xb,if_true];have h1':Vt C {base:=h.next,lo:=K.lo,ok:=K.ok} true c (R1 0 args) {next:=h.next+fn.ntmps,get:=h.get}=some (x,Y6,h2):=h1;simp only at h3;rcases h3 with h3 | h3
 all_goals
  subst h3;simp only[h1',h5];split at h6
  .rename_i hc;rw[if_pos hc];exact X5.2 ⟨_,rfl,h6⟩
  .rename_i hc;rw[if_neg hc];exact X5.2 ⟨_,rfl,h6⟩
theorem Z52 {C:Ctx}{K:Loc}{l Zc:Nat}{args:List PV}{h:PH}{K0:Loc}{Uc:Yt}{ps:List Nat}{as bd:Code}{Q:PV×PH->Prop}(hl:h.get l=some (Zc,.loop K0 Uc ps as bd))(hlen:ps.length=args.length)(Sh:Nat.ble K.lo K0.lo=true)(hok:K0.ok.all (can K)=true)
  (hx:wp (Vt C K0 false as (Zd1 Uc (ps.zip args)) (h.put l Zc .gone)) fun r1=>r1.1=.normal/\wp (Vt C K0 false bd r1.2.1 r1.2.2) fun r2=>r2.1=.normal/\r2.2.2.get l=some (Zc,.gone)/\Q (.bool true,r2.2.2.put l Zc (.loop K0 Uc ps as bd))):wp (Tw C K l Zc args h) Q:=by
 obtain⟨⟨x1,Qr,h1⟩,e1,rfl,hx2⟩:=X5.1 hx;obtain⟨⟨x2,sl2,h2⟩,e2,rfl,hg,hq⟩:=X5.1 hx2;simp only at e2 hg hq;refine X5.2 ⟨_,?_,hq⟩;rw[Z2g];unfold yieldF;rw[hl];simp only;rw[if_pos ⟨trivial,hlen,Sh,hok⟩,e1];simp only;rw[e2];simp only;rw[hg];simp only[if_true]
theorem Ztp {C:Ctx}{K:Loc}{f:Operand}{ps:Array Nat}{as bd:Code}{sl:Yt}{h:PH}{g:Nat}{first captured:List PV}{Q:Ex×Yt×PH->Prop}(hf:Yx sl f=some (.fn g first captured))(Xb:C.raw g=true)
  (hx:wp (Yh C K g (first++[.yield h.next 0]++captured) {h.put h.next 0 (.loop K sl ps.toList as bd) with next:=h.next+1}) fun r=>∃K1 s1 p1 a1 b1,r.2.get h.next=some (0,.loop K1 s1 p1 a1 b1)/\Q (.normal,sl,r.2.put h.next 0 .gone)):wp (Vt C K true (.rangeFunc f ps as bd) sl h) Q:=by
 obtain⟨⟨u,h'⟩,e1,K1,s1,p1,a1,b1,hg,hq⟩:=X5.1 hx;refine X5.2 ⟨_,?_,hq⟩;rw[Z4l,hf];simp only[Xb,if_true];rw[show Yh C K g (first++[.yield h.next 0]++captured) {next:=h.next+1,get:=(h.put h.next 0 (.loop K sl ps.toList as bd)).get}=some (u,h') from e1];simp only at hg;simp only[hg]
theorem Zg3 {C:Ctx}{K:Loc}{f:Nat}{args:List PV}{h:PH}{p a b va vb:Nat}{oa ob:PO}{fn:Func}{c:Code}{v:PV}(hF:C.F f=some fn)(hb:fn.body=some c)(Xb:C.raw f=false)(Zic:(C.ext f []).isNone=true)(ho:args.flatMap ownV=[])(hre:reach h 4 (args.flatMap (refs 3))=[p,a,b])
  (Zu:[p,a,b].all (fun i=>can K i&&(h.get i).isSome)=true) (hbp:h.belowAt h.next p=true)
  (hx:wp (Vt C {base:=h.next,lo:=h.next,ok:=[p,a,b]} true c (R1 0 args) {h with next:=h.next+fn.ntmps}) fun r=>(r.1=.normal\/r.1=.ret)/\wp (Ut C r.2.1 r.2.2 fn.results.toList) fun vs=>
    inlT r.2.2 (Vh vs)=some v/\ownT (Vh vs)=[]/\r.2.2.get p=h.get p/\r.2.2.get a=some (va,oa)/\r.2.2.get b=some (vb,ob)) (hv:below h.next 4 v=true) (hba:Wj h.next oa=true) (hbb:Wj h.next ob=true):
  Yh C K f args h=some (v,(h.put a va oa).put b vb ob):=by
 refine Zcm (Zci Zic Xb) hF hb Xb ho hre Zu (wp_mono hx fun r hr=>⟨hr.1,wp_mono hr.2 fun vs h6=>?_⟩);obtain⟨h6,h7,h8,h9,h10⟩:=h6
 have hbl:[p,a,b].all (fun i=>r.2.2.belowAt h.next i)=true:=by
  simp only[PH.belowAt]at hbp;simp only[List.all_cons,List.all_nil,Bool.and_true,PH.belowAt,h8,h9,h10,hba,hbb];exact hbp
 unfold Wq;rw[h6];simp only[h7,List.all_nil,if_true,PH.freeze,hv,hbl,Bool.and_self];cases hp:r.2.2.get p with
 |none=>simp only[Yf,hp,h9,h10]
 |some y=>
  obtain⟨Zc,o⟩:=y;simp only[Yf,hp,h9,h10];rw[show h.put p Zc o=h from Zum (by rw[<- h8];exact hp)]
def Own (h:PH)(g:Nat)(v:PV)(xs:List PV)(l:List Nat):Prop:=
 (xs=[]/\v=.nils/\l=[])\/∃i Zc,xs≠[]/\v=.own i Zc g 0 xs.length/\h.get i=some (Zc,.row g true xs)/\l=[i]
theorem Own.nil {h:PH}{g:Nat}:Own h g .nils [] []:=Or.inl ⟨rfl,rfl,rfl⟩
theorem Own.inlV {h:PH}{g:Nat}{v:PV}{xs:List PV}{l:List Nat}(hA:Own h g v xs l):Pure.inlV h v=some (L g true xs):=by
 rcases hA with⟨rfl,rfl,rfl⟩ | ⟨i,Zc,Yp,rfl,hg,rfl⟩
 .rfl
 .cases xs with
  |nil=>exact absurd rfl Yp
  |cons=>simp[Pure.inlV,Zee,PH.elems,PH.row,hg,L]
theorem Own.lenK {h:PH}{g e:Nat}{v:PV}{xs:List PV}{l:List Nat}(hA:Own h g v xs l):Pure.lenK (.slice e) v=some (.int .i64 xs.length):=by
 rcases hA with⟨rfl,rfl,rfl⟩ | ⟨i,Zc,Yp,rfl,hg,rfl⟩<;>rfl
theorem Own.same {h:PH}{g n:Nat}{v:PV}{xs:List PV}{l:List Nat}(hA:Own h g v xs l):W2 n v=true:=by
 rcases hA with⟨rfl,rfl,rfl⟩ | ⟨i,Zc,Yp,rfl,hg,rfl⟩<;>cases n<;>rfl
theorem Own.refs {h:PH}{g n:Nat}{v:PV}{xs:List PV}{l:List Nat}(hA:Own h g v xs l):Pure.refs n v=l:=by
 rcases hA with⟨rfl,rfl,rfl⟩ | ⟨i,Zc,Yp,rfl,hg,rfl⟩<;>cases n<;>rfl
theorem Own.ownV {h:PH}{g:Nat}{v:PV}{xs:List PV}{l:List Nat}(hA:Own h g v xs l):Pure.ownV v=l:=by
 rcases hA with⟨rfl,rfl,rfl⟩ | ⟨i,Zc,Yp,rfl,hg,rfl⟩<;>rfl
theorem Own.cells {h:PH}{g:Nat}{v:PV}{xs:List PV}{l:List Nat}(hA:Own h g v xs l):Zd v=[v]/\Wv v=true:=by
 rcases hA with⟨rfl,rfl,rfl⟩ | ⟨i,Zc,Yp,rfl,hg,rfl⟩<;>exact⟨rfl,rfl⟩
theorem Own.frame {h h':PH}{g:Nat}{v:PV}{xs:List PV}{l:List Nat}(hA:Own h g v xs l)(hf:∀i∈l,h'.get i=h.get i):Own h' g v xs l:=by
 rcases hA with h1 | ⟨i,Zc,Yp,e,hg,rfl⟩
 .exact Or.inl h1
 .exact Or.inr ⟨i,Zc,Yp,e,by rw[hf i (by simp),hg],rfl⟩
theorem Own.pos {h:PH}{g k:Nat}{v:PV}{α:Type}{f:α->PV}{xs:List α}{l:List Nat}(hA:Own h g v (xs.map f) l)(hk:k < xs.length):∃i Zc,v=.own i Zc g 0 xs.length/\h.get i=some (Zc,.row g true (xs.map f))/\l=[i]:=by
 rcases hA with⟨e,_⟩ | ⟨i,Zc,Yp,e,hg,rfl⟩
 .simp at e;subst e;simp at hk
 .rw [List.length_map]at e;exact⟨i,Zc,e,hg,rfl⟩
theorem Own.app {h:PH}{g:Nat}{v:PV}{xs ys:List PV}{l:List Nat}{K:Loc}{T:Ty}{dd:Nat}(hA:Own h g v xs l)(hK:∀i∈l,can K i=true)(h1:xs.length+ys.length<=1073741824)(h2:T.bytes<=65536)(h3:0 < T.size)(h4:ys≠[]):
  ∃v' h' l',Xk K h dd g T ys.length ys v=some (v',h')/\Own h' g v' (xs++ys) l'/\(l'=l\/l=[]/\l'=[K.base+dd])/\h'.next=h.next/\∀j,j∉l'->h'.get j=h.get j:=by
 have hl:ys.length≠0:=by
  cases ys with
  |nil=>exact absurd rfl h4
  |cons=>simp
 rcases hA with⟨rfl,rfl,rfl⟩ | ⟨i,Zc,Yp,rfl,hg,rfl⟩
 .refine ⟨_,_,[K.base+dd],Q2 (by omega) h2 h3 hl,Or.inr ⟨K.base+dd,h.stamp (K.base+dd),by simpa using h4,by simp,by simp,rfl⟩,Or.inr ⟨rfl,rfl⟩,rfl,fun j hj=>?_⟩;simp only[List.mem_singleton]at hj;simp[hj]
 .have hr:h.row i Zc g=some (true,xs):=by simp[PH.row,hg]
  refine⟨_,_,[i],((by rw[Qf,hr];rfl:Xk K h dd g T ys.length ys (.own i Zc g 0 xs.length)=Zw3 K h T g i Zc 0 xs.length ys.length ys (true,xs)).trans (Zlt h1 h2 h3 (hK i (by simp)) rfl (by simp))),.inr ⟨i,Zc+1,by simp[h4],by simp,by simp,rfl⟩,Or.inl rfl,rfl,fun j hj=>?_⟩;simp only[List.mem_singleton]at hj;simp[hj]
theorem Own.call {C:Ctx}{K:Loc}{h:PH}{g f:Nat}{v w:PV}{xs:List PV}{l:List Nat}(hA:Own h g v xs l)(hK:∀i∈l,can K i=true)(Xb:C.raw f=false)(pre post:List PV)(Zy9:Xq C f (pre++L g true xs::post) w)(hw:Zdd w=true)
  (h1:(pre++post).flatMap Pure.ownV=[]) (h2:(pre++post).flatMap (Pure.refs 3)=[]):Yh C K f (pre++v::post) h=some (w,h):=by
 rw[List.flatMap_append,List.append_eq_nil_iff]at h1 h2;refine Zoa Zy9 hw Xb (Zhv (Vs h1.1) ?_) (by cases pre<;>rfl) ?_ ?_ ?_
 .simp only [Vi,hA.inlV,Vs h1.2]
 .rw [List.flatMap_append,List.flatMap_cons,h1.1,h1.2];simp
 .rw [List.flatMap_append,List.flatMap_cons,h2.1,h2.2];simp
 .rw [List.flatMap_append,List.flatMap_cons,h1.1,h1.2];rcases hA with⟨_,rfl,_⟩ | ⟨i,Zc,_,rfl,hg,rfl⟩
  .simp
  .have hc:=hK i (by simp);simp at hc;simp[hg,hc]
theorem Znr {h3:PH}{j:Nat}(hs:(h3.get j).isSome=true):∀ {l:List Nat} {h:PH},j∈l->(Yf h3 l h).get j=h3.get j
 | [],h,hj=>by cases hj
 |i::r,h,hj=>by
  by_cases hr:j∈r
  .simp only [Yf];split<;>exact Znr hs hr
  .have hi:j=i:=by
    rcases List.mem_cons.1 hj with h1 | h1
    .exact h1
    .exact absurd h1 hr
   subst hi;simp only[Yf];split
   .rename_i Zc o hg;rw[U3 hr,hg];simp
   .rename_i hg;rw[hg]at hs;cases hs
theorem Ztr {C:Ctx}{K:Loc}{f:Nat}{args args':List PV}{h:PH}{ok:List Nat}{fn:Func}{c:Code}{v:PV}{R:PH->Prop}(hF:C.F f=some fn)(hb:fn.body=some c)(Xb:C.raw f=false)(Zic:(C.ext f []).isNone=true)(hm:Vi (inlV h) args=some args')(hre:reach h 4 (args'.flatMap (refs 3))=ok)
  (Zu:ok.all (fun i=>can K i&&(h.get i).isSome)=true) (hids:(args.flatMap ownV).all (can K)=true)
  (hx:wp (Vt C {base:=h.next,lo:=h.next,ok:=ok} true c (R1 0 args') {h.freeze (args.flatMap ownV) with next:=h.next+fn.ntmps}) fun r=>(r.1=.normal\/r.1=.ret)/\wp (Ut C r.2.1 r.2.2 fn.results.toList) fun vs=>
    inlT r.2.2 (Vh vs)=some v/\ownT (Vh vs)=[]/\below h.next 4 v=true/\((ok.all (fun i=>r.2.2.belowAt h.next i)=true/\R (Yf r.2.2 ok h)/\R (Yf r.2.2 ok (h.freeze (args.flatMap ownV))))\/(ok.any (fun i=>!(r.2.2.belowAt h.next i)&&h.belowAt h.next i)=true/\R r.2.2))):
  ∃h',Yh C K f args h=some (v,h')/\R h':=by
 obtain⟨r,h1,h3,h4⟩:=X5.1 hx;obtain⟨vs,h5,h6,h7,h8,h9⟩:=X5.1 h4
 have go:∀h',Wq h r.2.2 ok (args.flatMap ownV) (Vh vs)=some (v,h')->Yh C K f args h=some (v,h'):=fun h' hs=>
  (Ziq (Zci Zic Xb) Xb hm hre).2 ⟨fn,c,hF,hb,Zu,hids,X5.2 ⟨_,h1,h3,X5.2 ⟨vs,h5,hs⟩⟩⟩
 suffices hs:∃h',Wq h r.2.2 ok (args.flatMap ownV) (Vh vs)=some (v,h')/\R h' from hs.imp fun h' k=>⟨go h' k.1,k.2⟩
 unfold Wq;rw[h6];rcases h9 with⟨h9,h10,h11⟩ | ⟨h9,h10⟩
 .simp only [h7,PH.freeze,List.all_nil,if_true,h8,h9,Bool.and_self];split
  .exact ⟨_,rfl,h10⟩
  .exact ⟨_,rfl,h11⟩
 .refine ⟨_,?_,h10⟩
  have hn:ok.all (fun i=>r.2.2.belowAt h.next i)=false:=by
   rw[List.any_eq_true]at h9;obtain⟨i,hi,hh⟩:=h9;rw[List.all_eq_false];refine⟨i,hi,?_⟩;simp only[Bool.and_eq_true,Bool.not_eq_true']at hh;rw[hh.1];decide
  simp only[h7,PH.freeze,List.all_nil,if_true,h8,hn,Bool.and_false,Bool.false_eq_true,if_false,h9,Bool.or_true]
end Go.Pure
end
