/- Plain runs by rewriting. -/
import Derived.Test.YtabcdhcpilpojaaGreatDoorPE
set_option linter.unusedSimpArgs false
set_option linter.unusedVariables false
section
namespace Go.Pure
open Go
open Go.Virt (Ex Ctx Ty TK maxLenV Yc)
structure Tag {α:Type}(a:α):Type where
def wp {α:Type}(x:Option α)(Q:α->Prop)(_t:Tag Q:=⟨⟩):Prop:=match x with | some a=>Q a | none=>False
@[simp] theorem Zr1 {α:Type}{a:α}{Q:α->Prop}{t:Tag Q}:wp (some a) Q t=Q a:=rfl
@[simp] theorem Zada {α:Type}{Q:α->Prop}{t:Tag Q}:wp (none:Option α) Q t=False:=rfl
theorem wp_mono {α:Type}{x:Option α}{Q R:α->Prop}(h:wp x Q)(hq:∀a,Q a->R a):wp x R:=by
 cases x with
 |none=>exact h
 |some a=>exact hq a h
theorem X8 {α:Type}{x:Option α}{Q:α->Prop}:wp x Q↔∃a,x=some a/\Q a:=by
 cases x with
 |none=>simp
 |some a=>simp
def bO {α β:Type}(x:Option α)(f:α->Option β)(_t:Tag f:=⟨⟩):Option β:=match x with | some a=>f a | none=>none
@[simp] theorem Xx {α β:Type}{a:α}{f:α->Option β}{t:Tag f}:bO (some a) f t=f a:=rfl
@[simp] theorem Z2j {α β:Type}{f:α->Option β}{t:Tag f}:bO none f t=none:=rfl
@[simp] theorem Za1x {α β:Type}{x:Option α}{f:α->Option β}{t:Tag f}{Q:β->Prop}{u:Tag Q}:wp (bO x f t) Q u=wp x fun a=>wp (f a) Q:=by cases x<;>rfl
@[simp] theorem Zajl {α β:Type}{x:Option α}{f:α->β}{Q:β->Prop}{u:Tag Q}:wp (x.map f) Q u=wp x fun a=>Q (f a):=by cases x<;>rfl
@[simp] theorem Zau6 {α β:Type}{x:Option α}{f:α->Option β}{Q:β->Prop}{u:Tag Q}:wp (x.bind f) Q u=wp x fun a=>wp (f a) Q:=by cases x<;>rfl
def ifB (b:Bool)(A B:Prop)(_t:Tag A:=⟨⟩)(_u:Tag B:=⟨⟩):Prop:=if b=true then A else B
@[simp] theorem Zv7 {A B:Prop}{t:Tag A}{u:Tag B}:ifB true A B t u=A:=rfl
@[simp] theorem Z31 {A B:Prop}{t:Tag A}{u:Tag B}:ifB false A B t u=B:=rfl
theorem Zch {b:Bool}{A B:Prop}{t:Tag A}{u:Tag B}(h1:b=true->A)(h2:b=false->B):ifB b A B t u:=by
 cases b with
 |true=>exact h1 rfl
 |false=>exact h2 rfl
@[simp] theorem Zavq {b:Bool}{A B:Prop}{t:Tag A}{u:Tag B}:ifB (!b) A B t u=ifB b B A u t:=by cases b<;>rfl
@[simp] theorem put_get (sl:Yt)(d t:Nat)(v:PV):(sl.put d v) t=if t=d then some v else sl t:=rfl
@[simp] theorem Zapz (args:List PV)(t:Nat):Qn 0 args t=args[t]?:=by simp[Qn]
@[simp] theorem Zaon (sl Yv:Yt)(t:Nat):Zdp sl Yv t=bO (sl t) fun _=>Yv t:=by unfold Zdp bO;cases sl t<;>rfl
@[simp] theorem Zgt (h:PH)(i ver:Nat)(o:PO)(j:Nat):(h.put i ver o).get j=if j=i then some (ver,o) else h.get j:=rfl
@[simp] theorem Zahy (h:PH)(i ver:Nat)(o:PO):(h.put i ver o).next=h.next:=rfl
@[simp] theorem Zan8 {sl:Yt}{n:Nat}{v:PV}:putP sl (some n) v=sl.put n v:=rfl
@[simp] theorem Zan9 {sl:Yt}{v:PV}:putP sl none v=sl:=rfl
@[simp] theorem Zaqz {sl:Yt}{t:Nat}:Yu sl (.tmp t)=sl t:=rfl
@[simp] theorem Zaog {sl:Yt}{f:Nat}:Yu sl (.func f)=some (.fn f [] []):=rfl
@[simp] theorem Zaq1 {sl:Yt}{k:IntKind}{n:Int}:Yu sl (.const (.int k n))=some (.int k n):=rfl
@[simp] theorem Zaoh {sl:Yt}{b:Bool}:Yu sl (.const (.bool b))=some (.bool b):=rfl
@[simp] theorem Zaq0 {sl:Yt}{b:ByteArray}:Yu sl (.const (.string b))=some (.str (b.data.toList.map UInt8.toNat)):=rfl
@[simp] theorem Zaob {sl:Yt}:Yu sl (.const (.slice none 0 0))=some .nils:=rfl
@[simp] theorem Zaoc {sl:Yt}:Yu sl (.const (.pointer none))=some .nilp:=rfl
@[simp] theorem Zaod {sl:Yt}:Yu sl (.const (.map none))=some .nilm:=rfl
@[simp] theorem Zaof {sl:Yt}:Yu sl (.const .nilFunc)=some .nilf:=rfl
@[simp] theorem Zaoe {sl:Yt}:Yu sl (.const .nilIface)=some .nili:=rfl
@[simp] theorem Zaq2 {sl:Yt}{cs:Array Value}:Yu sl (.const (.agg cs))=(Zy.go 2 cs.toList).map .agg:=rfl
@[simp] theorem Za1h {n:Nat}:Zy.go n []=some []:=by simp only[Zy.go]
@[simp] theorem Zawx {n:Nat}{v:Value}{r:List Value}:Zy.go n (v::r)=bO (Zy n v) fun p=>bO (Zy.go n r) fun ps=>some (p::ps):=by
 simp only[Zy.go];cases Zy n v<;>cases Zy.go n r<;>rfl
@[simp] theorem Zaxg {n:Nat}{k:IntKind}{i:Int}:Zy n (.int k i)=some (.int k i):=by cases n<;>rfl
@[simp] theorem Zavl {n:Nat}{b:Bool}:Zy n (.bool b)=some (.bool b):=by cases n<;>rfl
@[simp] theorem Zaxf {n:Nat}{b:ByteArray}:Zy n (.string b)=some (.str (b.data.toList.map UInt8.toNat)):=by cases n<;>rfl
@[simp] theorem Zavg {n:Nat}:Zy n (.slice none 0 0)=some .nils:=by cases n<;>rfl
@[simp] theorem Zavh {n:Nat}:Zy n (.pointer none)=some .nilp:=by cases n<;>rfl
@[simp] theorem Zavi {n:Nat}:Zy n (.map none)=some .nilm:=by cases n<;>rfl
@[simp] theorem Zavk {n:Nat}:Zy n .nilFunc=some .nilf:=by cases n<;>rfl
@[simp] theorem Zavj {n:Nat}:Zy n .nilIface=some .nili:=by cases n<;>rfl
@[simp] theorem Zaj1 {l:List Value}:Zbh l=Zy.go 0 l:=rfl
@[simp] theorem Zjw {sl:Yt}:W9 sl []=some []:=rfl
@[simp] theorem Zat {sl:Yt}{x:Operand}{r:List Operand}:W9 sl (x::r)=bO (Yu sl x) fun v=>bO (W9 sl r) fun vs=>some (v::vs):=by
 simp only[W9];cases Yu sl x<;>cases W9 sl r<;>rfl
@[simp] theorem Zaj2 {sl:Yt}:U1 sl []=some []:=rfl
@[simp] theorem Zku {sl:Yt}{i:Nat}{x:Operand}{r:List (Nat×Operand)}:U1 sl ((i,x)::r)=bO (Yu sl x) fun v=>bO (U1 sl r) fun vs=>some ((i,v)::vs):=by
 simp only[U1];cases Yu sl x<;>cases U1 sl r<;>rfl
section
variable {C:Ctx}{K:Loc}{Xt:Bool}{sl:Yt}{h:PH}{Q:Ex×Yt×PH->Prop}
@[simp] theorem wp_seq {a b:Code}:wp (Vu C K Xt (.seq a b) sl h) Q=wp (Vu C K Xt a sl h) fun r=>match r with
  | (.normal,sl,h)=>wp (Vu C K Xt b sl h) Q
  |r=>Q r:=by
 rw[Zaff];cases Vu C K Xt a sl h with
 |none=>rfl
 |some r=>
  obtain⟨x,Yv,h'⟩:=r;cases x<;>rfl
@[simp] theorem wp_cond {c:Operand}{a b:Code}:wp (Vu C K Xt (.cond c a b) sl h) Q=wp (Yu sl c) fun v=>match v with
  | .bool x=>ifB x (wp (Vu C K Xt a sl h) Q) (wp (Vu C K Xt b sl h) Q)
  | _=>False:=by
 rw[Zaai];cases Yu sl c with
 |none=>rfl
 |some v=>
  cases v with
  |bool x=>cases x<;>rfl
  | _=>rfl
@[simp] theorem wp_block {id:Nat}{b:Code}:wp (Vu C K Xt (.block id b) sl h) Q=wp (Vu C K Xt b sl h) fun r=>match r with
  | (.exit id',sl,h)=>if id'=id then Q (.normal,sl,h) else Q (.exit id',sl,h)
  |r=>Q r:=by
 rw[Z5a];cases Vu C K Xt b sl h with
 |none=>rfl
 |some r=>
  obtain⟨x,Yv,h'⟩:=r;cases x with
  |exit id'=>simp only[Zaa5,Zr1];split<;>rfl
  | _=>rfl
theorem wp_loop {b:Code}:wp (Vu C K Xt (.loop b) sl h) Q=wp (Vu C K Xt b sl h) fun r=>match r with
  | (.normal,Yv,h')=>wp (Vu C K Xt (.loop b) (Zdp sl Yv) h') Q
  |r=>Q r:=by
 rw[Zaaf];cases Vu C K Xt b sl h with
 |none=>rfl
 |some r=>
  obtain⟨x,Yv,h'⟩:=r;cases x<;>rfl
@[simp] theorem wp_skip {t0:Tag Q}:wp (Vu C K Xt .skip sl h) Q t0=Q (.normal,sl,h):=by rw[Zaae];rfl
@[simp] theorem wp_exit {id:Nat}:wp (Vu C K Xt (.exit id) sl h) Q=Q (.exit id,sl,h):=by rw[Zaag];rfl
@[simp] theorem wp_ret {t0:Tag Q}:wp (Vu C K Xt .ret sl h) Q t0=Q (.ret,sl,h):=by rw[Zafg];rfl
@[simp] theorem wp_region {id:Nat}{ops:Array Oper}:wp (Vu C K Xt (.region id ops false) sl h) Q=wp (Za7 C (Yf C) (Sa C) K ops.toList ops.toList sl h) fun p=>Q (.normal,p.1,p.2):=by
 rw[Z0d,Zajl]
end
section
variable {C:Ctx}{cf:CF}{yf:YF}{K:Loc}{all:List Oper}{sl:Yt}{h:PH}{d:Option Nat}{t:TypeId}{pos:String}{af:Array Edge}{gd:Option (Nat×Bool)}
@[simp] theorem Zajk {Q:Yt×PH->Prop}:wp (Za7 C cf yf K all [] sl h) Q=Q (sl,h):=rfl
@[simp] theorem Zahk {o:Oper}{r:List Oper}{Q:Yt×PH->Prop}:wp (Za7 C cf yf K all (o::r) sl h) Q =
  wp (Vx all sl o) fun w=>ifB w (wp (opP C cf yf all K sl h o) fun p=>wp (Za7 C cf yf K all r (putP sl o.dst p.1) p.2) Q) (wp (Za7 C cf yf K all r (putP sl o.dst (.tuple [])) h) Q):=by
 simp only[Za7];cases Vx all sl o with
 |none=>rfl
 |some w=>
  cases w with
  |true=>cases opP C cf yf all K sl h o<;>rfl
  |false=>rfl
@[simp] theorem Zahn {op:Op}:Vx all sl ⟨d,op,t,pos,af,none⟩=some true:=rfl
@[simp] theorem Zahm {op:Op}{j:Nat}{want:Bool}:Vx all sl ⟨d,op,t,pos,af,some (j,want)⟩=(match (all[j]?).bind (·.dst) with
  |some d=>bO (sl d) fun v=>match v with | .bool b=>some (b==want) | _=>some false
  |none=>some false):=by
 simp only[Vx];cases hb:(all[j]?).bind (·.dst) with
 |none=>rfl
 |some d=>
  simp only;cases hs:sl d with
  |none=>rfl
  |some v=>cases v<;>rfl
end
attribute [simp low] Yk.eq_1 V5.eq_1 Zf.eq_1
section
variable {C:Ctx}{op:BinOp}{t:Nat}
@[simp] theorem Zau0 {k k':IntKind}{a b:Int}:Zcx C op t (.int k a) (.int k' b)=Ri op k k' a b:=rfl
@[simp] theorem Zauz {a b:List Nat}:Zcx C op t (.str a) (.str b)=Zpd op a b:=rfl
@[simp] theorem Zac3 {a b:Bool}:Zcx C .eql t (.bool a) (.bool b)=(eqP C t (.bool a) (.bool b)).map .bool:=rfl
@[simp] theorem Zac0 {a b:Bool}:Zcx C .neq t (.bool a) (.bool b)=(eqP C t (.bool a) (.bool b)).map fun b=>.bool (!b):=rfl
@[simp] theorem Zac2 {y:PV}:Zcx C .eql t .nilp y=(eqP C t .nilp y).map .bool:=rfl
@[simp] theorem Zacz {y:PV}:Zcx C .neq t .nilp y=(eqP C t .nilp y).map fun b=>.bool (!b):=rfl
@[simp] theorem Zaf0 {i v o:Nat}{y:PV}:Zcx C .eql t (.ptr i v o) y=(eqP C t (.ptr i v o) y).map .bool:=rfl
@[simp] theorem Zafx {i v o:Nat}{y:PV}:Zcx C .neq t (.ptr i v o) y=(eqP C t (.ptr i v o) y).map fun b=>.bool (!b):=rfl
@[simp] theorem Zac1 {cs:List PV}{y:PV}:Zcx C .eql t (.rptr cs) y=(eqP C t (.rptr cs) y).map .bool:=rfl
@[simp] theorem Zacx {cs:List PV}{y:PV}:Zcx C .neq t (.rptr cs) y=(eqP C t (.rptr cs) y).map fun b=>.bool (!b):=rfl
@[simp] theorem Zp2 {y:PV}:Zcx C .eql t .nils y=(eqP C t .nils y).map .bool:=rfl
@[simp] theorem Zacy {y:PV}:Zcx C .neq t .nils y=(eqP C t .nils y).map fun b=>.bool (!b):=rfl
@[simp] theorem Zti {g:Nat}{xs:List PV}{y:PV}:Zcx C .eql t (.lst g xs) y=(eqP C t (.lst g xs) y).map .bool:=rfl
@[simp] theorem Zafz {g:Nat}{xs:List PV}{y:PV}:Zcx C .neq t (.lst g xs) y=(eqP C t (.lst g xs) y).map fun b=>.bool (!b):=rfl
@[simp] theorem Zaf1 {i v g o n:Nat}{y:PV}:Zcx C .eql t (.own i v g o n) y=(eqP C t (.own i v g o n) y).map .bool:=rfl
@[simp] theorem Zafy {i v g o n:Nat}{y:PV}:Zcx C .neq t (.own i v g o n) y=(eqP C t (.own i v g o n) y).map fun b=>.bool (!b):=rfl
end
attribute [simp] Mk.obj Mk.val toP Go.Virt.TK.agg Vb Ur Q6 Vp Zsl Zll unP
attribute [simp] Zc.eq_1 Zc.eq_2 Wx.eq_1 Wx.eq_2 Wx.eq_3 Z3y.eq_1 Z3y.eq_2 Z3y.eq_3 Z3y.eq_4 Z3y.eq_5
@[simp] theorem Zaqu {cs:List PV}{off n:Nat}:X3 cs off n=if off+n<=cs.length then some ((cs.drop off).take n) else none:=rfl
@[simp] theorem Zap0 {ty:Ty}:Zah ty=(Zbh ty.zero).bind (toP ty.k.agg):=rfl
def opF (x:Option PV)(Q:PV->Prop)(R:Prop)(_t:Tag Q:=⟨⟩)(_u:Tag R:=⟨⟩):Prop:=match x with | some v=>Q v | none=>R
@[simp] theorem Z7h {v:PV}{Q:PV->Prop}{R:Prop}{t:Tag Q}{u:Tag R}:opF (some v) Q R t u=Q v:=rfl
@[simp] theorem Zvp {Q:PV->Prop}{R:Prop}{t:Tag Q}{u:Tag R}:opF none Q R t u=R:=rfl
def opM (x:Option Mk)(Q:Mk->Prop)(R:Prop)(_t:Tag Q:=⟨⟩)(_u:Tag R:=⟨⟩):Prop:=match x with | some v=>Q v | none=>R
@[simp] theorem Zvo {v:Mk}{Q:Mk->Prop}{R:Prop}{t:Tag Q}{u:Tag R}:opM (some v) Q R t u=Q v:=rfl
@[simp] theorem Z7g {Q:Mk->Prop}{R:Prop}{t:Tag Q}{u:Tag R}:opM none Q R t u=R:=rfl
section
variable {C:Ctx}{cf:CF}{yf:YF}{K:Loc}{all:List Oper}{sl:Yt}{h:PH}{o:Oper}
@[simp] theorem Za1w {Q:PV×PH->Prop}:wp (opP C cf yf all K sl h o) Q=opF (Yk C sl o) (fun v=>Q (v,h)) (opM (V5 C all sl o)
   (fun m=>match m.obj,o.dst with
     |none,_=>Q (m.val 0 0,h)
     |some ob,some d=>Q (m.val (K.base+d) (h.stamp (K.base+d)),h.put (K.base+d) (h.stamp (K.base+d)) ob)
     |some _,none=>False)
   (wp (Zf C cf yf all K sl h o) Q)):=by
 unfold opP;cases Yk C sl o with
 |some v=>rfl
 |none=>
  cases V5 C all sl o with
  |none=>rfl
  |some m=>
   simp only[Zvp,Zvo];cases m.obj with
   |none=>rfl
   |some ob=>cases o.dst<;>rfl
end
section
variable {C:Ctx}{sl:Yt}{h:PH}
@[simp] theorem Zaqr:Uz C sl h []=some []:=rfl
@[simp] theorem Zaqq {t:Nat}{r:List ResultVar}:Uz C sl h (.tmp t::r)=bO (sl t) fun v=>bO (Uz C sl h r) fun vs=>some (v::vs):=by
 simp only[Uz];cases sl t<;>cases Uz C sl h r<;>rfl
attribute [simp] inlT.eq_1 inlT.eq_2 inlV.eq_1 inlV.eq_2 Zc9.eq_1 Zc9.eq_2 ownT.eq_1 ownT.eq_2 ownV.eq_1 ownV.eq_2 Zc7.eq_1 Zc7.eq_2 Vq W2 refs below extP plain Zrh PH.elems PH.row PH.freeze can Znj Zf.bytesP
@[simp] theorem Z3v {α β:Type}{f:α->Option β}{x:α}{r:List α}:W2 f (x::r)=bO (f x) fun y=>bO (W2 f r) fun ys=>some (y::ys):=by
 simp only[W2];cases f x<;>cases W2 f r<;>rfl
end
section
variable {sl:Yt}
attribute [simp] S8
end
@[simp] theorem Zakg {t:Nat}:Virt.litNil (.tmp t)=false:=rfl
@[simp] theorem Zaca {t:Nat}:Virt.litNil (.global t)=false:=rfl
@[simp] theorem Zah4 {t:Nat}:Virt.litNil (.func t)=false:=rfl
@[simp] theorem Zah5 {b:Bool}:Virt.litNil (.const (.bool b))=false:=rfl
@[simp] theorem Zakl {k:IntKind}{n:Int}:Virt.litNil (.const (.int k n))=false:=rfl
@[simp] theorem Zakh {b:ByteArray}:Virt.litNil (.const (.string b))=false:=rfl
@[simp] theorem Zaki {a:Option Addr}:Virt.litNil (.const (.pointer a))=false:=rfl
@[simp] theorem Zad6 {a:Option Addr}{n m:Nat}:Virt.litNil (.const (.slice a n m))=false:=rfl
@[simp] theorem Zakk {a:Option Nat}:Virt.litNil (.const (.map a))=false:=rfl
@[simp] theorem Z7x:Virt.litNil (.const .nilFunc)=false:=rfl
@[simp] theorem Zakj:Virt.litNil (.const .nilIface)=true:=rfl
attribute [simp] Zvu Virt.ifaceK
theorem Zcs {C:Ctx}{f:Nat}{args:List PV}(U3:(C.ext f []).isNone=true)(Y4:C.raw f=false):extP C f args=none:=by
 unfold extP;split
 .cases e:C.ext f []with
  |none=>rfl
  |some v=>rw[e]at U3;cases U3
 .rw [Y4];rfl
 .rfl
theorem Z2d {C:Ctx}{f:Nat}{args:List PV}(Yn:args.isEmpty=false)(Y4:C.raw f=false):extP C f args=none:=by
 unfold extP;split
 .cases Yn
 .rw [Y4];rfl
 .rfl
theorem Wy {h:PH}:∀ {args:List PV},args.flatMap ownV=[]->W2 (inlV h) args=some args:=by
 have Zwe:∀a,ownV a=[]->inlV h a=some a:=by
  intro a ha
  have hc:∀cs:List PV,cs.flatMap Zc7=[]->W2 (Zc9 h) cs=some cs:=by
   intro cs
   induction cs with
   |nil=>intro _;rfl
   |cons c cs ih=>
    intro hh;rw[List.flatMap_cons,List.append_eq_nil_iff]at hh;simp only[W2,ih hh.2];cases c<;>simp_all[Zc7,Zc9]
  cases a with
  |agg cs=>simp only[inlV];rw[hc cs ha];rfl
  |own=>simp[ownV,Zc7]at ha
  | _=>rfl
 intro args
 induction args with
 |nil=>intro _;rfl
 |cons a l ih=>
  intro ho;rw[List.flatMap_cons,List.append_eq_nil_iff]at ho;simp only[W2,Zwe a ho.1,ih ho.2]
theorem Zeh {h:PH}{a b a' b':List PV}(e1:W2 (inlV h) a=some a')(e2:W2 (inlV h) b=some b'):W2 (inlV h) (a++b)=some (a'++b'):=by
 induction a generalizing a' with
 |nil=>simp only[W2,Option.some.injEq]at e1;subst e1;exact e2
 |cons x a ih=>
  simp only[W2]at e1;simp only[List.cons_append,W2];split at e1
  .rename_i y ys hy hys;cases e1;rw[hy,ih hys];rfl
  .cases e1
theorem Zi7 {C:Ctx}{K:Loc}{f:Nat}{args args':List PV}{h:PH}{ok:List Nat}{w:PV×PH}(U3:extP C f args=none)(Y4:C.raw f=false)(hm:W2 (inlV h) args=some args')(hre:reach h 4 (args'.flatMap (refs 3))=ok):
  Yf C K f args h=some w↔∃fn c,C.F f=some fn/\fn.body=some c/\ok.all (fun i=>can K i&&(h.get i).isSome)=true/\(args.flatMap ownV).all (can K)=true /\
   wp (Vu C {base:=h.next,lo:=h.next,ok:=ok} true c (Qn 0 args') {h.freeze (args.flatMap ownV) with next:=h.next+fn.ntmps}) fun r=>(r.1=.normal\/r.1=.ret)/\wp (Uz C r.2.1 r.2.2 fn.results.toList) fun vs=>Wo h r.2.2 ok (args.flatMap ownV) (Vq vs)=some w:=by
 rw[Zi9];unfold callF;simp only[U3,Y4,hm,hre,Bool.false_eq_true,if_false];cases C.F f with
 |none=>simp
 |some fn=>
  cases hb:fn.body with
  |none=>simp[hb]
  |some c=>
   simp only[Option.some.injEq,exists_and_left,exists_eq_left',hb];by_cases hc:(ok.all (fun i=>can K i&&(h.get i).isSome)&&(args.flatMap ownV).all (can K))=true
   .rw [if_pos hc];rw[Bool.and_eq_true]at hc;simp only[hc.1,hc.2,true_and];cases hx:Vu C {base:=h.next,lo:=h.next,ok:=ok} true c (Qn 0 args') {next:=h.next+fn.ntmps,get:=(h.freeze (args.flatMap ownV)).get} with
    |none=>simp
    |some r=>
     obtain⟨x,Yv,h2⟩:=r;cases x with
     |exit=>simp
     |normal=>cases hr:Uz C Yv h2 fn.results.toList<;>simp[hr]
     |ret=>cases hr:Uz C Yv h2 fn.results.toList<;>simp[hr]
   .rw [if_neg hc];rw[Bool.and_eq_true]at hc;exact⟨fun e=>(by cases e),fun e=>absurd ⟨e.1,e.2.1⟩ hc⟩
theorem Zcw {C:Ctx}{K:Loc}{f:Nat}{args:List PV}{h:PH}{ok:List Nat}{fn:Func}{c:Code}{w:PV×PH}(U3:extP C f args=none)(hF:C.F f=some fn)(hb:fn.body=some c)(Y4:C.raw f=false)(ho:args.flatMap ownV=[])(hre:reach h 4 (args.flatMap (refs 3))=ok)
  (Zz:ok.all (fun i=>can K i&&(h.get i).isSome)=true)
  (hx:wp (Vu C {base:=h.next,lo:=h.next,ok:=ok} true c (Qn 0 args) {h with next:=h.next+fn.ntmps}) fun r=>(r.1=.normal\/r.1=.ret)/\wp (Uz C r.2.1 r.2.2 fn.results.toList) fun vs=>Wo h r.2.2 ok [] (Vq vs)=some w):
  Yf C K f args h=some w:=(Zi7 U3 Y4 (Wy ho) hre).2 ⟨fn,c,hF,hb,Zz,by rw[ho];rfl,by rw[ho];exact hx⟩
theorem Zhi {C:Ctx}{K:Loc}{f:Nat}{args:List PV}{h:PH}{fn:Func}{c:Code}{v:PV}(Zis:(C.ext f []).isNone=true)(hF:C.F f=some fn)(hb:fn.body=some c)(Y4:C.raw f=false)(ho:args.flatMap ownV=[])(hr:args.flatMap (refs 3)=[])
  (hx:wp (Vu C {base:=h.next,lo:=h.next,ok:=[]} true c (Qn 0 args) {h with next:=h.next+fn.ntmps}) fun r=>(r.1=.normal\/r.1=.ret)/\wp (Uz C r.2.1 r.2.2 fn.results.toList) fun vs=>
    inlT r.2.2 (Vq vs)=some v/\(ownT (Vq vs)).all (fun i=>Nat.ble h.next i)=true) (hv:below h.next 4 v=true):Yf C K f args h=some (v,h):=
 Zcw (Zcs Zis Y4) hF hb Y4 ho (by rw[hr];rfl) rfl (wp_mono hx fun r hr=>⟨hr.1,wp_mono hr.2 fun vs h6=>by
  unfold Wo;rw[h6.1];simp only[List.any_nil,Bool.or_false,h6.2,hv,List.all_nil,Bool.and_true,if_true,Yd]⟩)
theorem Zva {h:PH}{ids:List Nat}(i:Nat):(match (h.freeze ids).get i with | some (_,o)=>refsO o | none=>[])=match h.get i with | some (_,o)=>refsO o | none=>[]:=by
 rw[Y7];cases h.get i with
 |none=>rfl
 |some x=>
  obtain⟨v,o⟩:=x;cases o<;>first | rfl | (by_cases hi:i∈ids<;>simp only[hi,if_true,if_false]<;>rfl)
theorem Zhy {h:PH}{ids:List Nat}:∀ {n:Nat} {l:List Nat},reach (h.freeze ids) n l=reach h n l
 | 0,l=>by cases l<;>rfl
 |n+1,[]=>rfl
 |n+1,a::l=>by
  simp only[reach];rw[Zhy];congr 3;funext i;exact Zva i
theorem Zrs {C:Ctx}{K:Loc}{f:Nat}{args args':List PV}{h H':PH}{v:PV}{ok:List Nat}(hC:Yf C K f args' (h.freeze (args.flatMap ownV))=some (v,H'))(U3:extP C f args=none)(Z9j:extP C f args'=none)(Y4:C.raw f=false)(hm:W2 (inlV h) args=some args')
  (ho:args'.flatMap ownV=[]) (hre:reach h 4 (args'.flatMap (refs 3))=ok) (hids:(args.flatMap ownV).all (can K)=true) (hvb:below h.next 4 v=true) (hbo:ok.all (fun i=>H'.belowAt h.next i)=true):
  ∃h3,H'=Yd h3 ok (h.freeze (args.flatMap ownV))/\(Yf C K f args h=some (v,Yd h3 ok h)\/Yf C K f args h=some (v,H')/\¬ (args.flatMap ownV).all (fun i=>!(ok.any (Nat.beq i))&&(match h.get i with
   |some (_,.row g true _)=>Yo g 14 v&&ok.all (fun j=>match h3.get j with | some (_,o)=>Ry g o | none=>true)
   |some (_,.row _ false _)=>true
   | _=>false))=true):=by
 obtain⟨fn,c,hF,hb,Zz,_,hx⟩:=(Zi7 (ok:=ok) Z9j Y4 (Wy ho) (by rw[Zhy];exact hre)).1 hC;obtain⟨⟨x,Yv,h2⟩,h1,h3,h4⟩:=X8.1 hx;obtain⟨vs,h5,h6⟩:=X8.1 h4;rw[ho]at h1 h6;rw[Xm]at h1;simp only at h5 h6
 have key:∃h3,H'=Yd h3 ok (h.freeze (args.flatMap ownV))/\(Wo h h2 ok (args.flatMap ownV) (Vq vs)=some (v,Yd h3 ok h)\/Wo h h2 ok (args.flatMap ownV) (Vq vs)=some (v,H')/\¬ (args.flatMap ownV).all (fun i=>!(ok.any (Nat.beq i))&&(match h.get i with
   |some (_,.row g true _)=>Yo g 14 v&&ok.all (fun j=>match h3.get j with | some (_,o)=>Ry g o | none=>true)
   |some (_,.row _ false _)=>true
   | _=>false))=true):=by
  unfold Wo at h6 ⊢;cases hi:inlT h2 (Vq vs) with
  |none=>rw[hi]at h6;cases h6
  |some v'=>
   rw[hi]at h6;simp only[Xm,List.all_nil,if_true]at h6 ⊢;split at h6
   .split at h6
    .rename_i h7 h8;simp only[Option.some.injEq,Prod.mk.injEq]at h6;obtain⟨rfl,rfl⟩:=h6;refine⟨h2.freeze (ownT (Vq vs)),rfl,?_⟩;rw[if_pos h7,if_pos h8];split
     .exact .inl rfl
     .rename_i h9;exact .inr ⟨rfl,h9⟩
    .rename_i h7 h8;exfalso;split at h6
     .simp only [Option.some.injEq,Prod.mk.injEq]at h6;obtain⟨rfl,rfl⟩:=h6;exact h8 (by rw[hvb,hbo];rfl)
     .cases h6
   .cases h6
 obtain⟨g3,e,key⟩:=key;refine⟨g3,e,?_⟩
 have go:∀w,Wo h h2 ok (args.flatMap ownV) (Vq vs)=some w->Yf C K f args h=some w:=fun w hw=>by
  refine (Zi7 U3 Y4 hm hre).2 ⟨fn,c,hF,hb,?_,hids,X8.2 ⟨_,h1,h3,X8.2 ⟨vs,h5,hw⟩⟩⟩;rw[List.all_eq_true]at Zz ⊢;intro i hi;have:=Zz i hi;rw[Y7]at this;split at this
  .rename_i hh;rw[hh];split at this<;>exact this
  .exact this
 rcases key with k | ⟨k,n⟩
 .exact .inl (go _ k)
 .exact .inr ⟨go _ k,n⟩
end Go.Pure
end
section
namespace Go.Pure
open Go
open Go.Virt (Ex Ctx Ty TK)
theorem Zul {C:Ctx}{K:Loc}{Xt:Bool}{b:Code}{Q:Ex×Yt×PH->Prop}(I:Nat->Yt->PH->Prop)
  (step:∀n sl h,I n sl h->wp (Vu C K Xt b sl h) fun r=>match r with | (.normal,Yv,h')=>∃m,m < n/\I m (Zdp sl Yv) h' | r=>Q r):
  ∀n sl h,I n sl h->wp (Vu C K Xt (.loop b) sl h) Q:=by
 intro n
 induction n using Nat.strongRecOn with
 | _ n ih=>
   intro sl h hi;rw[wp_loop];refine wp_mono (step n sl h hi) ?_;rintro⟨x,Yv,h'⟩ hq;cases x with
   |normal=>obtain⟨m,hm,hI⟩:=hq;exact ih m hm _ _ hI
   |exit id=>exact hq
   |ret=>exact hq
structure Hide (p:Prop):Prop where
 get:p
theorem Zuj {n:Int}(h1 : -9223372036854775808<=n)(h2:n < 9223372036854775808):IntKind.i64.wrap n=n:=by
 simp only[IntKind.wrap,IntKind.bits,IntKind.signed,Bool.true_and,decide_eq_true_eq,ge_iff_le];split<;>omega
theorem Zac8 {n:Int}(h1:0<=n)(h2:n < 256):IntKind.u8.wrap n=n:=by
 simp only[IntKind.wrap,IntKind.bits,IntKind.signed,Bool.false_and,Bool.false_eq_true,if_false];omega
theorem Z6h {n:Int}:0<=IntKind.u64.wrap n/\IntKind.u64.wrap n < 18446744073709551616:=by
 simp only[IntKind.wrap,IntKind.bits,IntKind.signed,Bool.false_and,Bool.false_eq_true,if_false];omega
theorem Zp7 {n:Int}(h1:0<=n)(h2:n < 18446744073709551616):IntKind.u64.wrap n=n:=by
 simp only[IntKind.wrap,IntKind.bits,IntKind.signed,Bool.false_and,Bool.false_eq_true,if_false];omega
def Zdq:PV->Bool
 | .bool _ | .int _ _ | .str _ | .nilp | .nils | .nilm | .nilf | .nili=>true
 | _=>false
abbrev Xn (C:Ctx)(f:Nat)(args:List PV)(v:PV):Prop:=∀K H,Yf C K f args H=some (v,H)
theorem Zz7 {v:PV}(h:Zdq v=true)(m n:Nat):below m n v=true:=by
 cases v<;>simp_all[Zdq]<;>cases n<;>rfl
theorem Zz6 {v:PV}(h:Zdq v=true)(m:Nat)(n:Nat):Yo m n v=true:=by
 cases v<;>simp_all[Zdq]<;>cases n<;>rfl
theorem Zrr {C:Ctx}{K:Loc}{f:Nat}{args args':List PV}{h:PH}{v:PV}(hA:Xn C f args' v)(hvb:∀m,below m 4 v=true)(Y4:C.raw f=false)(hm:W2 (inlV h) args=some args')(Yn:args.isEmpty=false)
  (ho:args'.flatMap ownV=[]) (hr:args'.flatMap (refs 3)=[])
  (hids:(args.flatMap ownV).all (can K)=true):Yf C K f args h=some (v,h)\/(Yf C K f args h=some (v,h.freeze (args.flatMap ownV))/\¬ (args.flatMap ownV).all (fun i=>match h.get i with | some (_,.row g true _)=>Yo g 14 v | some (_,.row _ false _)=>true | _=>false)=true):=by
 have Z84:args'.isEmpty=false:=by
  cases args with
  |nil=>cases Yn
  |cons a l=>
   simp only[W2]at hm;split at hm
   .injection hm with hm;subst hm;rfl
   .cases hm
 obtain⟨h3,e,k⟩:=Zrs (ok:=[]) (hA K _) (Z2d Yn Y4) (Z2d Z84 Y4) Y4 hm ho (by rw[hr];rfl) hids (hvb _) rfl;refine k.imp id fun k=>⟨k.1,fun hh=>k.2 ?_⟩
 rw[List.all_eq_true]at hh ⊢;intro i hi;have h5:=hh i hi;simp only[List.any_nil,Bool.not_false,Bool.true_and,List.all_nil,Bool.and_true];exact h5
theorem Zrp {C:Ctx}{K:Loc}{f:Nat}{args args':List PV}{h:PH}{v:PV}(hA:Xn C f args' v)(hvb:∀m,below m 4 v=true)(Y4:C.raw f=false)(hm:W2 (inlV h) args=some args')(Yn:args.isEmpty=false)
  (ho:args'.flatMap ownV=[]) (hr:args'.flatMap (refs 3)=[])
  (hids:(args.flatMap ownV).all (fun i=>can K i&&match h.get i with | some (_,.row g _ _)=>Yo g 14 v | _=>false)=true):Yf C K f args h=some (v,h):=by
 rw[List.all_eq_true]at hids
 rcases Zrr hA hvb Y4 hm Yn ho hr (by
  rw[List.all_eq_true];intro i hi;have:=hids i hi;rw[Bool.and_eq_true]at this;exact this.1) with h1 | ⟨_,h1⟩
 .exact h1
 .refine absurd ?_ h1;rw[List.all_eq_true];intro i hi;have:=hids i hi;rw[Bool.and_eq_true]at this;have h2:=this.2;split at h2
  .rename_i ver g own xs hg;rw[hg];cases own
   .rfl
   .exact h2
  .cases h2
theorem Zoq {C:Ctx}{K:Loc}{f:Nat}{args args':List PV}{h:PH}{v:PV}(hA:Xn C f args' v)(hv:Zdq v=true)(Y4:C.raw f=false)(hm:W2 (inlV h) args=some args')(Yn:args.isEmpty=false)
  (ho:args'.flatMap ownV=[]) (hr:args'.flatMap (refs 3)=[])
  (hids:(args.flatMap ownV).all (fun i=>can K i&&match h.get i with | some (_,.row _ _ _)=>true | _=>false)=true):Yf C K f args h=some (v,h):=
 Zrp hA (fun m=>Zz7 hv _ _) Y4 hm Yn ho hr (by
  rw[List.all_eq_true]at hids ⊢;intro i hi;have:=hids i hi;rw[Bool.and_eq_true]at this ⊢;refine⟨this.1,?_⟩;have h2:=this.2;split at h2
  .exact Zz6 hv _ _
  .cases h2)
theorem Zvl {C:Ctx}{f g:Nat}{x:PV}{ys:List PV}{v:PV}(hA:Xn C f [x,.lst g ys] v)(hv:Zdq v=true)(hx:Zdq x=true)(Y4:C.raw f=false):
  ∀(K:Loc) (h:PH) (i ver n:Nat) (own:Bool),K.lo<=i->h.get i=some (ver,.row g own ys)->n=ys.length->Yf C K f [x,.own i ver g 0 n] h=some (v,h):=by
 intro K h i ver n own hK hg hn;have h1:inlV h x=some x:=by cases x<;>simp_all[Zdq]
 have h2:ownV x=[]:=by cases x<;>simp_all[Zdq]
 have h3:refs 3 x=[]:=by cases x<;>simp_all[Zdq]
 refine Zoq hA hv Y4 ?_ rfl ?_ ?_ ?_
 .rw [Z3v,h1];simp[hg,hn]
 .rw [List.flatMap_cons,h2];rfl
 .rw [List.flatMap_cons,h3];rfl
 .rw [List.flatMap_cons,h2];simp[hg,hK]
def Za0:Code->List Nat
 | .region _ ops _=>ops.toList.filterMap (·.dst)
 | .seq a b=>Za0 a++Za0 b
 | .cond _ a b=>Za0 a++Za0 b
 | .block _ b=>Za0 b
 | .loop b=>Za0 b
 | _=>[]
theorem U0 {sl:Yt}{d:Option Nat}{v:PV}{t:Nat}(h:d≠some t):putP sl d v t=sl t:=by
 cases d with
 |none=>rfl
 |some d=>
  show (if t=d then some v else sl t)=sl t;rw[if_neg];rintro rfl;exact h rfl
theorem Zno {sl Yv:Yt}{t:Nat}(h:Yv t=sl t):Zdp sl Yv t=sl t:=by
 unfold Zdp;cases hs:sl t with
 |none=>rfl
 |some v=>simp only;rw[h,hs]
section
variable {C:Ctx}{cf:CF}{yf:YF}{K:Loc}
theorem Zgx {all:List Oper}{t:Nat}:∀ {l:List Oper} {sl:Yt} {h:PH} {r:Yt×PH},Za7 C cf yf K all l sl h=some r->t∉l.filterMap (·.dst)->r.1 t=sl t
 | [],sl,h,r,he,ht=>by simp only[Za7,Option.some.injEq]at he;subst he;rfl
 |o::l,sl,h,r,he,ht=>by
  have h1:o.dst≠some t:=by
   intro e;exact ht (List.mem_filterMap.2 ⟨o,List.mem_cons_self,e⟩)
  have h2:t∉l.filterMap (·.dst):=by
   intro e;obtain⟨o',hm,e'⟩:=List.mem_filterMap.1 e;exact ht (List.mem_filterMap.2 ⟨o',List.mem_cons_of_mem _ hm,e'⟩)
  simp only[Za7]at he;split at he
  .split at he
   .rw [Zgx he h2,U0 h1]
   .cases he
  .rw [Zgx he h2,U0 h1]
  .cases he
theorem Zu3 {all:List Oper}{masks:Array Nat}{o:Oper}{i:Nat}{s s':PD}{t:Nat}(he:Zdl C cf yf K all masks o i s=some s')(ht:o.dst≠some t):s'.sl t=s.sl t:=by
 unfold Zdl at he;dsimp only at he;split at he
 .cases he
 .simp only [Option.some.injEq]at he;subst he;exact U0 ht
 .split at he
  .split at he
   .simp only [Option.some.injEq]at he;subst he;exact U0 ht
   .cases he
  .split at he
   .split at he
    .simp only [Option.some.injEq]at he;subst he;exact U0 ht
    .rename_i d _ hd;simp only[Option.some.injEq]at he;subst he;rw[hd]at ht;exact U0 (d:=some d) ht
    .cases he
   .split at he
    .unfold Z1f at he;split at he
     .split at he
      .simp only [Option.some.injEq]at he;subst he;exact U0 ht
      .cases he
     .split at he
      .simp only [Option.some.injEq]at he;subst he;exact U0 ht
      .cases he
    .cases he
theorem Zkt {all:List Oper}{masks:Array Nat}{t:Nat}:∀ {l:List Oper} {i:Nat} {s s':PD},Qt C cf yf K all masks l i s=some s'->t∉l.filterMap (·.dst)->s'.sl t=s.sl t
 | [],i,s,s',he,ht=>by simp only[Qt,Option.some.injEq]at he;subst he;rfl
 |o::l,i,s,s',he,ht=>by
  have h1:o.dst≠some t:=by
   intro e;exact ht (List.mem_filterMap.2 ⟨o,List.mem_cons_self,e⟩)
  have h2:t∉l.filterMap (·.dst):=by
   intro e;obtain⟨o',hm,e'⟩:=List.mem_filterMap.1 e;exact ht (List.mem_filterMap.2 ⟨o',List.mem_cons_of_mem _ hm,e'⟩)
  simp only[Qt]at he;split at he
  .rename_i s1 hs1;rw[Zkt he h2,Zu3 hs1 h1]
  .cases he
end
theorem Vc {C:Ctx}{t:Nat}:∀(n:Nat) {K:Loc} {Xt:Bool} {c:Code} {sl:Yt} {h:PH} {x:Ex} {Yv:Yt} {h':PH},exec C n K Xt c sl h=some (x,Yv,h')->t∉Za0 c->Yv t=sl t
 | 0,K,Xt,c,sl,h,x,Yv,h',he,ht=>by simp only[exec]at he;cases he
 |n+1,K,Xt,c,sl,h,x,Yv,h',he,ht=>by
  cases c with
  |skip=>simp only[exec,Option.some.injEq,Prod.mk.injEq]at he;rw[<- he.2.1]
  |region id ops draw=>
   cases draw with
   |true=>
    simp only[exec,if_true,Option.map_eq_some_iff,Zct]at he;obtain⟨⟨s1,h1⟩,⟨s,hs,e1⟩,e2⟩:=he;simp only[Prod.mk.injEq]at e1 e2;rw[<- e2.2.1,<- e1.1];exact Zkt hs ht
   |false=>
    simp only[exec,Bool.false_eq_true,if_false,Option.map_eq_some_iff]at he;obtain⟨⟨s1,h1⟩,hs,e2⟩:=he;simp only[Prod.mk.injEq]at e2;rw[<- e2.2.1];exact Zgx hs ht
  |seq a b=>
   simp only[Za0,List.mem_append,not_or]at ht;simp only[exec]at he;split at he
   .rename_i Qz h1 ha;rw[Vc n he ht.2,Vc n ha ht.1]
   .rename_i Yn;exact Vc n he ht.1
  |cond c a b=>
   simp only[Za0,List.mem_append,not_or]at ht;simp only[exec]at he;split at he
   .exact Vc n he ht.1
   .exact Vc n he ht.2
   .cases he
  |block id b=>
   simp only[Za0]at ht;simp only[exec]at he;split at he
   .rename_i id' Qz h1 hb;have:=Vc n hb ht;split at he
    .simp only [Option.some.injEq,Prod.mk.injEq]at he;rw[<- he.2.1];exact this
    .simp only [Option.some.injEq,Prod.mk.injEq]at he;rw[<- he.2.1];exact this
   .exact Vc n he ht
  |loop b=>
   simp only[Za0]at ht;simp only[exec]at he;split at he
   .rename_i Qz h1 hb;rw[Vc n he (by simpa only[Za0]using ht)];exact Zno (Vc n hb ht)
   .exact Vc n he ht
  |exit id=>simp only[exec,Option.some.injEq,Prod.mk.injEq]at he;rw[<- he.2.1]
  |ret=>simp only[exec,Option.some.injEq,Prod.mk.injEq]at he;rw[<- he.2.1]
  |rangeFunc f ps assign body=>
   simp only[exec]at he;split at he
   .split at he
    .split at he
     .split at he
      .split at he
       .simp only [Option.some.injEq,Prod.mk.injEq]at he;rw[<- he.2.1]
       .cases he
      .cases he
     .cases he
    .cases he
   .cases he
  |scope b=>simp only[exec]at he;cases he
  |label l=>simp only[exec]at he;cases he
  |goto l=>simp only[exec]at he;cases he
  |refuse w=>simp only[exec]at he;cases he
theorem Z49 {C:Ctx}{t:Nat}{K:Loc}{Xt:Bool}{c:Code}{sl:Yt}{h:PH}{x:Ex}{Yv:Yt}{h':PH}(he:Vu C K Xt c sl h=some (x,Yv,h'))(ht:t∉Za0 c):Yv t=sl t:=by
 obtain⟨n,hn⟩:=Xv.1 he;exact Vc n hn ht
def Zxy (sl Uc:Yt):List Nat->Prop
 | []=>True
 |t::r=>sl t=Uc t/\Zxy sl Uc r
@[simp] theorem Zaqo {sl Uc:Yt}:Zxy sl Uc []=True:=rfl
@[simp] theorem Zan5 {sl Uc:Yt}{t:Nat}{r:List Nat}:Zxy sl Uc (t::r)=(sl t=Uc t/\Zxy sl Uc r):=rfl
theorem Zsa {sl Uc:Yt}:∀ {F:List Nat},(∀t,t∈F->sl t=Uc t)->Zxy sl Uc F
 | [],_=>trivial
 |t::r,h=>⟨h t List.mem_cons_self,Zsa fun u hu=>h u (List.mem_cons_of_mem _ hu)⟩
theorem Zu5 {sl Uc:Yt}:∀ {F:List Nat},Zxy sl Uc F->∀t,t∈F->sl t=Uc t
 | [],_,t,ht=>by cases ht
 |u::r,h,t,ht=>by
  rcases List.mem_cons.1 ht with rfl | ht
  .exact h.1
  .exact Zu5 h.2 t ht
theorem Zh {C:Ctx}{K:Loc}{Xt:Bool}{b:Code}{Q:Ex×Yt×PH->Prop}{Uc:Yt}{h0:PH}(F:List Nat)
  (I:Nat->Yt->PH->Prop) (n0:Nat) (hF:F.all (fun t=>!(Za0 b).contains t)=true) (h00:I n0 Uc h0)
  (step:∀n sl h,Zxy sl Uc F->I n sl h->wp (Vu C K Xt b sl h) fun r=>match r with | (.normal,Yv,h')=>∃m,m < n/\I m (Zdp sl Yv) h' | r=>Q r):
  wp (Vu C K Xt (.loop b) Uc h0) Q:=by
 refine Zul (fun n sl h=>Zxy sl Uc F/\I n sl h) ?_ n0 Uc h0 ⟨Zsa fun _ _=>rfl,h00⟩;rintro n sl h ⟨hf,hi⟩;have hs:=step n sl h hf hi;obtain⟨⟨x,Yv,h'⟩,he,hq⟩:=X8.1 hs;refine X8.2 ⟨_,he,?_⟩
 have hb:∀t,t∈F->t∉Za0 b:=fun t ht=>by
  have:=List.all_eq_true.1 hF t ht;simpa using this
 cases x with
 |normal=>
  obtain⟨m,hm,hI⟩:=hq;refine⟨m,hm,Zsa fun t ht=>?_,hI⟩;rw[Zno (Z49 he (hb t ht)),Zu5 hf t ht]
 |exit id=>exact hq
 |ret=>exact hq
def L (g:Nat)(b:Bool)(xs:List PV):PV:=if b&&xs.isEmpty then .nils else .lst g xs
theorem Wh {g:Nat}:L g true []=.nils:=rfl
theorem Zab {g:Nat}{xs:List PV}:L g false xs=.lst g xs:=rfl
theorem Xs {g:Nat}{b:Bool}{x:PV}{xs:List PV}:L g b (x::xs)=.lst g (x::xs):=by simp[L]
theorem Zp3 (g:Nat)(b:Bool)(xs:List PV):(L g b xs=.nils/\b=true/\xs=[])\/(L g b xs=.lst g xs/\(b&&xs.isEmpty)=false):=by
 unfold L;cases h:(b&&xs.isEmpty)
 .exact Or.inr ⟨rfl,rfl⟩
 .simp at h;exact Or.inl ⟨rfl,h.1,h.2⟩
section
variable {g:Nat}{b:Bool}{xs:List PV}
@[simp high] theorem Zapu:Zc (L g b xs)=[L g b xs]:=by unfold L;split<;>rfl
@[simp high] theorem Zaw0:Wx (L g b xs)=true:=by unfold L;split<;>rfl
@[simp high] theorem Zaxv {h:PH}:Zc9 h (L g b xs)=some (L g b xs):=by unfold L;split<;>rfl
@[simp high] theorem Zaxt {h:PH}:inlV h (L g b xs)=some (L g b xs):=by unfold L;split<;>rfl
@[simp high] theorem Zaxu {h:PH}:inlT h (L g b xs)=some (L g b xs):=by unfold L;split<;>rfl
@[simp high] theorem Zaxj:Zc7 (L g b xs)=[]:=by unfold L;split<;>rfl
@[simp high] theorem Zaxh:ownV (L g b xs)=[]:=by unfold L;split<;>rfl
@[simp high] theorem Zaxi:ownT (L g b xs)=[]:=by unfold L;split<;>rfl
@[simp high] theorem Zaxd {n:Nat}:refs n (L g b xs)=[]:=by unfold L;split<;>cases n<;>rfl
@[simp high] theorem Zaw1 {m n:Nat}:below m n (L g b xs)=true:=by unfold L;split<;>cases n<;>rfl
@[simp high] theorem Zavf {n:Nat}:plain n (L g b xs)=true:=by unfold L;split<;>cases n<;>rfl
@[simp high] theorem Zavd {n:Nat}:W5 n (L g b xs)=true:=by unfold L;split<;>cases n<;>rfl
@[simp high] theorem Zawy {h:PH}:h.elems g (L g b xs)=some xs:=by
 unfold L;split
 .rename_i h;simp at h;simp[PH.elems,h.2]
 .simp [PH.elems]
end
attribute [simp] eqP Zph.eq_1 Zph.eq_2 Zph.eq_3 Zph.eq_4 Zsi Zy6 Zri
def lenK (k:TK)(v:PV):Option PV:=match k,v with
 | .str,.str s=>some (.int .i64 s.length)
 | .slice _,.nils=>some (.int .i64 0)
 | .slice _,.lst _ xs=>some (.int .i64 xs.length)
 | .slice _,.own _ _ _ _ n=>some (.int .i64 n)
 | .map _ _,.nilm=>some (.int .i64 0)
 | _,_=>none
def Zsn (C:Ctx)(k:TK)(v i:PV):Option PV:=match i with
 | .int _ i=>match k,v with
   | .slice e,.lst g xs=>
     match C.T e with
     |some te=>if e=g/\0<=i/\i < xs.length then (xs[i.toNat]?).map fun x=>.rptr (Zc x) else none
     |none=>none
   | .array n e,.ptr b v o=>
     match C.T e with
     |some te=>if 0<=i/\i < n then some (.ptr b v (o+i.toNat*te.size)) else none
     |none=>none
   | .array n e,.rptr cs=>
     match C.T e with
     |some te=>if 0<=i/\i < n/\i.toNat*te.size+te.size<=cs.length then some (.rptr (cs.drop (i.toNat*te.size))) else none
     |none=>none
   | _,_=>none
 | _=>none
def idxO (C:Ctx)(h:PH)(k:TK)(v i:PV):Option (PV×PH):=match v,i with
 | .own b ver g off len,.int _ i=>match k with
   | .slice e=>match C.T e,h.row b ver g with
     |some te,some (_,xs)=>if e=g/\0<=i/\i < len/\off+len<=xs.length then some (.eptr b ver g (off+i.toNat) 0,h) else none
     | _,_=>none
   | _=>none
 | _,_=>none
def Z8h (C:Ctx)(k:TK)(v i:PV):Option PV:=match i with
 | .int _ i=>match k,v with
   | .array n e,.agg cs=>
     match C.T e with
     |some te=>if 0<=i/\i < n then (X3 cs (i.toNat*te.size) te.size).bind (toP te.k.agg) else none
     |none=>none
   | .str,.str s=>if 0<=i then (s[i.toNat]?).map fun (b:Nat)=>.int .u8 (b:Int) else none
   | _,_=>none
 | _=>none
def Zr8 (C:Ctx)(k:TK)(v:PV)(lo hi:Option PV):Option PV:=match k,v with
 | .str,.str s=>(Xw s.length lo hi).map fun (l,u)=>.str ((s.drop l).take (u - l))
 | .slice e,.nils=>match C.T e,Xw 0 lo hi with
   |some _,some _=>some .nils
   | _,_=>none
 | .slice e,.lst g xs=>match C.T e,Xw xs.length lo hi with
   |some te,some (l,u)=>if e=g then some (.lst g ((xs.drop l).take (u - l))) else none
   | _,_=>none
 | _,_=>none
def sliO (C:Ctx)(h:PH)(k:TK)(v:PV)(lo hi:Option PV):Option (PV×PH):=match v with
 | .own i ver g off len=>match k with
   | .slice e=>match C.T e,Xw len lo hi,h.row i ver g with
     |some te,some (l,u),some _=>if e=g then some (.own i ver g (off+l) (u - l),h) else none
     | _,_,_=>none
   | _=>none
 | _=>none
def Z1m (T:Ty)(v:PV):Option PV:=match v with
 | .rptr cs=>(X3 cs 0 T.size).bind (toP T.k.agg)
 | _=>none
def Zv4 (h:PH)(T:Ty)(v:PV):Option (PV×PH):=match v with
 | .ptr i ver off=>match h.get i with
   |some (v,.cells cs)=>if v=ver then ((X3 cs off T.size).bind (toP T.k.agg)).map (·,h) else none
   | _=>none
 | .eptr i ver g ix off=>match h.row i ver g with
   |some (_,xs)=>match xs[ix]? with
    |some x=>((X3 (Zc x) off T.size).bind (toP T.k.agg)).map (·,h)
    |none=>none
   |none=>none
 | _=>none
def Zmr (K:Loc)(h:PH)(T:Ty)(a v:PV):Option (PV×PH):=match a with
 | .ptr i ver off=>
   if (Zc v).length=T.size/\(Zc v).all Wx=true/\can K i=true then
    match h.get i with
    |some (w,.cells cs)=>if w=ver then (Yp cs off (Zc v)).map fun cs=>(.tuple [],h.put i ver (.cells cs)) else none
    | _=>none
   else none
 | .eptr i ver g ix off=>match inlV h v with
   |none=>none
   |some v'=>
    if (Zc v').length=T.size/\(Zc v').all Wx=true/\(Zc v').all (plain 3)=true/\can K i=true/\(ownV v).all (can K)=true then
     match (h.freeze (ownV v)).row i ver g with
     |some (true,xs)=>match xs[ix]? with
      |some x=>(S5 x off (Zc v')).map fun x=>(.tuple [],(h.freeze (ownV v)).put i ver (.row g true (xs.set ix x)))
      |none=>none
     | _=>none
    else none
 | _=>none
def mksK (C:Ctx)(k:TK)(n m:PV):Option Mk:=match n,m with
 | .int _ n,.int _ m=>match k with
   | .slice e=>match C.T e with
     |some te=>if 0<=n/\n<=m/\m<=Virt.maxLenV/\te.bytes<=2^16 then
       match Zah te with
       |some z=>if (Zc z).length=te.size/\(Zc z).all Wx=true/\plain 4 z=true then some (.slice e n.toNat (.row e true (List.replicate n.toNat z))) else none
       |none=>none
      else none
     |none=>none
   | _=>none
 | _,_=>none
def Zxt (C:Ctx)(K:Loc)(h:PH)(d:Nat)(k k':TK)(s x:PV):Option (PV×PH):=match k with
 | .slice e=>match C.T e with
   |some ty=>match k' with
    | .int _=>match s,x with
      | .nils,.int _ n=>
        if 0<=n/\n<=Virt.maxLenV/\ty.bytes<=2^16/\0 < ty.size then
         if n=0 then some (.nils,h) else
         match Zah ty with
         |some z=>if (Zc z).length=ty.size/\(Zc z).all Wx=true/\plain 4 z=true then some (.own (K.base+d) (h.stamp (K.base+d)) e 0 n.toNat,h.put (K.base+d) (h.stamp (K.base+d)) (.row e true (List.replicate n.toNat z))) else none
         |none=>none
        else none
      | _,_=>none
    | _=>match x with
      | .str b=>if ty.size=1 then Xl K h d e ty b.length (b.map fun (b:Nat)=>.int .u8 (b:Int)) s else none
      | _=>match h.elems e x with
        |some ys=>Xl K h d e ty ys.length ys s
        |none=>none
   |none=>none
 | _=>none
def copK (C:Ctx)(K:Loc)(h:PH)(d:Nat)(k k':TK)(s x:PV):Option (PV×PH):=match k with
 | .slice e=>match C.T e with
   |some ty=>match k' with
    | .int _=>match s,x with
      | .nils,.int _ n=>
        if 0<=n/\n<=Virt.maxLenV/\ty.bytes<=2^16/\0 < ty.size then
         if n=0 then some (.nils,h) else
         match Zah ty with
         |some z=>if (Zc z).length=ty.size/\(Zc z).all Wx=true/\plain 4 z=true then some (.own (K.base+d) (h.stamp (K.base+d)) e 0 n.toNat,h.put (K.base+d) (h.stamp (K.base+d)) (.row e true (List.replicate n.toNat z))) else none
         |none=>none
        else none
      | _,_=>none
    | _=>match x with
      | .str b=>if ty.size=1 then Xl K h d e ty b.length (b.map fun (b:Nat)=>.int .u8 (b:Int)) s else none
      | _=>match h.elems e x with
        |some ys=>Zld h e ty ys s
        |none=>none
   |none=>none
 | _=>none
def Z5i (k k':TK)(v:PV):Option PV:=match k,k',v with
 | _,.int k,.int _ n=>some (.int k (k.wrap n))
 | _,.str,.str s=>some (.str s)
 | _,_,_=>none
def Z5h (C:Ctx)(K:Loc)(h:PH)(d:Option Nat)(k k':TK)(v:PV):Option (PV×PH):=match k,k',v with
 | .str,.slice e,.str s=>
   match C.T e,d with
   |some te,some d=>match te.k with
    | .int .u8=>if s.length<=Virt.maxLenV/\te.size=1 then some (.own (K.base+d) (h.stamp (K.base+d)) e 0 s.length,h.put (K.base+d) (h.stamp (K.base+d)) (.row e true (s.map fun (b:Nat)=>.int .u8 (b:Int)))) else none
    | _=>none
   | _,_=>none
 | .slice e,.str,v=>
   match C.T e with
   |some te=>match te.k with
    | .int .u8=>if te.size=1 then ((h.elems e v).bind Zf.bytesP).map fun b=>(.str b,h) else none
    | _=>none
   |none=>none
 | _,_,_=>none
section
variable {C:Ctx}{cf:CF}{yf:YF}{K:Loc}{all:List Oper}{sl:Yt}{h:PH}{d:Option Nat}{ty:TypeId}{pos:String}{af:Array Edge}{gd:Option (Nat×Bool)}{x y ix:Operand}{t t':TypeId}
@[simp high] theorem Zauq {ats:Array TypeId}:Yk C sl ⟨d,.call ⟨.builtin .len,#[x],ats⟩,ty,pos,af,gd⟩=bO (Yu sl x) fun v=>bO ((ats[0]?).bind C.T) fun T=>lenK T.k v:=by
 simp only[Yk,Zat,Zjw];cases Yu sl x with
 |none=>rfl
 |some v=>
  simp only[Xx];cases (ats[0]?).bind C.T with
  |none=>rfl
  |some T=>rfl
@[simp high] theorem Zew:Yk C sl ⟨d,.indexAddr t x ix,ty,pos,af,gd⟩=bO (C.T t) fun T=>bO (Yu sl x) fun v=>bO (Yu sl ix) fun i=>Zsn C T.k v i:=by
 simp only[Yk];cases C.T t<;>cases Yu sl x<;>cases hi:Yu sl ix<;>try rfl
 rename_i i;cases i<;>rfl
@[simp high] theorem Qo:Zf C cf yf all K sl h ⟨d,.indexAddr t x ix,ty,pos,af,gd⟩=bO (C.T t) fun T=>bO (Yu sl x) fun v=>bO (Yu sl ix) fun i=>idxO C h T.k v i:=by
 simp only[Zf];cases C.T t<;>cases Yu sl x<;>cases Yu sl ix<;>try rfl
 .rename_i v;cases v<;>rfl
 .rename_i v i;cases v<;>cases i<;>rfl
@[simp high] theorem Zoa:Yk C sl ⟨d,.index t x ix,ty,pos,af,gd⟩=bO (C.T t) fun T=>bO (Yu sl x) fun v=>bO (Yu sl ix) fun i=>Z8h C T.k v i:=by
 simp only[Yk];cases C.T t<;>cases Yu sl x<;>cases hi:Yu sl ix<;>try rfl
 rename_i i;cases i<;>rfl
@[simp high] theorem Zn9 {lo hi:Option Operand}:Yk C sl ⟨d,.slice t x lo hi none,ty,pos,af,gd⟩=bO (C.T t) fun T=>bO (Yu sl x) fun v=>bO (S8 sl lo) fun l=>bO (S8 sl hi) fun u=>Zr8 C T.k v l u:=by
 simp only[Yk];cases C.T t<;>cases Yu sl x<;>try rfl
 simp only[Xx];cases S8 sl lo<;>cases S8 sl hi<;>try rfl
@[simp high] theorem Zd4 {lo hi:Option Operand}:Zf C cf yf all K sl h ⟨d,.slice t x lo hi none,ty,pos,af,gd⟩=bO (C.T t) fun T=>bO (Yu sl x) fun v=>bO (S8 sl lo) fun l=>bO (S8 sl hi) fun u=>sliO C h T.k v l u:=by
 simp only[Zf];cases C.T t<;>cases Yu sl x<;>try rfl
 rename_i T v;simp only[Xx];cases v<;>cases S8 sl lo<;>cases S8 sl hi<;>rfl
@[simp high] theorem Zrd:Yk C sl ⟨d,.load t x,ty,pos,af,gd⟩=bO (C.T t) fun T=>bO (Yu sl x) fun v=>Z1m T v:=by
 simp only[Yk];cases C.T t<;>cases Yu sl x<;>try rfl
 rename_i T v;cases v<;>rfl
@[simp high] theorem Zmt:Zf C cf yf all K sl h ⟨d,.load t x,ty,pos,af,gd⟩=bO (C.T t) fun T=>bO (Yu sl x) fun v=>Zv4 h T v:=by
 simp only[Zf];cases C.T t<;>cases Yu sl x<;>try rfl
 rename_i T v;cases v<;>rfl
@[simp high] theorem Zkr:Zf C cf yf all K sl h ⟨d,.store t x y,ty,pos,af,gd⟩=bO (C.T t) fun T=>bO (Yu sl x) fun a=>bO (Yu sl y) fun v=>Zmr K h T a v:=by
 simp only[Zf];cases C.T t<;>cases Yu sl x<;>cases Yu sl y<;>try rfl
 .rename_i a;cases a<;>rfl
 .rename_i T a v;cases a<;>rfl
@[simp high] theorem Zek {l c:Operand}:V5 C all sl ⟨d,.makeSlice t l c,ty,pos,af,gd⟩=bO (C.T t) fun T=>bO (Yu sl l) fun n=>bO (Yu sl c) fun m=>mksK C T.k n m:=by
 simp only[V5];cases C.T t<;>cases Yu sl l<;>cases Yu sl c<;>try rfl
 .rename_i n;cases n<;>rfl
 .rename_i T n m;cases n<;>cases m<;>rfl
@[simp high] theorem Zadj {ats:Array TypeId}{dd:Nat}:Zf C cf yf all K sl h ⟨some dd,.call ⟨.builtin .append,#[x,y],ats⟩,ty,pos,af,gd⟩=bO (Yu sl x) fun s=>bO (Yu sl y) fun v=>bO ((ats[0]?).bind C.T) fun T=>bO ((ats[1]?).bind C.T) fun T'=>if Znl all x dd=true then copK C K h dd T.k T'.k s v else Zxt C K h dd T.k T'.k s v:=by
 simp only[Zf,Zat,Zjw];cases Yu sl x with
 |none=>rfl
 |some s=>
  simp only[Xx,Zat,Zjw];cases Yu sl y with
  |none=>rfl
  |some v=>
   simp only[Xx];cases (ats[0]?).bind C.T with
   |none=>rfl
   |some T=>
    cases (ats[1]?).bind C.T with
    |none=>rfl
    |some T'=>
     simp only[Xx,Zxt,copK];have e0:(((#[x,y]:Array Operand)[0]?).any fun a=>Znl all a dd)=Znl all x dd:=rfl;rw[e0];cases Znl all x dd<;>simp only[if_true,Bool.false_eq_true,if_false]<;>cases hk:T.k<;>rfl
attribute [simp] Z3w
@[simp] theorem Zaq8 {all:List Oper}{t d:Nat}:Znl all (.tmp t) d=false:=rfl
@[simp] theorem Zaq9 {all:List Oper}{a c d:Nat}:Znl all (.const (.slice none a c)) d=Z3w all d:=rfl
@[simp high] theorem Zit:Yk C sl ⟨d,.convert t t' x,ty,pos,af,gd⟩=bO (C.T t) fun T=>bO (C.T t') fun T'=>bO (Yu sl x) fun v=>Z5i T.k T'.k v:=by
 simp only[Yk];cases C.T t<;>cases C.T t'<;>cases Yu sl x<;>rfl
@[simp high] theorem Zbs:Zf C cf yf all K sl h ⟨d,.convert t t' x,ty,pos,af,gd⟩=bO (C.T t) fun T=>bO (C.T t') fun T'=>bO (Yu sl x) fun v=>Z5h C K h d T.k T'.k v:=by
 simp only[Zf];cases C.T t<;>cases C.T t'<;>cases Yu sl x<;>rfl
end
section
variable {C:Ctx}{K:Loc}{h:PH}{g e:Nat}{b:Bool}{xs:List PV}{k:IntKind}{i:Int}
@[simp] theorem Zarb {s:List Nat}:lenK .str (.str s)=some (.int .i64 s.length):=rfl
@[simp] theorem Zaok:lenK (.slice e) .nils=some (.int .i64 0):=rfl
@[simp] theorem Zare:lenK (.slice e) (.lst g xs)=some (.int .i64 xs.length):=rfl
@[simp] theorem Zarc {i v o n:Nat}:lenK (.slice e) (.own i v g o n)=some (.int .i64 n):=rfl
@[simp] theorem Zaxm:lenK (.slice e) (L g b xs)=some (.int .i64 xs.length):=by
 rcases Zp3 g b xs with⟨e,_,rfl⟩ | ⟨e,_⟩<;>rw[e]<;>rfl
@[simp] theorem Zaol {a c:Nat}:lenK (.map a c) .nilm=some (.int .i64 0):=rfl
@[simp] theorem Zard {a c j v:Nat}:lenK (.map a c) (.map j v)=none:=rfl
@[simp] theorem Z8i (hg:(C.T g).isSome=true)(h0:0<=i)(h1:i < xs.length):Zsn C (.slice g) (.lst g xs) (.int k i)=some (.rptr (Zc (xs[i.toNat]'(by omega)))):=by
 obtain⟨T,hT⟩:=Option.isSome_iff_exists.1 hg;have hl:i.toNat < xs.length:=by omega
 simp only[Zsn,hT,h0,h1,and_self,if_true,List.getElem?_eq_getElem hl,Option.map_some]
@[simp] theorem Zaxx (hg:(C.T g).isSome=true)(h0:0<=i)(h1:i < xs.length):Zsn C (.slice g) (L g b xs) (.int k i)=some (.rptr (Zc (xs[i.toNat]'(by omega)))):=by
 rcases Zp3 g b xs with⟨e,_,rfl⟩ | ⟨e,_⟩
 .simp at h1;omega
 .rw [e];exact Z8i hg h0 h1
@[simp] theorem Zarw {j v o n:Nat}{x:PV}:Zsn C (.slice e) (.own j v g o n) x=none:=by cases x<;>rfl
@[simp] theorem Zarv {n a v o:Nat}:Zsn C (.array n e) (.ptr a v o) (.int k i)=bO (C.T e) fun te=>if 0<=i/\i < n then some (.ptr a v (o+i.toNat*te.size)) else none:=by
 simp only[Zsn];cases C.T e<;>rfl
@[simp] theorem Zaop {n:Nat}{cs:List PV}:Zsn C (.array n e) (.rptr cs) (.int k i)=bO (C.T e) fun te=>if 0<=i/\i < n/\i.toNat*te.size+te.size<=cs.length then some (.rptr (cs.drop (i.toNat*te.size))) else none:=by
 simp only[Zsn];cases C.T e<;>rfl
def Z1p (h:PH)(a ver g off len:Nat)(i:Int)(n:Nat):Option (PV×PH):=if 0<=i/\i < len/\off+len<=n then some (.eptr a ver g (off+i.toNat) 0,h) else none
@[simp] theorem Zaru {a ver off len n:Nat}(h0:0<=i)(h1:i < len)(h2:off+len<=n):Z1p h a ver g off len i n=some (.eptr a ver g (off+i.toNat) 0,h):=by
 rw[Z1p,if_pos ⟨h0,h1,h2⟩]
@[simp] theorem Zart {a ver off len:Nat}(hg:(C.T g).isSome=true):idxO C h (.slice g) (.own a ver g off len) (.int k i)=bO (h.row a ver g) fun p=>Z1p h a ver g off len i p.2.length:=by
 obtain⟨T,hT⟩:=Option.isSome_iff_exists.1 hg;simp only[idxO,hT];cases h.row a ver g with
 |none=>rfl
 |some p=>simp only[Xx,Z1p,true_and]
@[simp] theorem Zars {s:List Nat}(h0:0<=i)(h1:i < s.length):Z8h C .str (.str s) (.int k i)=some (.int .u8 ((s[i.toNat]'(by omega):Nat):Int)):=by
 have hl:i.toNat < s.length:=by omega
 simp only[Z8h,h0,if_true,List.getElem?_eq_getElem hl,Option.map_some]
@[simp] theorem Zaks {n:Nat}{cs:List PV}:Z8h C (.array n e) (.agg cs) (.int k i)=bO (C.T e) fun te=>if 0<=i/\i < n then (X3 cs (i.toNat*te.size) te.size).bind (toP te.k.agg) else none:=by
 simp only[Z8h];cases C.T e<;>rfl
@[simp] theorem Zaql {s:List Nat}{lo hi:Option PV}:Zr8 C .str (.str s) lo hi=bO (Xw s.length lo hi) fun p=>some (.str ((s.drop p.1).take (p.2 - p.1))):=by
 simp only[Zr8];cases Xw s.length lo hi<;>rfl
@[simp] theorem Z3b {lo hi:Option PV}(hg:(C.T e).isSome=true):Zr8 C (.slice e) .nils lo hi=bO (Xw 0 lo hi) fun p=>some .nils:=by
 obtain⟨T,hT⟩:=Option.isSome_iff_exists.1 hg;simp only[Zr8,hT];cases Xw 0 lo hi<;>rfl
@[simp] theorem Z6y {lo hi:Option PV}(hg:(C.T g).isSome=true):Zr8 C (.slice g) (.lst g xs) lo hi=bO (Xw xs.length lo hi) fun p=>some (.lst g ((xs.drop p.1).take (p.2 - p.1))):=by
 obtain⟨T,hT⟩:=Option.isSome_iff_exists.1 hg;simp only[Zr8,hT];cases Xw xs.length lo hi with
 |none=>rfl
 |some p=>simp only[if_true,Xx]
@[simp] theorem Zaw9 {lo hi:Option PV}(hg:(C.T g).isSome=true):Zr8 C (.slice g) (L g b xs) lo hi=bO (Xw xs.length lo hi) fun p=>some (L g (b&&xs.isEmpty) ((xs.drop p.1).take (p.2 - p.1))):=by
 rcases Zp3 g b xs with⟨e,rfl,rfl⟩ | ⟨e,e2⟩
 .rw [e,Z3b hg];simp only[List.length_nil,List.drop_nil,List.take_nil];cases Xw 0 lo hi<;>simp[L]
 .rw [e,Z6y hg,e2];rfl
@[simp] theorem Zaqm {j v o n:Nat}{lo hi:Option PV}:Zr8 C (.slice e) (.own j v g o n) lo hi=none:=rfl
@[simp] theorem Zaqk {j v o n:Nat}{lo hi:Option PV}(hg:(C.T g).isSome=true):sliO C h (.slice g) (.own j v g o n) lo hi=bO (Xw n lo hi) fun p=>bO (h.row j v g) fun _=>some (.own j v g (o+p.1) (p.2 - p.1),h):=by
 obtain⟨T,hT⟩:=Option.isSome_iff_exists.1 hg;simp only[sliO,hT];cases Xw n lo hi<;>cases h.row j v g<;>simp
@[simp] theorem Zakd {T:Ty}{cs:List PV}:Z1m T (.rptr cs)=(X3 cs 0 T.size).bind (toP T.k.agg):=rfl
@[simp] theorem Zaoj {T:Ty}{i v o:Nat}:Z1m T (.ptr i v o)=none:=rfl
@[simp] theorem Zake {T:Ty}{i v g ix o:Nat}:Z1m T (.eptr i v g ix o)=none:=rfl
def Z7v (h:PH)(T:Ty)(ver off:Nat)(p:Nat×PO):Option (PV×PH):=match p with
 | (v,.cells cs)=>if v=ver then ((X3 cs off T.size).bind (toP T.k.agg)).map (·,h) else none
 | _=>none
@[simp] theorem Zah2 {T:Ty}{ver off:Nat}{cs:List PV}:Z7v h T ver off (ver,.cells cs)=((X3 cs off T.size).bind (toP T.k.agg)).map (·,h):=by simp[Z7v]
@[simp] theorem Zaoi {T:Ty}{i ver off:Nat}:Zv4 h T (.ptr i ver off)=bO (h.get i) fun p=>Z7v h T ver off p:=by
 simp only[Zv4];cases h.get i with
 |none=>rfl
 |some p=>
  obtain⟨v,o⟩:=p;cases o<;>rfl
def Z7w (h:PH)(T:Ty)(ix off:Nat)(xs:List PV):Option (PV×PH):=match xs[ix]? with
 |some x=>((X3 (Zc x) off T.size).bind (toP T.k.agg)).map (·,h)
 |none=>none
@[simp] theorem Zaq6 {T:Ty}{ix off:Nat}(h1:ix < xs.length):Z7w h T ix off xs=((X3 (Zc (xs[ix]'h1)) off T.size).bind (toP T.k.agg)).map (·,h):=by
 simp only[Z7w,List.getElem?_eq_getElem h1]
@[simp] theorem Zakc {T:Ty}{i ver ix off:Nat}:Zv4 h T (.eptr i ver g ix off)=bO (h.row i ver g) fun p=>Z7w h T ix off p.2:=by
 simp only[Zv4];cases h.row i ver g<;>rfl
def Zyn (h:PH)(i ver off:Nat)(v:PV)(p:Nat×PO):Option (PV×PH):=match p with
 | (w,.cells cs)=>if w=ver then (Yp cs off (Zc v)).map fun cs=>(.tuple [],h.put i ver (.cells cs)) else none
 | _=>none
@[simp] theorem Zadi {i ver off:Nat}{v:PV}{cs:List PV}:Zyn h i ver off v (ver,.cells cs)=(Yp cs off (Zc v)).map fun cs=>(.tuple [],h.put i ver (.cells cs)):=by simp[Zyn]
@[simp] theorem Zaju {T:Ty}{i ver off:Nat}{v:PV}(h1:(Zc v).length=T.size)(h2:(Zc v).all Wx=true)(h3:can K i=true):Zmr K h T (.ptr i ver off) v=bO (h.get i) fun p=>Zyn h i ver off v p:=by
 simp only[Zmr];rw[if_pos ⟨h1,h2,h3⟩];cases h.get i with
 |none=>rfl
 |some p=>
  obtain⟨v,o⟩:=p;cases o<;>rfl
def Zyo (h:PH)(i ver g ix off:Nat)(v:PV)(p:Bool×List PV):Option (PV×PH):=match p with
 | (true,xs)=>match xs[ix]? with
   |some x=>(S5 x off (Zc v)).map fun x=>(.tuple [],h.put i ver (.row g true (xs.set ix x)))
   |none=>none
 | _=>none
@[simp] theorem Zan3 {i ver ix off:Nat}{v:PV}(h1:ix < xs.length):Zyo h i ver g ix off v (true,xs)=(S5 (xs[ix]'h1) off (Zc v)).map fun x=>(.tuple [],h.put i ver (.row g true (xs.set ix x))):=by
 simp only[Zyo,List.getElem?_eq_getElem h1]
@[simp] theorem Zahs {T:Ty}{i ver ix off:Nat}{v:PV}(h0:ownV v=[])(h1:(Zc v).length=T.size)(h2:(Zc v).all Wx=true)(h4:(Zc v).all (plain 3)=true)(h3:can K i=true):Zmr K h T (.eptr i ver g ix off) v=bO (h.row i ver g) fun p=>Zyo h i ver g ix off v p:=by
 have hi:inlV h v=some v:=by
  have hc:∀cs:List PV,cs.flatMap Zc7=[]->W2 (Zc9 h) cs=some cs:=by
   intro cs
   induction cs with
   |nil=>intro _;rfl
   |cons c cs ih=>
    intro hh;rw[List.flatMap_cons,List.append_eq_nil_iff]at hh;simp only[W2,ih hh.2];cases c<;>simp_all[Zc7,Zc9]
  cases v with
  |agg cs=>simp only[inlV];rw[hc cs h0];rfl
  |own=>simp[ownV,Zc7]at h0
  | _=>rfl
 simp only[Zmr,hi,h0,List.all_nil,PH.freeze];rw[if_pos ⟨h1,h2,h4,h3,trivial⟩];cases h.row i ver g with
 |none=>rfl
 |some p=>
  obtain⟨own,xs⟩:=p;cases own<;>rfl
def Z7q (e:Nat)(te:Ty)(n m:Int)(z:PV):Option Mk:=if 0<=n/\n<=m/\m<=Virt.maxLenV/\te.bytes<=2^16/\(Zc z).length=te.size/\(Zc z).all Wx=true/\plain 4 z=true then some (.slice e n.toNat (.row e true (List.replicate n.toNat z))) else none
@[simp] theorem Zavo {te:Ty}{n m:Int}{z:PV}(h0:0<=n)(h1:n<=m)(h2:m<=1073741824):
  Z7q e te n m z=if te.bytes<=65536/\(Zc z).length=te.size/\(Zc z).all Wx=true/\plain 4 z=true then some (.slice e n.toNat (.row e true (List.replicate n.toNat z))) else none:=by
 have h2':m<=(Virt.maxLenV:Int):=h2;by_cases h:te.bytes<=65536/\(Zc z).length=te.size/\(Zc z).all Wx=true/\plain 4 z=true
 .rw [if_pos h,Z7q,if_pos ⟨h0,h1,h2',h⟩]
 .rw [if_neg h,Z7q,if_neg (fun hh=>h hh.2.2.2)]
@[simp] theorem Zaj5 {n m:Int}{k':IntKind}:mksK C (.slice e) (.int k n) (.int k' m)=bO (C.T e) fun te=>bO (Zah te) fun z=>Z7q e te n m z:=by
 simp only[mksK];cases C.T e with
 |none=>rfl
 |some te=>
  simp only[Xx];cases Zah te with
  |none=>simp only[Z2j];split<;>rfl
  |some z=>
   simp only[Xx,Z7q];by_cases hc:0<=n/\n<=m/\m<=(Virt.maxLenV:Int)/\te.bytes<=2^16
   .rw [if_pos hc];by_cases hc2:(Zc z).length=te.size/\(Zc z).all Wx=true/\plain 4 z=true
    .rw [if_pos hc2,if_pos ⟨hc.1,hc.2.1,hc.2.2.1,hc.2.2.2,hc2⟩]
    .rw [if_neg hc2,if_neg (fun hh=>hc2 hh.2.2.2.2)]
   .rw [if_neg hc,if_neg (fun hh=>hc ⟨hh.1,hh.2.1,hh.2.2.1,hh.2.2.2.1⟩)]
@[simp] theorem Zanc {d:Nat}{k':TK}{s x:PV}(hk:∀j,k'≠.int j)(hx:∀b,x≠.str b):Zxt C K h d (.slice e) k' s x=bO (C.T e) fun ty=>bO (h.elems e x) fun ys=>Xl K h d e ty ys.length ys s:=by
 simp only[Zxt];cases C.T e with
 |none=>rfl
 |some ty=>
  simp only[Xx];cases k' with
  |int j=>exact absurd rfl (hk j)
  | _=>
    cases x with
    |str b=>exact absurd rfl (hx b)
    | _=>first | rfl | (generalize PH.elems _ _ _=z;cases z<;>rfl)
@[simp] theorem Zam4 {d:Nat}{k':TK}{s x:PV}(hk:∀j,k'≠.int j)(hx:∀b,x≠.str b):copK C K h d (.slice e) k' s x=bO (C.T e) fun ty=>bO (h.elems e x) fun ys=>Zld h e ty ys s:=by
 simp only[copK];cases C.T e with
 |none=>rfl
 |some ty=>
  simp only[Xx];cases k' with
  |int j=>exact absurd rfl (hk j)
  | _=>
    cases x with
    |str b=>exact absurd rfl (hx b)
    | _=>first | rfl | (generalize PH.elems _ _ _=z;cases z<;>rfl)
@[simp] theorem Zau3 {d:Nat}{s:PV}{b:List Nat}:Zxt C K h d (.slice e) .str s (.str b)=bO (C.T e) fun ty=>if ty.size=1 then Xl K h d e ty b.length (b.map fun (b:Nat)=>.int .u8 (b:Int)) s else none:=by
 simp only[Zxt];cases C.T e<;>rfl
@[simp] theorem Zapx {s:List Nat}:(L g b xs=.str s)=False:=by
 rcases Zp3 g b xs with⟨e,_⟩ | ⟨e,_⟩<;>rw[e]<;>simp
def Zxu (K:Loc)(h:PH)(T:Ty)(g i ver off len n:Nat)(ys:List PV)(p:Bool×List PV):Option (PV×PH):=
 if len+n<=Virt.maxLenV/\T.bytes<=2^16/\0 < T.size/\can K i=true/\p.1=true/\off+len<=p.2.length then some (.own i (ver+1) g 0 (len+n),h.put i (ver+1) (.row g true ((p.2.drop off).take len++ys))) else none
@[simp] theorem Zma {T:Ty}{i ver off len n:Nat}{ys:List PV}{p:Bool×List PV}(h1:len+n<=1073741824)(h2:T.bytes<=65536)(h3:0 < T.size)(h4:can K i=true)(h5:p.1=true)(h6:off+len<=p.2.length):
  Zxu K h T g i ver off len n ys p=some (.own i (ver+1) g 0 (len+n),h.put i (ver+1) (.row g true ((p.2.drop off).take len++ys))):=by
 have h1':len+n<=Virt.maxLenV:=h1;rw[Zxu,if_pos ⟨h1',h2,h3,h4,h5,h6⟩]
theorem Qm {T:Ty}{i ver off len n d:Nat}{ys:List PV}:Xl K h d g T n ys (.own i ver g off len)=bO (h.row i ver g) fun p=>Zxu K h T g i ver off len n ys p:=by
 simp only[Xl,true_and];cases h.row i ver g with
 |none=>simp only[Z2j];split<;>rfl
 |some p=>
  obtain⟨own,zs⟩:=p;simp only[Xx,Zxu];by_cases hc:len+n<=Virt.maxLenV/\T.bytes<=2^16/\0 < T.size/\can K i=true
  .rw [if_pos hc];cases own with
   |false=>
    rw[if_neg (fun hh=>by have:=hh.2.2.2.2.1;cases this)]
   |true=>
    by_cases hd:off+len<=zs.length
    .simp only [hd,if_true];rw[if_pos ⟨hc.1,hc.2.1,hc.2.2.1,hc.2.2.2,trivial,trivial⟩]
    .simp only [hd,if_false];rw[if_neg (fun hh=>by have:=hh.2.2.2.2.2;exact this)]
  .rw [if_neg hc,if_neg (fun hh=>hc ⟨hh.1,hh.2.1,hh.2.2.1,hh.2.2.2.1⟩)]
@[simp] theorem Zam3 {T:Ty}{ys:List PV}(h1:ys.length<=1073741824)(h2:T.bytes<=65536)(h3:0 < T.size):Zld h g T ys .nils=some (L g true ys,h):=by
 have h1':ys.length<=Virt.maxLenV:=h1;unfold Zld;simp only;rw[if_pos ⟨h1',h2,h3⟩];cases ys with
 |nil=>rfl
 |cons y ys=>rfl
theorem Zaa {T:Ty}{n d:Nat}{ys:List PV}(h1:n<=1073741824)(h2:T.bytes<=65536)(h3:0 < T.size)(h4:n≠0):
  Xl K h d g T n ys .nils=some (.own (K.base+d) (h.stamp (K.base+d)) g 0 n,h.put (K.base+d) (h.stamp (K.base+d)) (.row g true ys)):=by
 have h1':n<=Virt.maxLenV:=h1;simp only[Xl];rw[if_pos ⟨h1',h2,h3⟩,if_neg h4]
attribute [simp] Qm Zaa
@[simp] theorem Zauy {k:TK}{j j':IntKind}{n:Int}:Z5i k (.int j) (.int j' n)=some (.int j (j.wrap n)):=by cases k<;>rfl
@[simp] theorem Zaux {k:TK}{s:List Nat}:Z5i k .str (.str s)=some (.str s):=by cases k<;>rfl
@[simp] theorem Zam1 {s:List Nat}:Z5i .str (.slice e) (.str s)=none:=rfl
@[simp] theorem Zam0 {v:PV}(hv:∀s,v≠.str s):Z5i (.slice e) .str v=none:=by
 cases v<;>first | rfl | exact absurd rfl (hv _)
@[simp] theorem Zapt {e':Nat}{v:PV}:Z5i (.slice e) (.slice e') v=none:=by cases v<;>rfl
@[simp] theorem Zamz {d:Nat}{s:List Nat}:Z5h C K h (some d) .str (.slice e) (.str s)=bO (C.T e) fun te=>match te.k with
  | .int .u8=>if s.length<=Virt.maxLenV/\te.size=1 then some (.own (K.base+d) (h.stamp (K.base+d)) e 0 s.length,h.put (K.base+d) (h.stamp (K.base+d)) (.row e true (s.map fun (b:Nat)=>.int .u8 (b:Int)))) else none
  | _=>none:=by
 simp only[Z5h];cases C.T e<;>rfl
@[simp] theorem Zamy {d:Option Nat}{v:PV}:Z5h C K h d (.slice e) .str v=bO (C.T e) fun te=>match te.k with
  | .int .u8=>if te.size=1 then bO (h.elems e v) fun xs=>bO (Zf.bytesP xs) fun b=>some (.str b,h) else none
  | _=>none:=by
 simp only[Z5h];cases C.T e with
 |none=>rfl
 |some te=>
  simp only[Xx];split
  .split
   .cases h.elems e v with
    |none=>rfl
    |some xs=>simp only[Option.bind_some,Xx];cases Zf.bytesP xs<;>rfl
   .rfl
  .rfl
@[simp high] theorem Zapv {C:Ctx}{t:Nat}:Zcx C .eql t (L g b xs) .nils=bO (C.T t) fun T=>match T.k with | .slice _=>some (.bool (b&&xs.isEmpty)) | _=>none:=by
 cases hT:C.T t with
 |none=>rcases Zp3 g b xs with⟨e,rfl,rfl⟩ | ⟨e,e2⟩<;>rw[e]<;>simp[hT]
 |some T=>
  simp only[Xx];rcases Zp3 g b xs with⟨e,rfl,rfl⟩ | ⟨e,e2⟩
  .rw [e];simp only[Zp2,eqP,hT];cases T.k<;>rfl
  .rw [e,e2];simp only[Zti,eqP,hT];cases T.k<;>rfl
end
@[simp high] theorem Zajw {g:Nat}{b:Bool}{xs:List PV}{v:PV}:S5 (L g b xs) 0 [v]=some v:=by
 rcases Zp3 g b xs with⟨e,_⟩ | ⟨e,_⟩<;>rw[e]<;>rfl
attribute [simp] S5.eq_1 S5.eq_2 Yp
def resC (h:PH)(T:Ty)(v:PV)(vs:List PV):Option (List PV):=match v with
 | .ptr i ver off=>match h.get i with
   |some (w,.cells cs)=>if w=ver then ((X3 cs off T.size).bind (toP T.k.agg)).map (·::vs) else none
   | _=>none
 | _=>none
@[simp] theorem Zan6 {C:Ctx}{sl:Yt}{h:PH}{a t:Nat}{r:List ResultVar}:Uz C sl h (.cell a t::r)=bO (sl a) fun v=>bO (C.T t) fun T=>bO (Uz C sl h r) fun vs=>resC h T v vs:=by
 simp only[Uz];cases sl a with
 |none=>rfl
 |some v=>
  cases C.T t with
  |none=>cases v<;>rfl
  |some T=>
   cases Uz C sl h r with
   |none=>cases v<;>rfl
   |some vs=>cases v<;>rfl
def resD (T:Ty)(ver off:Nat)(vs:List PV)(p:Nat×PO):Option (List PV):=match p with
 | (w,.cells cs)=>if w=ver then ((X3 cs off T.size).bind (toP T.k.agg)).map (·::vs) else none
 | _=>none
@[simp] theorem Zajy {T:Ty}{ver off:Nat}{vs cs:List PV}:resD T ver off vs (ver,.cells cs)=((X3 cs off T.size).bind (toP T.k.agg)).map (·::vs):=by simp[resD]
@[simp] theorem Zaqs {h:PH}{T:Ty}{i ver off:Nat}{vs:List PV}:resC h T (.ptr i ver off) vs=bO (h.get i) fun p=>resD T ver off vs p:=by
 simp only[resC];cases h.get i with
 |none=>rfl
 |some p=>
  obtain⟨w,o⟩:=p;cases o<;>rfl
@[simp] theorem Zapr {pl:Nat->Option (Nat×Nat)}{cells:List PV}:Zgf pl cells []=some cells:=rfl
@[simp] theorem Zamv {pl:Nat->Option (Nat×Nat)}{cells:List PV}{i:Nat}{v:PV}{r:List (Nat×PV)}:Zgf pl cells ((i,v)::r) =
  bO (pl i) fun p=>if (Zc v).length=p.2/\p.1+p.2<=cells.length/\(Zc v).all Wx=true then bO (Yp cells p.1 (Zc v)) fun Wz=>Zgf pl Wz r else none:=by
 simp only[Zgf];cases pl i with
 |none=>rfl
 |some p=>
  obtain⟨o,s⟩:=p;simp only[Xx];split
  .cases Yp cells o (Zc v)<;>rfl
  .rfl
section
variable {k:IntKind}{a b:Int}
@[simp] theorem Zarq:Ri .add k k a b=some (.int k (k.wrap (a+b))):=by simp[Ri]
@[simp] theorem Zarf:Ri .sub k k a b=some (.int k (k.wrap (a - b))):=by simp[Ri]
@[simp] theorem Zark:Ri .mul k k a b=some (.int k (k.wrap (a*b))):=by simp[Ri]
@[simp] theorem Zari:Ri .quo k k a b=if b=0 then none else some (.int k (k.wrap (a.tdiv b))):=by simp[Ri]
@[simp] theorem Zarh:Ri .rem k k a b=if b=0 then none else some (.int k (a.tmod b)):=by simp[Ri]
@[simp] theorem Zarp:Ri .eql k k a b=some (.bool (a==b)):=by simp[Ri]
@[simp] theorem Zarj:Ri .neq k k a b=some (.bool (!(a==b))):=by simp[Ri,bne]
@[simp] theorem Zarl:Ri .lss k k a b=some (.bool (a < b)):=by simp[Ri]
@[simp] theorem Zarm:Ri .leq k k a b=some (.bool (a<=b)):=by simp[Ri]
@[simp] theorem Zarn:Ri .gtr k k a b=some (.bool (b < a)):=by simp[Ri]
@[simp] theorem Zaro:Ri .geq k k a b=some (.bool (b<=a)):=by simp[Ri]
@[simp] theorem Zarg {k':IntKind}(h:0<=b):Ri .shl k k' a b=some (.int k (k.wrap (a*2^min b.toNat k.bits))):=by
 simp only[Ri];rw[if_neg (by omega)]
end
@[simp high] theorem Zaqh {a b:List Nat}(h:a.length+b.length<=4611686018427387904):Zpd .add a b=some (.str (a++b)):=by simp[Zpd,h]
@[simp] theorem Zaqg {a b:List Nat}:Zpd .eql a b=some (.bool (a==b)):=rfl
@[simp] theorem Zaqd {a b:List Nat}:Zpd .neq a b=some (.bool (!(a==b))):=rfl
@[simp] theorem Zaqe {a b:List Nat}:Zpd .lss a b=some (.bool (ltL a b)):=rfl
@[simp] theorem Zaqf {a b:List Nat}:Zpd .gtr a b=some (.bool (!(ltL a b||a==b))):=rfl
section
variable {k k':IntKind}{i j:Int}{n:Nat}
@[simp high] theorem Zam7 (h0:0<=i)(h:i<=n):Xw n (some (.int k i)) none=some (i.toNat,n):=by
 have:i.toNat<=n:=by omega
 simp[Xw,Zll,h0,this]
@[simp high] theorem Zam6 (h0:0<=j)(h:j<=n):Xw n none (some (.int k j))=some (0,j.toNat):=by
 have:j.toNat<=n:=by omega
 simp[Xw,Zll,h0,this]
@[simp high] theorem Zam8 (h0:0<=i)(h1:i<=j)(h:j<=n):Xw n (some (.int k i)) (some (.int k' j))=some (i.toNat,j.toNat):=by
 have h2:j.toNat<=n:=by omega
 have h3:i.toNat<=j.toNat:=by omega
 have h4:0<=j:=by omega
 simp[Xw,Zll,h0,h2,h3,h4]
end
end Go.Pure
end
section
namespace Go.Pure
open Go
open Go.Virt (Ex Ctx Ty TK Yc)
def Vj (sl Yv:Yt)(l:List Operand):Prop:=∀x,x∈l->Yu sl x=Yu Yv x
theorem Vj.opds {sl Yv:Yt}:∀ {l:List Operand},Vj sl Yv l->W9 sl l=W9 Yv l
 | [],_=>rfl
 |x::r,h=>by
  have h1:=h x List.mem_cons_self;have h2:=Vj.opds (l:=r) fun y hy=>h y (List.mem_cons_of_mem _ hy)
  rw[Zat,Zat,h1,h2]
theorem Vj.parts {sl Yv:Yt}:∀ {l:List (Nat×Operand)},Vj sl Yv (l.map (·.2))->U1 sl l=U1 Yv l
 | [],_=>rfl
 | (i,x)::r,h=>by
   have h1:=h x (by simp);have h2:=Vj.parts (l:=r) fun y hy=>h y (by simp at hy ⊢;exact Or.inr hy)
   rw[Zku,Zku,h1,h2]
theorem Vj.opt {sl Yv:Yt}{o:Option Operand}(h:Vj sl Yv o.toList):S8 sl o=S8 Yv o:=by
 cases o with
 |none=>rfl
 |some x=>simp only[S8];rw[h x (by simp)]
theorem Vj.mono {sl Yv:Yt}{l l':List Operand}(h:Vj sl Yv l)(hm:∀x,x∈l'->x∈l):Vj sl Yv l':=fun x hx=>h x (hm x hx)
section
variable {C:Ctx}{cf:CF}{yf:YF}{K:Loc}{all:List Oper}{sl Yv:Yt}{h:PH}
theorem Zw1 {o:Oper}(ha:Vj sl Yv o.op.operands.toList):Yk C sl o=Yk C Yv o:=by
 obtain⟨d,op,ty,pos,af,gd⟩:=o;cases op with
 |move x=>simp only[Yk];rw[ha x (by simp[Op.operands])]
 |assign x=>simp only[Yk];rw[ha x (by simp[Op.operands])]
 |pick c a b=>simp only[Yk];rw[ha c (by simp[Op.operands]),ha a (by simp[Op.operands]),ha b (by simp[Op.operands])]
 |build t ps=>
  have:U1 sl ps.toList=U1 Yv ps.toList:=Vj.parts (ha.mono fun x hx=>by simpa[Op.operands]using hx);simp only[Yk,this]
 |load t a=>rw[Zrd,Zrd,ha a (by simp[Op.operands])]
 |nilCheck x=>simp only[Yk];rw[ha x (by simp[Op.operands])]
 |binOp op t x y yt=>simp only[Yk];rw[ha x (by simp[Op.operands]),ha y (by simp[Op.operands])]
 |unOp op t x=>simp only[Yk];rw[ha x (by simp[Op.operands])]
 |convert s t x=>rw[Zit,Zit,ha x (by simp[Op.operands])]
 |makeInterface t x=>simp only[Yk];rw[ha x (by simp[Op.operands])]
 |makeFunc f a b=>
  have h1:W9 sl a.toList=W9 Yv a.toList:=Vj.opds (ha.mono fun x hx=>by simp[Op.operands];exact Or.inl (by simpa using hx));have h2:W9 sl b.toList=W9 Yv b.toList:=Vj.opds (ha.mono fun x hx=>by simp[Op.operands];exact Or.inr (by simpa using hx));simp only[Yk,h1,h2]
 |slice t x lo hi mx=>
  have h1:=ha x (by simp[Op.operands]);have h2:S8 sl lo=S8 Yv lo:=Vj.opt (ha.mono fun y hy=>by simp[Op.operands];right;left;simpa using hy);have h3:S8 sl hi=S8 Yv hi:=Vj.opt (ha.mono fun y hy=>by simp[Op.operands];right;right;left;simpa using hy);cases mx with
  |none=>rw[Zn9,Zn9,h1,h2,h3]
  |some m=>simp only[Yk]
 |fieldAddr s x f=>simp only[Yk];rw[ha x (by simp[Op.operands])]
 |field s x f=>simp only[Yk];rw[ha x (by simp[Op.operands])]
 |indexAddr t x i=>rw[Zew,Zew,ha x (by simp[Op.operands]),ha i (by simp[Op.operands])]
 |index t x i=>rw[Zoa,Zoa,ha x (by simp[Op.operands]),ha i (by simp[Op.operands])]
 |lookup t x i ok=>simp only[Yk];rw[ha x (by simp[Op.operands]),ha i (by simp[Op.operands])]
 |extract t i=>simp only[Yk];rw[ha t (by simp[Op.operands])]
 |call c=>
  have:W9 sl c.args.toList=W9 Yv c.args.toList:=Vj.opds (ha.mono fun x hx=>by simp[Op.operands,Call.operands];exact Or.inr (by simpa using hx));simp only[Yk,this]
 | _=>rfl
theorem Zv2 {o:Oper}(ha:Vj sl Yv o.op.operands.toList):V5 C all sl o=V5 C all Yv o:=by
 obtain⟨d,op,ty,pos,af,gd⟩:=o;cases op with
 |box t x=>simp only[V5];rw[ha x (by simp[Op.operands])]
 |buildSlice t n ps=>
  have:U1 sl ps.toList=U1 Yv ps.toList:=Vj.parts (ha.mono fun x hx=>by simpa[Op.operands]using hx);simp only[V5,this]
 |makeSlice t l c=>rw[Zek,Zek,ha l (by simp[Op.operands]),ha c (by simp[Op.operands])]
 |makeMap t r=>cases r<;>rfl
 | _=>rfl
theorem Zr5 {o:Oper}(ha:Vj sl Yv o.op.operands.toList):Zf C cf yf all K sl h o=Zf C cf yf all K Yv h o:=by
 obtain⟨d,op,ty,pos,af,gd⟩:=o;cases op with
 |load t a=>rw[Zmt,Zmt,ha a (by simp[Op.operands])]
 |store t a x=>rw[Zkr,Zkr,ha a (by simp[Op.operands]),ha x (by simp[Op.operands])]
 |convert s t x=>rw[Zbs,Zbs,ha x (by simp[Op.operands])]
 |slice t x lo hi mx=>
  have h1:=ha x (by simp[Op.operands]);have h2:S8 sl lo=S8 Yv lo:=Vj.opt (ha.mono fun y hy=>by simp[Op.operands];right;left;simpa using hy);have h3:S8 sl hi=S8 Yv hi:=Vj.opt (ha.mono fun y hy=>by simp[Op.operands];right;right;left;simpa using hy);cases mx with
  |none=>rw[Zd4,Zd4,h1,h2,h3]
  |some m=>simp only[Zf]
 |indexAddr t x i=>rw[Qo,Qo,ha x (by simp[Op.operands]),ha i (by simp[Op.operands])]
 |lookup t x i ok=>simp only[Zf];rw[ha x (by simp[Op.operands]),ha i (by simp[Op.operands])]
 |mapUpdate t m k x=>simp only[Zf];rw[ha m (by simp[Op.operands]),ha k (by simp[Op.operands]),ha x (by simp[Op.operands])]
 |insert t m k x=>simp only[Zf];rw[ha m (by simp[Op.operands]),ha k (by simp[Op.operands]),ha x (by simp[Op.operands])]
 |call c=>
  have h1:W9 sl c.args.toList=W9 Yv c.args.toList:=Vj.opds (ha.mono fun x hx=>by simp[Op.operands,Call.operands];exact Or.inr (by simpa using hx));obtain⟨cal,args,ats⟩:=c;cases cal with
  |value f=>
   have h2:=ha f (by simp[Op.operands,Call.operands]);simp only[Zf,h1,h2]
  |invoke r m=>simp only[Zf,h1]
  |builtin b=>simp only[Zf,h1]
 | _=>rfl
end
def Zqd (C:Ctx):Op->Bool
 | .load _ _ | .store _ _ _ | .lookup _ _ _ _ | .mapUpdate _ _ _ _ | .insert _ _ _ _=>true
 | .slice t _ _ _ _ | .indexAddr t _ _=>match C.T t with
   |some a=>match a.k with | .slice _=>true | _=>false
   |none=>false
 | .convert s t _=>match C.T s,C.T t with
   |some a,some b=>match a.k,b.k with
    | .str,.slice _=>true
    | .slice _,.str=>true
    | _,_=>false
   | _,_=>false
 | .call c=>match c.callee with
   | .value _=>true
   | .builtin b=>match b with
     | .append | .delete=>true
     | .len=>match (c.argTypes[0]?).bind C.T with
       |some a=>match a.k with | .map _ _=>true | _=>false
       |none=>false
     | _=>false
   | _=>false
 | _=>false
def Zah1:Op->Bool
 | .alloc _ | .box _ _ | .buildSlice _ _ _ | .makeSlice _ _ _ | .makeMap _ _=>true
 | _=>false
def litO (all:List Oper)(o:Oper):Bool:=match o.op with
 | .buildSlice _ _ _=>match o.dst with | some d=>Znj all d | none=>false
 | _=>false
def Znf (all:List Oper)(o:Oper):Bool:=Zah1 o.op&&!litO all o
def Zxk:Op->Bool
 | .call c=>match c.callee with | .value _=>true | _=>false
 | _=>false
def Zah3:Op->Bool
 | .load _ _ | .indexAddr _ _ _=>true
 | _=>false
structure Md where
 pf:Bool
 ld:Bool
 fr:List Nat
 rd:List Nat:=[]
 ids:List Nat:=[]
 fl:List Nat:=[]
 ls:Bool:=false
def Md.inRd (m:Md)(o:Oper):Bool:=match o.dst with | some d=>m.rd.contains d | none=>false
def Md.inFl (m:Md)(o:Oper):Bool:=match o.dst with | some d=>m.fl.contains d | none=>m.fl.contains 1000000
def Z5j (h0 h:PH)(u:Nat):Bool:=match h.get u,h0.get u with
 |some (v,_),some (w,_)=>Nat.beq v w
 | _,_=>false
def Zaaq (h:PH)(u:Nat):Bool:=match h.get u with | some (_,.cells _)=>true | some (_,.row _ true _)=>true | _=>false
def Md.okB (m:Md)(h0 h:PH)(sl:Yt)(o:Oper)(v:PV):Bool:=match Zid sl o with
 |some (u,ver)=>m.ids.contains u&&(match h0.get u with | some (w,_)=>Nat.beq w ver | none=>false)&&(Xz 4 v||(m.ls&&Zaaq h u))&&W5 3 v
 |none=>false
def Md.free (m:Md)(o:Oper):Bool:=(m.ld&&Zah3 o.op)||(match o.dst with | some d=>m.fr.contains d | none=>false)
def Vm (pf:Md)(o:Oper):Bool:=Tb o&&!(pf.pf&&Zxk o.op)
def Zaj (C:Ctx)(pf:Md)(o:Oper):Bool:=Zqd C o.op&&!pf.free o
def Zaqi (C:Ctx)(pf:Md)(ops:Array Oper):Bool:=
 let masks:=Region.before ops
 ops.toList.zipIdx.all fun (o,i)=>!Zaj C pf o||ops.toList.zipIdx.all fun (p,j)=>!Nat.blt j i||((!Znf ops.toList p||(masks.getD i 0).testBit j||pf.inRd o)&&(!Zaj C pf p||(!Vm pf o&&!Vm pf p)||(masks.getD i 0).testBit j||(pf.inRd o&&pf.inFl p)||(pf.inRd p&&pf.inFl o&&!Vm pf p)))
def Zaht (C:Ctx)(pf:Md)(ops:Array Oper):Bool:=!pf.ls||ops.toList.zipIdx.all fun (o,i)=>!pf.inRd o||ops.toList.zipIdx.all fun (p,j)=>!Nat.blt j i||!Zaj C pf p||!Vm pf p||pf.inFl p
def Zf5 (C:Ctx)(pf:Md)(ops:Array Oper):Bool:=Zaqi C pf ops&&Zaht C pf ops
structure Stat (C:Ctx)(pf:Md)(ops:Array Oper):Prop where
 ok:Zf5 C pf ops=true
def Zar (pf:Md)(h0:PH)(C:Ctx)(cf:CF)(yf:YF)(K:Loc)(all:List Oper):List Oper->Yt->PH->Option (Yt×PH)
 | [],sl,h=>some (sl,h)
 |o::r,sl,h=>
  match Vx all sl o with
  |some true=>match Yk C sl o with
   |some v=>if W5 3 v=true then Zar pf h0 C cf yf K all r (putP sl o.dst v) h else none
   |none=>match V5 C all sl o with
    |some m=>match m.obj,o.dst with
     |none,_=>Zar pf h0 C cf yf K all r (putP sl o.dst (m.val 0 0)) h
     |some ob,some d=>Zar pf h0 C cf yf K all r (sl.put d (m.val (K.base+d) (h.stamp (K.base+d)))) (h.put (K.base+d) (h.stamp (K.base+d)) ob)
     |some _,none=>none
    |none=>match Zf C cf yf all K sl h o with
     |some (v,h')=>if (!pf.free o&&(!(pf.pf&&Zxk o.op)||Rq C sl o v)&&(!pf.inRd o||pf.okB h0 h sl o v)&&(!pf.inFl o||pf.ids.all fun u=>Wk (X5 C K sl h o) u&&Z5j h0 h u))=true then Zar pf h0 C cf yf K all r (putP sl o.dst v) h' else none
     |none=>none
  |some false=>Zar pf h0 C cf yf K all r (putP sl o.dst (.tuple [])) h
  |none=>none
section
variable {C:Ctx}{cf:CF}{yf:YF}{K:Loc}
theorem Zvd {sl Yv:Yt}{o:Oper}{v:PV}(ha:Vj sl Yv o.op.operands.toList):Rq C sl o v=Rq C Yv o v:=by
 obtain⟨d,op,ty,pos,af,gd⟩:=o;cases op with
 |call c=>
  obtain⟨cal,args,ats⟩:=c;have h1:W9 sl args.toList=W9 Yv args.toList:=Vj.opds (ha.mono fun x hx=>by simp[Op.operands,Call.operands];exact Or.inr (by simpa using hx));cases cal with
  |value f=>
   have h2:=ha f (by simp[Op.operands,Call.operands]);simp only[Rq,h1,h2]
  | _=>rfl
 | _=>rfl
theorem Zv3 {sl Yv:Yt}{o:Oper}(ha:Vj sl Yv o.op.operands.toList):Zid sl o=Zid Yv o:=by
 obtain⟨d,op,ty,pos,af,gd⟩:=o;cases op with
 |load t a=>simp only[Zid];rw[ha a (by simp[Op.operands])]
 | _=>rfl
theorem Zhp {sl Yv:Yt}{h:PH}{o:Oper}(ha:Vj sl Yv o.op.operands.toList):X5 C K sl h o=X5 C K Yv h o:=by
 obtain⟨d,op,ty,pos,af,gd⟩:=o;cases op with
 |store t a x=>simp only[X5];rw[ha a (by simp[Op.operands]),ha x (by simp[Op.operands])]
 |call c=>
  obtain⟨cal,args,ats⟩:=c;have h1:W9 sl args.toList=W9 Yv args.toList:=Vj.opds (ha.mono fun x hx=>by simp[Op.operands,Call.operands];exact Or.inr (by simpa using hx));cases cal with
  |value f=>
   have h2:=ha f (by simp[Op.operands,Call.operands]);simp only[X5,h1,h2]
  |builtin b=>
   cases b with
   |append=>
    simp only[X5];cases hl:args.toList with
    |nil=>rfl
    |cons x r=>
     have hm:x∈args.toList:=by rw[hl];simp
     have hx:=ha x (by simp[Op.operands,Call.operands];simpa using hm);cases d with
     |none=>rfl
     |some d=>simp only[hx]
   | _=>rfl
  | _=>rfl
 | _=>rfl
theorem Zv0 {all:List Oper}{sl:Yt}{o:Oper}{m:Mk}(h:V5 C all sl o=some m):Zah1 o.op=true:=by
 obtain⟨d,op,ty,pos,af,gd⟩:=o;cases op<;>first | rfl | (simp only[V5]at h;cases h)
theorem Zv1 {all:List Oper}{sl:Yt}{o:Oper}{m:Mk}{ob:PO}(h:V5 C all sl o=some m)(Tq:m.obj=some ob):Znf all o=true:=by
 have h1:=Zv0 h;unfold Znf;rw[h1];obtain⟨d,op,ty,pos,af,gd⟩:=o;cases op with
 |buildSlice t len ps=>
  cases d with
  |none=>rfl
  |some d=>
   cases hl:Znj all d with
   |false=>simp only[litO,hl];rfl
   |true=>
    simp only[V5,hl,if_true]at h;split at h
    .split at h
     .split at h
      .split at h
       .split at h
        .split at h
         .split at h
          .cases h;cases Tq
          .cases h
         .cases h
        .cases h
       .cases h
      .cases h
     .cases h
    .cases h
 | _=>rfl
theorem Zr4 {all:List Oper}{sl:Yt}{h:PH}{o:Oper}{r:PV×PH}(he:Zf C cf yf all K sl h o=some r):Zqd C o.op=true:=by
 obtain⟨d,op,ty,pos,af,gd⟩:=o;cases op with
 |convert s t x=>
  rw[Zbs]at he;simp only[Zqd];cases hs:C.T s with
  |none=>rw[hs]at he;cases he
  |some a=>
   cases ht:C.T t with
   |none=>rw[hs,ht]at he;cases he
   |some b=>
    simp only[hs,ht,Xx]at he ⊢;cases hx:Yu sl x with
    |none=>rw[hx]at he;cases he
    |some v=>
     rw[hx]at he;simp only[Xx,Z5h]at he;split at he
     .rename_i h1 h2;simp only[h1,h2]
     .rename_i h1 h2;simp only[h1,h2]
     .cases he
 |call c=>
  obtain⟨cal,args,ats⟩:=c;simp only[Zf]at he;split at he
  .cases he
  .cases cal with
   |value f=>rfl
   |invoke r m=>cases he
   |builtin b=>
    cases b with
    |append=>rfl
    |delete=>rfl
    |len=>
     simp only[Zqd];simp only at he;split at he
     .rename_i hb hx;cases hT:(ats[0]?).bind C.T with
      |none=>rw[hT]at he;cases he
      |some T=>
       rw[hT]at he;simp only at he ⊢;cases hk:T.k<;>first | rfl | (rw[hk]at he;cases he)
     .rename_i hb hx;cases hb
     .rename_i hb hx;cases hb
     .cases he
    | _=>simp only at he;cases he
 |slice t x lo hi mx=>
  cases mx with
  |some m=>simp only[Zf]at he;cases he
  |none=>
   rw[Zd4]at he;simp only[Zqd];cases hT:C.T t with
   |none=>rw[hT]at he;cases he
   |some T=>
    rw[hT]at he;simp only[Xx]at he ⊢;cases hx:Yu sl x with
    |none=>rw[hx]at he;cases he
    |some v=>
     rw[hx]at he;simp only[Xx]at he;cases h1:S8 sl lo with
     |none=>rw[h1]at he;cases he
     |some l=>
      rw[h1]at he;simp only[Xx]at he;cases h2:S8 sl hi with
      |none=>rw[h2]at he;cases he
      |some u=>
       rw[h2]at he;simp only[Xx,sliO]at he;cases v<;>first | (cases he;done) | skip
       cases hk:T.k<;>first | rfl | (rw[hk]at he;cases he)
 |indexAddr t x i=>
  rw[Qo]at he;simp only[Zqd];cases hT:C.T t with
  |none=>rw[hT]at he;cases he
  |some T=>
   rw[hT]at he;simp only[Xx]at he ⊢;cases hx:Yu sl x with
   |none=>rw[hx]at he;cases he
   |some v=>
    rw[hx]at he;simp only[Xx]at he;cases hi:Yu sl i with
    |none=>rw[hi]at he;cases he
    |some w=>
     rw[hi]at he;simp only[Xx,idxO]at he;cases v<;>first | (cases he;done) | skip
     cases w<;>first | (cases he;done) | skip
     cases hk:T.k<;>first | rfl | (rw[hk]at he;cases he)
 | _=>first | rfl | (simp only[Zf]at he;cases he)
theorem Zsg {pf:Md}{h0:PH}{ops:Array Oper}(hS:Stat C pf ops):∀(l done:List Oper) (s:PD) (r:Yt×PH),ops.toList=done++l ->
  (∀p,p∈s.st->∃o,ops.toList[p.1]?=some o/\p.1 < done.length/\Zaj C pf o=true/\(p.2=true->Vm pf o=true)/\pf.inRd o=false)->(∀j,j∈s.made->∃o,ops.toList[j]?=some o/\j < done.length/\Znf ops.toList o=true) ->
  (∀p,p∈s.rb->∃o,ops.toList[p.1]?=some o/\p.1 < done.length/\Zaj C pf o=true/\(pf.inRd o=true->p.2∈pf.ids))->(∀p,p∈s.wt->∃o,ops.toList[p.1]?=some o/\p.1 < done.length/\Zaj C pf o=true/\Vm pf o=true/\(pf.inFl o=true->∀u,u∈pf.ids->Wk p.2 u=true))->(∀u,s.old u=(h0.get u).map (·.1)) ->
  Zar pf h0 C cf yf K ops.toList l s.sl s.h=some r->∃s',Qt C cf yf K ops.toList (Region.before ops) l done.length s=some s'/\(s'.sl,s'.h)=r:=by
 intro l
 induction l with
 |nil=>
  intro done s r hd h1 h2 h3 h4 hol he;simp only[Zar,Option.some.injEq]at he;exact⟨s,rfl,he⟩
 |cons o l ih=>
  intro done s r hd h1 h2 h3 h4 hol he;have hd':ops.toList=(done++[o])++l:=by rw[hd];simp
  have hlen:(done++[o]).length=done.length+1:=by simp
  have hio:ops.toList[done.length]?=some o:=by rw[hd];simp
  have hpk:∀t,t∈Yc ops.toList o->(fun t=>if (Yc ops.toList o).contains t then s.sl t else none) t=s.sl t:=by
   intro t ht;have:(Yc ops.toList o).contains t=true:=by simpa using ht
   simp only[this,if_true]
  have hag:Vj (fun t=>if (Yc ops.toList o).contains t then s.sl t else none) s.sl o.op.operands.toList:=by
   intro x hx;cases x with
   |tmp t=>
    refine hpk t ?_;unfold Yc;refine List.mem_append_left _ (List.mem_filterMap.2 ⟨.tmp t,hx,rfl⟩)
   | _=>rfl
  have hw:Vx ops.toList (fun t=>if (Yc ops.toList o).contains t then s.sl t else none) o=Vx ops.toList s.sl o:=by
   unfold Vx;cases hg:o.guard with
   |none=>rfl
   |some p=>
    obtain⟨j,want⟩:=p;simp only;cases hj:(ops.toList[j]?).bind (·.dst) with
    |none=>rfl
    |some d=>
     simp only
     have:d∈Yc ops.toList o:=by
      unfold Yc;refine List.mem_append_right _ ?_;rw[hg];simp only[hj,Option.toList,List.mem_singleton]
     have:=hpk d this;simp only at this;rw[this]
  have Za16:∀p,p∈s.st->∃o,ops.toList[p.1]?=some o/\p.1 < (done++[o]).length/\Zaj C pf o=true/\(p.2=true->Vm pf o=true)/\pf.inRd o=false:=fun p hp=>by
   obtain⟨o',a,b,c⟩:=h1 p hp;exact⟨o',a,by simp;omega,c⟩
  have Zqx:∀j,j∈s.made->∃o',ops.toList[j]?=some o'/\j < (done++[o]).length/\Znf ops.toList o'=true:=fun j hj=>by
   obtain⟨o',a,b,c⟩:=h2 j hj;exact⟨o',a,by simp;omega,c⟩
  have Zj2:∀p,p∈s.st->∃o',ops.toList[p.1]?=some o'/\p.1 < (done++[o]).length/\Zaj C pf o'=true/\(p.2=true->Vm pf o'=true)/\pf.inRd o'=false:=fun p hp=>by
   obtain⟨o',a,b,c⟩:=h1 p hp;exact⟨o',a,by simp;omega,c⟩
  have Za15:∀p,p∈s.rb->∃o,ops.toList[p.1]?=some o/\p.1 < (done++[o]).length/\Zaj C pf o=true/\(pf.inRd o=true->p.2∈pf.ids):=fun p hp=>by
   obtain⟨o',a,b,c⟩:=h3 p hp;exact⟨o',a,by simp;omega,c⟩
  have Znm:∀p,p∈s.wt->∃o',ops.toList[p.1]?=some o'/\p.1 < (done++[o]).length/\Zaj C pf o'=true/\Vm pf o'=true/\(pf.inFl o'=true->∀u,u∈pf.ids->Wk p.2 u=true):=fun p hp=>by
   obtain⟨o',a,b,c⟩:=h4 p hp;exact⟨o',a,by simp;omega,c⟩
  have Zj1:∀p,p∈s.rb->∃o',ops.toList[p.1]?=some o'/\p.1 < (done++[o]).length/\Zaj C pf o'=true/\(pf.inRd o'=true->p.2∈pf.ids):=fun p hp=>by
   obtain⟨o',a,b,c⟩:=h3 p hp;exact⟨o',a,by simp;omega,c⟩
  simp only[Zar]at he;simp only[Qt,Zdl,hw,Zw1 hag,Zv2 hag,Zr5 hag];cases hwt:Vx ops.toList s.sl o with
  |none=>rw[hwt]at he;cases he
  |some w=>
   rw[hwt]at he;cases w with
   |false=>
    simp only at he ⊢;have:=ih (done++[o]) {s with sl:=putP s.sl o.dst (.tuple [])} r hd' Zj2 Zqx Zj1 Znm hol he
    rwa [hlen]at this
   |true=>
    simp only at he ⊢;cases hf:Yk C s.sl o with
    |some v=>
     rw[hf]at he;simp only at he ⊢;split at he
     .rename_i hsm;rw[if_pos hsm];have:=ih (done++[o]) {s with sl:=putP s.sl o.dst v} r hd' Zj2 Zqx Zj1 Znm hol he
      rwa [hlen]at this
     .cases he
    |none=>
     rw[hf]at he;simp only at he ⊢;cases hm:V5 C ops.toList s.sl o with
     |some m=>
      rw[hm]at he;simp only at he ⊢;cases Tq:m.obj with
      |none=>
       rw[Tq]at he;simp only at he ⊢;have:=ih (done++[o]) {s with sl:=putP s.sl o.dst (m.val 0 0)} r hd' Zj2 Zqx Zj1 Znm hol he
       rwa [hlen]at this
      |some ob=>
       rw[Tq]at he;cases Rl:o.dst with
       |none=>rw[Rl]at he;cases he
       |some d=>
        rw[Rl]at he;simp only at he ⊢
        have:=ih (done++[o]) {s with sl:=s.sl.put d (m.val (K.base+d) (s.h.stamp (K.base+d))),h:=s.h.put (K.base+d) (s.h.stamp (K.base+d)) ob,made:=done.length::s.made} r hd' Zj2 (fun j hj=>by
         rcases List.mem_cons.1 hj with rfl | hj
         .exact ⟨o,hio,by simp,Zv1 hm Tq⟩
         .exact Zqx j hj) Zj1 Znm hol he
        rwa [hlen]at this
     |none=>
      rw[hm]at he;simp only at he ⊢;cases Xj:Zf C cf yf ops.toList K s.sl s.h o with
      |none=>rw[Xj]at he;cases he
      |some p=>
       obtain⟨v,h'⟩:=p;rw[Xj]at he;simp only at he ⊢;split at he
       .rename_i hpc;rw[Bool.and_eq_true,Bool.and_eq_true,Bool.and_eq_true]at hpc;obtain⟨⟨⟨hpf,hpc⟩,hrd⟩,Un⟩:=hpc
        have hwi:(Tb o&&!Rq C s.sl o v)=true->Vm pf o=true:=by
         intro hh;rw[Bool.and_eq_true,Bool.not_eq_true']at hh;unfold Vm;rw[hh.1,Bool.true_and];rw[hh.2,Bool.or_false]at hpc;exact hpc
        have hso:Zaj C pf o=true:=by unfold Zaj;rw[Zr4 Xj,hpf];rfl
        have hok:=hS.ok;unfold Zf5 at hok;rw[Bool.and_eq_true]at hok
        have hB:=List.all_eq_true.1 hok.1 (o,done.length) (by
         rw[List.mem_zipIdx_iff_getElem?];simpa using hio)
        simp only[hso,Bool.not_true,Bool.false_or]at hB
        have hB':∀j p,ops.toList[j]?=some p->j < done.length->((!Znf ops.toList p||((Region.before ops).getD done.length 0).testBit j||pf.inRd o)&&(!Zaj C pf p||(!Vm pf o&&!Vm pf p)||((Region.before ops).getD done.length 0).testBit j||(pf.inRd o&&pf.inFl p)||(pf.inRd p&&pf.inFl o&&!Vm pf p)))=true:=fun j p hj hlt=>by
         have:=List.all_eq_true.1 hB (p,j) (by rw[List.mem_zipIdx_iff_getElem?];simpa using hj);have hb:Nat.blt j done.length=true:=by simpa using hlt
         simp only[hb,Bool.not_true,Bool.false_or]at this;exact this
        have hwd:Qw C (fun t=>if (Yc ops.toList o).contains t then s.sl t else none) o v=(Tb o&&!Rq C s.sl o v):=by
         simp only[Qw,Zvd hag]
        have Xa:∀u,s.old u=(h0.get u).map (·.1):=hol
        have hrd1:pf.inRd o=true->∃u,u∈pf.ids/\Zot s (fun t=>if (Yc ops.toList o).contains t then s.sl t else none) o v=some u:=fun Vi=>by
         rw[Vi,Bool.not_true,Bool.false_or]at hrd;unfold Md.okB at hrd;unfold Zot;rw[Zv3 hag];cases hlk:Zid s.sl o with
         |none=>rw[hlk]at hrd;cases hrd
         |some q=>
          obtain⟨u,ver⟩:=q;rw[hlk]at hrd;simp only[Bool.and_eq_true]at hrd;obtain⟨⟨⟨a1,a2⟩,a3⟩,a4⟩:=hrd;have hu1:u∈pf.ids:=by simpa using a1
          refine⟨u,hu1,?_⟩
          have a3':(Xz 4 v||s.clear u)=true:=by
           rw[Bool.or_eq_true]at a3 ⊢;refine a3.imp id fun a3=>?_
           rw[Bool.and_eq_true]at a3;unfold PD.clear;rw[Bool.and_eq_true];refine⟨List.all_eq_true.2 ?_,a3.2⟩;rintro⟨j,t⟩ hj;obtain⟨o',b1,b2,b3,b4,b5⟩:=h4 _ hj;refine b5 ?_ u hu1;have h9:=hok.2;unfold Zaht at h9;rw[a3.1,Bool.not_true,Bool.false_or]at h9;have h9:=List.all_eq_true.1 h9 (o,done.length) (by rw[List.mem_zipIdx_iff_getElem?];simpa using hio);simp only[Vi,Bool.not_true,Bool.false_or]at h9;have h9:=List.all_eq_true.1 h9 (o',j) (by rw[List.mem_zipIdx_iff_getElem?];simpa using b1);have hb:Nat.blt j done.length=true:=by simpa using b2
           simpa only[hb,b3,b4,Bool.not_true,Bool.false_or]using h9
          simp only[Xa];cases hx:h0.get u with
          |none=>rw[hx]at a2;cases a2
          |some x=>
           rw[hx]at a2;simp only[Option.map_some];rw[if_pos (by simp only[a2,a3',a4,Bool.and_self])]
        have Zn3:∀u,Z5j h0 s.h u=true->s.cur u=true:=fun u hu=>by
         unfold Z5j at hu;unfold PD.cur;rw[Xa];cases hx:s.h.get u with
         |none=>rw[hx]at hu;cases hu
         |some x=>
          cases hy:h0.get u with
          |none=>rw[hx,hy]at hu;cases hu
          |some y=>rw[hx,hy]at hu;exact hu
        unfold Z1f;simp only[hwd];cases hbl:Zot s (fun t=>if (Yc ops.toList o).contains t then s.sl t else none) o v with
        |some u=>
         have hru:pf.inRd o=true->u∈pf.ids:=fun Vi=>by
          obtain⟨u',a1,a2⟩:=hrd1 Vi;rw[hbl]at a2;cases a2;exact a1
         simp only
         rw[if_pos (List.all_eq_true.2 fun p hp=>by
          obtain⟨o',a,b,c,e,f⟩:=h4 p hp;have:=hB' p.1 o' a b;simp only[c,e,Bool.not_true,Bool.false_or,Bool.and_false,Bool.and_eq_true,Bool.or_eq_true]at this;simp only[Bool.or_eq_true];rcases this.2 with (h7 | h7) | h7
          .exact .inl h7
          .exact .inr (f h7.2 u (hru h7.1))
          .cases h7)]
         have:=ih (done++[o]) {s with sl:=putP s.sl o.dst v,h:=h',rb:=(done.length,u)::s.rb} r hd' Zj2 Zqx (fun p hp=>by
          rcases List.mem_cons.1 hp with rfl | hp
          .exact ⟨o,hio,by simp,hso,hru⟩
          .exact Zj1 p hp) Znm hol he
         rwa [hlen]at this
        |none=>
         have hno:pf.inRd o=false:=by
          cases Vi:pf.inRd o with
          |false=>rfl
          |true=>
           obtain⟨u',a1,a2⟩:=hrd1 Vi;rw[hbl]at a2;cases a2
         have hB2:∀j p,ops.toList[j]?=some p->j < done.length->((!Znf ops.toList p||((Region.before ops).getD done.length 0).testBit j)&&(!Zaj C pf p||(!Vm pf o&&!Vm pf p)||((Region.before ops).getD done.length 0).testBit j||(pf.inRd p&&pf.inFl o&&!Vm pf p)))=true:=fun j p hj hlt=>by
          have:=hB' j p hj hlt
          rwa [hno,Bool.or_false,Bool.false_and,Bool.or_false]at this
         have c1:(s.st.all fun x=>match x with | (j,w)=>(!w&&!(Tb o&&!Rq C s.sl o v))||((Region.before ops).getD done.length 0).testBit j)=true:=by
          rw[List.all_eq_true];rintro⟨j,w⟩ hj;obtain⟨p,a,b,c,e,f⟩:=h1 _ hj;have:=hB2 j p a b;simp only at e c f;simp only[c,f,Bool.not_true,Bool.false_or,Bool.and_eq_true,Bool.false_and,Bool.or_false]at this;simp only;have h2:=this.2;rw[Bool.or_eq_true]at h2 ⊢;rcases h2 with h2 | h2
          .left;rw[Bool.and_eq_true,Bool.not_eq_true',Bool.not_eq_true']at h2 ⊢;constructor
           .cases w with
            |false=>rfl
            |true=>rw[e rfl]at h2;cases h2.2
           .cases hx:(Tb o&&!Rq C s.sl o v) with
            |false=>rfl
            |true=>rw[hwi hx]at h2;cases h2.1
          .exact Or.inr h2
         have c2:(s.made.all fun j=>((Region.before ops).getD done.length 0).testBit j)=true:=by
          rw[List.all_eq_true];intro j hj;obtain⟨p,a,b,c⟩:=h2 _ hj;have:=hB2 j p a b;simp only[c,Bool.not_true,Bool.false_or,Bool.and_eq_true]at this;exact this.1
         have c5:(!(Tb o&&!Rq C s.sl o v)||s.rb.all fun x=>match x with | (c,u)=>((Region.before ops).getD done.length 0).testBit c||(Wk (X5 C K (fun t=>if (Yc ops.toList o).contains t then s.sl t else none) s.h o) u&&s.cur u))=true:=by
          cases hx:(Tb o&&!Rq C s.sl o v) with
          |false=>rfl
          |true=>
           simp only[Bool.not_true,Bool.false_or];refine List.all_eq_true.2 fun p hp=>?_
           obtain⟨o',a,b,c,f⟩:=h3 p hp;have:=hB2 p.1 o' a b;simp only[c,hwi hx,Bool.not_true,Bool.false_or,Bool.false_and,Bool.and_eq_true,Bool.or_eq_true]at this;simp only[Bool.or_eq_true,Bool.and_eq_true];rcases this.2 with h7 | h7
           .exact .inl h7
           .right;rw[h7.1.2,Bool.not_true,Bool.false_or]at Un;have h8:=List.all_eq_true.1 Un p.2 (f h7.1.1);rw[Bool.and_eq_true]at h8;exact⟨by rw[Zhp hag];exact h8.1,Zn3 _ h8.2⟩
         simp only;rw[if_pos (by rw[c1,c2,c5];rfl)]
         have:=ih (done++[o]) {s with sl:=putP s.sl o.dst v,h:=h',st:=(done.length,Tb o&&!Rq C s.sl o v)::s.st,wt:=if (Tb o&&!Rq C s.sl o v)=true then (done.length,X5 C K (fun t=>if (Yc ops.toList o).contains t then s.sl t else none) s.h o)::s.wt else s.wt} r hd' (fun q hq=>by
          rcases List.mem_cons.1 hq with rfl | hq
          .exact ⟨o,hio,by simp,hso,hwi,hno⟩
          .exact Zj2 q hq) Zqx Zj1 (fun p hp=>by
          simp only at hp;split at hp
          .rename_i hx;rcases List.mem_cons.1 hp with rfl | hp
           .refine ⟨o,hio,by simp,hso,hwi hx,fun Vi u hu=>?_⟩;rw[Vi,Bool.not_true,Bool.false_or]at Un;have h8:=List.all_eq_true.1 Un u hu;rw[Bool.and_eq_true]at h8;simp only[Zhp hag];exact h8.1
           .exact Znm p hp
          .exact Znm p hp) hol he
         rwa [hlen]at this
       .cases he
theorem Ztd {pf:Md}{ops:Array Oper}(hS:Stat C pf ops){sl:Yt}{h:PH}{r:Yt×PH}(he:Zar pf h C cf yf K ops.toList ops.toList sl h=some r):Zct C cf yf K ops sl h=some r:=by
 obtain⟨s',h1,h2⟩:=Zsg hS ops.toList [] {sl,h,st:=[],made:=[],old:=fun u=>(h.get u).map (·.1),rb:=[],wt:=[]} r rfl (by simp) (by simp) (by simp) (by simp) (fun _=>rfl) he;unfold Zct;rw[show (0:Nat)=([]:List Oper).length from rfl,h1,Option.map_some,h2]
end
section
variable {C:Ctx}{K:Loc}{Xt:Bool}{sl:Yt}{h:PH}
theorem Zd3 (pf:Md){Q:Ex×Yt×PH->Prop}{id:Nat}{ops:Array Oper}(hS:Stat C pf ops)(hx:wp (Zar pf h C (Yf C) (Sa C) K ops.toList ops.toList sl h) fun p=>Q (.normal,p.1,p.2)):wp (Vu C K Xt (.region id ops true) sl h) Q:=by
 obtain⟨r,h1,h2⟩:=X8.1 hx;rw[Zaah,Ztd hS h1];exact h2
end
theorem Yj {C:Ctx}{K:Loc}{Xt:Bool}{sl:Yt}{h:PH}(pf ld:Bool)(fr rd ids fl:List Nat)(ls:Bool){Q:Ex×Yt×PH->Prop}{id:Nat}{ops:Array Oper}(hS:Zf5 C {pf:=pf,ld:=ld,fr:=fr,rd:=rd,ids:=[],fl:=fl,ls:=ls} ops=true)
  (hx:wp (Zar {pf:=pf,ld:=ld,fr:=fr,rd:=rd,ids:=ids,fl:=fl,ls:=ls} h C (Yf C) (Sa C) K ops.toList ops.toList sl h) fun p=>Q (.normal,p.1,p.2)):wp (Vu C K Xt (.region id ops true) sl h) Q:=
 Zd3 {pf:=pf,ld:=ld,fr:=fr,rd:=rd,ids:=ids,fl:=fl,ls:=ls} ⟨hS⟩ hx
section
variable {C:Ctx}{cf:CF}{yf:YF}{K:Loc}{all:List Oper}{sl:Yt}{h h0:PH}{pf:Md}
@[simp] theorem Zahl {Q:Yt×PH->Prop}:wp (Zar pf h0 C cf yf K all [] sl h) Q=Q (sl,h):=rfl
@[simp] theorem Zac9 {o:Oper}{r:List Oper}{Q:Yt×PH->Prop}:wp (Zar pf h0 C cf yf K all (o::r) sl h) Q =
  wp (Vx all sl o) fun w=>ifB w
   (opF (Yk C sl o) (fun v=>ifB (W5 3 v) (wp (Zar pf h0 C cf yf K all r (putP sl o.dst v) h) Q) False)
     (opM (V5 C all sl o) (fun m=>match m.obj,o.dst with
       |none,_=>wp (Zar pf h0 C cf yf K all r (putP sl o.dst (m.val 0 0)) h) Q
       |some ob,some d=>wp (Zar pf h0 C cf yf K all r (sl.put d (m.val (K.base+d) (h.stamp (K.base+d)))) (h.put (K.base+d) (h.stamp (K.base+d)) ob)) Q
       |some _,none=>False)
     (wp (Zf C cf yf all K sl h o) fun p=>ifB (!pf.free o&&(!(pf.pf&&Zxk o.op)||Rq C sl o p.1)&&(!pf.inRd o||pf.okB h0 h sl o p.1)&&(!pf.inFl o||pf.ids.all fun u=>Wk (X5 C K sl h o) u&&Z5j h0 h u)) (wp (Zar pf h0 C cf yf K all r (putP sl o.dst p.1) p.2) Q) False)))
   (wp (Zar pf h0 C cf yf K all r (putP sl o.dst (.tuple [])) h) Q):=by
 simp only[Zar];cases Vx all sl o with
 |none=>rfl
 |some w=>
  cases w with
  |false=>rfl
  |true=>
   simp only[Zr1,Zv7];cases Yk C sl o with
   |some v=>
    simp only[Z7h];cases hs:W5 3 v<;>simp[ifB]
   |none=>
    simp only[Zvp];cases V5 C all sl o with
    |some m=>
     simp only[Zvo];cases m.obj with
     |none=>rfl
     |some ob=>cases o.dst<;>rfl
    |none=>
     simp only[Z7g];cases Zf C cf yf all K sl h o with
     |none=>rfl
     |some p=>
      simp only[Zr1];cases hs:(!pf.free o&&(!(pf.pf&&Zxk o.op)||Rq C sl o p.1)&&(!pf.inRd o||pf.okB h0 h sl o p.1)&&(!pf.inFl o||pf.ids.all fun u=>Wk (X5 C K sl h o) u&&Z5j h0 h u))<;>simp only[Bool.false_eq_true,if_false,if_true,Zv7,Z31,Zada]
end
attribute [simp] W5 Zxk Rq Xz Zah3 Md.free Md.inRd Md.inFl Md.okB Zaaq Z5j Zid X5 Wk
end Go.Pure
end
section
namespace Go.Pure
open Go
open Go.Virt (Ex Ctx Ty TK)
theorem Rz:Virt.maxLenV=1073741824:=rfl
def Acc (S:List Nat)(K:Loc)(h:PH)(g:Nat)(v:PV)(xs:List PV):Prop:=
 (xs=[]/\v=.nils)\/∃d ver,xs≠[]/\d∈S/\v=.own (K.base+d) ver g 0 xs.length/\h.get (K.base+d)=some (ver,.row g true xs)
theorem Acc.nil {S:List Nat}{K:Loc}{h:PH}{g:Nat}:Acc S K h g .nils []:=Or.inl ⟨rfl,rfl⟩
theorem Acc.inl {S:List Nat}{K:Loc}{h:PH}{g:Nat}{v:PV}{xs:List PV}(hA:Acc S K h g v xs):inlV h v=some (L g true xs):=by
 rcases hA with⟨rfl,rfl⟩ | ⟨d,ver,Yn,_,rfl,hg⟩
 .rfl
 .cases xs with
  |nil=>exact absurd rfl Yn
  |cons=>simp[inlV,Zc9,PH.elems,PH.row,hg,L]
theorem Acc.inlT {S:List Nat}{K:Loc}{h:PH}{g:Nat}{v:PV}{xs:List PV}(hA:Acc S K h g v xs):inlT h v=inlV h v:=by
 rcases hA with⟨rfl,rfl⟩ | ⟨d,ver,Yn,_,rfl,hg⟩<;>rfl
theorem Acc.len {S:List Nat}{K:Loc}{h:PH}{g:Nat}{v:PV}{xs:List PV}(hA:Acc S K h g v xs):Z3y v=some xs.length:=by
 rcases hA with⟨rfl,rfl⟩ | ⟨d,ver,Yn,_,rfl,hg⟩<;>rfl
theorem Acc.frame {S:List Nat}{K:Loc}{h h':PH}{g:Nat}{v:PV}{xs:List PV}(hA:Acc S K h g v xs)(hf:∀d,d∈S->h'.get (K.base+d)=h.get (K.base+d)):Acc S K h' g v xs:=by
 rcases hA with h1 | ⟨d,ver,Yn,hd,e,hg⟩
 .exact Or.inl h1
 .exact Or.inr ⟨d,ver,Yn,hd,e,by rw[hf d hd,hg]⟩
theorem Acc.own {S:List Nat}{K:Loc}{h:PH}{g:Nat}{v:PV}{xs:List PV}(hA:Acc S K h g v xs)(Yn:xs≠[]):∃d ver,d∈S/\v=.own (K.base+d) ver g 0 xs.length/\h.get (K.base+d)=some (ver,.row g true xs):=by
 rcases hA with⟨e,_⟩ | h1
 .exact absurd e Yn
 .obtain ⟨d,ver,_,h2,h3,h4⟩:=h1;exact⟨d,ver,h2,h3,h4⟩
theorem Acc.app {S:List Nat}{K:Loc}{h:PH}{g:Nat}{v:PV}{xs ys:List PV}{T:Ty}{dd:Nat}(hA:Acc S K h g v xs)(hd:dd∈S)(hK:K.lo=K.base)(h1:xs.length+ys.length<=1073741824)(h2:T.bytes<=65536)(h3:0 < T.size)(h4:ys≠[]):
  ∃v' h',Xl K h dd g T ys.length ys v=some (v',h')/\Acc S K h' g v' (xs++ys)/\h'.next=h.next/\∀j,(∀d,d∈S->j≠K.base+d)->h'.get j=h.get j:=by
 have hl:ys.length≠0:=by
  cases ys with
  |nil=>exact absurd rfl h4
  |cons=>simp
 rcases hA with⟨rfl,rfl⟩ | ⟨d,ver,Yn,hdS,rfl,hg⟩
 .refine ⟨_,_,Zaa (by omega) h2 h3 hl,Or.inr ⟨dd,h.stamp (K.base+dd),by simpa using h4,hd,by simp,by simp⟩,rfl,fun j hj=>?_⟩;simp[hj dd hd]
 .have hr:h.row (K.base+d) ver g=some (true,xs):=by simp[PH.row,hg]
  refine⟨_,_,((by rw[Qm,hr];rfl:Xl K h dd g T ys.length ys (.own (K.base+d) ver g 0 xs.length)=Zxu K h T g (K.base+d) ver 0 xs.length ys.length ys (true,xs)).trans (Zma h1 h2 h3 (by simp[can,hK]) rfl (by simp))),Or.inr ⟨d,ver+1,by simp[h4],hdS,by simp,by simp⟩,rfl,fun j hj=>?_⟩;simp[hj d hdS]
theorem Acc.call {C:Ctx}{S:List Nat}{K:Loc}{h:PH}{g f:Nat}{v w:PV}{xs:List PV}(hA:Acc S K h g v xs)(hK:K.lo=K.base)(Y4:C.raw f=false)(pre post:List PV)(Zs1:Xn C f (pre++L g true xs::post) w)(hw:Zdq w=true)
  (h1:(pre++post).flatMap ownV=[]) (h2:(pre++post).flatMap (refs 3)=[]):Yf C K f (pre++v::post) h=some (w,h):=by
 rw[List.flatMap_append,List.append_eq_nil_iff]at h1 h2;refine Zoq Zs1 hw Y4 (Zeh (Wy h1.1) ?_) (by cases pre<;>rfl) ?_ ?_ ?_
 .simp only [W2,hA.inl,Wy h1.2]
 .rw [List.flatMap_append,List.flatMap_cons,h1.1,h1.2];simp
 .rw [List.flatMap_append,List.flatMap_cons,h2.1,h2.2];simp
 .rw [List.flatMap_append,List.flatMap_cons,h1.1,h1.2];rcases hA with⟨_,rfl⟩ | ⟨d,ver,_,_,rfl,hg⟩
  .simp
  .simp [hg,can,hK]
theorem Z1o {p:Prop}[Decidable p]{A B:Prop}{t:Tag A}{u:Tag B}(h1:p->A)(h2:¬p->B):ifB (decide p) A B t u:=by
 by_cases h:p
 .rw [decide_eq_true h];exact h1 h
 .rw [decide_eq_false h];exact h2 h
theorem Zlz {α:Type}[BEq α][LawfulBEq α]{a b:α}{A B:Prop}{t:Tag A}{u:Tag B}(h1:a=b->A)(h2:(a==b)=false->a≠b->B):ifB (a==b) A B t u:=by
 by_cases h:a=b
 .subst h;rw[BEq.rfl];exact h1 rfl
 .rw [beq_false_of_ne h];exact h2 (beq_false_of_ne h) h
theorem Zv8 {p:Prop}[Decidable p]{A B:Prop}{t:Tag A}{u:Tag B}(h:p)(hA:p->A):ifB (decide p) A B t u:=by rw[decide_eq_true h];exact hA h
theorem Zv9 {p:Prop}[Decidable p]{A B:Prop}{t:Tag A}{u:Tag B}(h:¬p)(hB:¬p->B):ifB (decide p) A B t u:=by rw[decide_eq_false h];exact hB h
theorem Z8d {a b:Int}{A B:Prop}{t:Tag A}{u:Tag B}(h:a=b)(hA:a=b->A):ifB (a==b) A B t u:=by subst h;rw[BEq.rfl];exact hA rfl
theorem Z8e {a b:Int}{A B:Prop}{t:Tag A}{u:Tag B}(h:a≠b)(hB:(a==b)=false->a≠b->B):ifB (a==b) A B t u:=by rw[beq_false_of_ne h];exact hB (beq_false_of_ne h) h
@[simp] theorem Zaqj {n i:Nat}{h:PH}:PH.stamp ⟨n,h.get⟩ i=h.stamp i:=rfl
@[simp] theorem Zan4 {i j v:Nat}{o:PO}{h:PH}:PH.stamp (h.put i v o) j=if j=i then v+1 else h.stamp j:=by
 simp only[PH.stamp,PH.put];split<;>rename_i hh
 .split at hh
  .rename_i e;cases hh;simp[e]
  .rename_i e;rw[hh];simp[e]
 .split at hh
  .cases hh
  .rename_i e;rw[hh];simp[e]
theorem Zui {n:Int}(h1 : -9223372036854775808<=n)(h2:n < 9223372036854775808):IntKind.i64.wrap n=n:=Zuj h1 h2
theorem Z6i {n:Int}(h1:0<=n)(h2:n < 256):IntKind.u8.wrap n=n:=Zac8 h1 h2
theorem Zap1 {n:Int}(h1:0<=n)(h2:n < 18446744073709551616):IntKind.u64.wrap n=n:=Zp7 h1 h2
theorem wrap32 {n:Int}(h1:0<=n)(h2:n < 4294967296):IntKind.u32.wrap n=n:=by
 simp only[IntKind.wrap,IntKind.bits,IntKind.signed,Bool.false_and,Bool.false_eq_true,if_false];omega
theorem toNat_add_nat (a b:Nat):((a:Int)+(b:Int)).toNat=a+b:=by omega
theorem Ztu (a b:Int):a+b - a=b:=by omega
theorem Z77 {a b:Int}:(if a < b then b else a)=max a b:=by omega
theorem Z75 {a b:Int}:(if a < b then a else b)=min a b:=by omega
theorem Z76 {a b:Nat}:(if a < b then (b:Int) else (a:Int))=((max a b:Nat):Int):=by omega
theorem Z74 {a b:Nat}:(if a < b then (a:Int) else (b:Int))=((min a b:Nat):Int):=by omega
theorem Zdg {l:List Nat}(h:∀c,c∈l->c < 256):Zf.bytesP (l.map fun c:Nat=>PV.int .u8 (c:Int))=some l:=by
 induction l with
 |nil=>rfl
 |cons c l ih=>
  have h1:c < 256:=h c List.mem_cons_self;have h2:=ih fun d hd=>h d (List.mem_cons_of_mem _ hd)
  simp only[List.map_cons,Zf.bytesP,h2,Option.map_some];congr 2;omega
def Stop (P:Prop)(_t:Tag P:=⟨⟩):Prop:=P
theorem Zls {P:Prop}{t:Tag P}(h:P):Stop P t:=h
theorem Zlq {C:Ctx}{K:Loc}{Xt:Bool}{A B:Code}{sl:Yt}{h:PH}{Q:Ex×Yt×PH->Prop}(hx:wp (Vu C K Xt A sl h) fun r=>match r with
  | (.normal,Yv,h')=>Stop (wp (Vu C K Xt B Yv h') Q)
  |r=>Q r):wp (Vu C K Xt (.seq A B) sl h) Q:=by
 rw[wp_seq];exact hx
theorem Zmh {C:Ctx}{K:Loc}{Xt:Bool}{A B:Code}{sl:Yt}{h:PH}{Q:Ex×Yt×PH->Prop}(R:Yt->PH->Prop)(hx:wp (Vu C K Xt A sl h) fun r=>match r with
  | (.normal,Yv,h')=>R Yv h'
  |r=>Q r) (hB:∀sl h,R sl h->wp (Vu C K Xt B sl h) Q):wp (Vu C K Xt (.seq A B) sl h) Q:=by
 rw[wp_seq];refine wp_mono hx ?_;rintro⟨x,Yv,h'⟩ hr;cases x with
 |normal=>exact hB _ _ hr
 |exit id=>exact hr
 |ret=>exact hr
theorem Zs:(∀ {n:Int}, -9223372036854775808<=n->n < 9223372036854775808->IntKind.i64.wrap n=n)/\(∀ {n:Int},0<=n->n < 256->IntKind.u8.wrap n=n)/\(∀ {n:Int},0<=n->n < 18446744073709551616->IntKind.u64.wrap n=n)/\(∀ {n:Int},0<=n->n < 4294967296->IntKind.u32.wrap n=n)/\(∀a b:Nat,((a:Int)+(b:Int)).toNat=a+b)/\(∀a b:Int,a+b - a=b)/\(∀ {a b:Int},(if a < b then b else a)=max a b)/\(∀ {a b:Int},(if a < b then a else b)=min a b)/\(∀ {a b:Nat},(if a < b then (b:Int) else (a:Int))=((max a b:Nat):Int))/\∀ {a b:Nat},(if a < b then (a:Int) else (b:Int))=((min a b:Nat):Int):=
 ⟨Zui,Z6i,Zap1,wrap32,toNat_add_nat,Ztu,Z77,Z75,Z76,Z74⟩
theorem Zu:(∀ {g:Nat},L g true []=.nils)/\(∀ {g:Nat} {b:Bool} {x:PV} {xs:List PV},L g b (x::xs)=.lst g (x::xs))/\(∀ {n:Int}, -9223372036854775808<=n->n < 9223372036854775808->IntKind.i64.wrap n=n)/\(∀ {n:Int},0<=n->n < 256->IntKind.u8.wrap n=n)/\(∀ {n:Int},0<=n->n < 18446744073709551616->IntKind.u64.wrap n=n)/\(∀ {n:Int},0<=n->n < 4294967296->IntKind.u32.wrap n=n)/\(∀a b:Nat,((a:Int)+(b:Int)).toNat=a+b)/\(∀a b:Int,a+b - a=b)/\(∀ {a b:Int},(if a < b then b else a)=max a b)/\(∀ {a b:Int},(if a < b then a else b)=min a b)/\(∀ {a b:Nat},(if a < b then (b:Int) else (a:Int))=((max a b:Nat):Int))/\∀ {a b:Nat},(if a < b then (a:Int) else (b:Int))=((min a b:Nat):Int):=⟨Wh,Xs,Zs⟩
theorem Zq {P:Prop}(h:P:=by first|omega|(simp<;>omega)|fail):P:=h
theorem Zw {P:Prop}(h:P:=by first|omega|(simp<;>omega)|(simp[*];done)|fail):P:=h
structure Im (p A:Prop)(s:Tag p:=⟨⟩)(t:Tag A:=⟨⟩):Prop where
 h:p->A
theorem Zi {p A:Prop}{s:Tag p}{t:Tag A}(h:p->A):Im p A s t:=⟨h⟩
theorem Zm {A:Prop}(h:Im True A):A:=h.h trivial
structure Cn (b:Bool)(p:Prop)(T F:Prop->Prop):Prop where
 h:∀ {A B:Prop} {t:Tag A} {u:Tag B},(p->T A->ifB b A B t u)/\(¬p->F B->ifB b A B t u)/\(T A->F B->ifB b A B t u)
theorem Y3 {b:Bool}:Cn b (b=true) (fun A=>Im (b=true) A) (fun B=>Im (b=false) B):=⟨fun {A B t u}=>⟨fun h a=>Zch (t:=t) (u:=u) a.h (fun e=>absurd h (by simp[e])),fun h a=>Zch (t:=t) (u:=u) (fun e=>absurd e h) a.h,fun a c=>Zch a.h c.h⟩⟩
theorem Y2 {p:Prop}[Decidable p]:Cn (decide p) p (fun A=>Im p A) (fun B=>Im (¬p) B):=⟨fun {A B t u}=>⟨fun h a=>Zv8 h a.h,fun h a=>Zv9 h a.h,fun a c=>Z1o a.h c.h⟩⟩
theorem Y1 {α:Type}[BEq α][LawfulBEq α]{a b:α}:Cn (a==b) (a=b) (fun A=>Im (a=b) A) (fun B=>Im ((a==b)=false) (Im (a≠b) B)):=⟨fun {A B t u}=>⟨fun h x=>Zlz (t:=t) (u:=u) x.h (fun _ e=>absurd h e),fun h x=>Zlz (t:=t) (u:=u) (fun e=>absurd e h) (fun e f=>(x.h e).h f),fun x y=>Zlz x.h (fun e f=>(y.h e).h f)⟩⟩
theorem Y0 {a b:Int}:Cn (a==b) (a=b) (fun A=>Im (a=b) A) (fun B=>Im ((a==b)=false) (Im (a≠b) B)):=Y1
structure An (P Q:Prop):Prop where
 l:P
 r:Q
theorem Zn {P Q:Prop}(l:P)(r:Q):An P Q:=⟨l,r⟩
structure Dn (b:Bool)(A B R:Prop):Prop where
 h:∀ {t:Tag A} {u:Tag B},R->ifB b A B t u
section
variable {b:Bool}{p:Prop}{T F:Prop->Prop}{A B R:Prop}{t:Tag A}{u:Tag B}
theorem E1 (c:Cn b p T F:=by first|exact Y0|((fail_if_success exact Y1);exact Y2)|fail)(h:p:=by omega):Dn b A B (T A):=⟨fun a=>c.h.1 h a⟩
theorem E2 (c:Cn b p T F:=by first|exact Y0|((fail_if_success exact Y1);exact Y2)|fail)(h:¬p:=by omega):Dn b A B (F B):=⟨fun a=>c.h.2.1 h a⟩
theorem E3 (c:Cn b p T F:=by first|exact Y1|exact Y2|exact Y3|fail):Dn b A B (An (T A) (F B)):=⟨fun a=>c.h.2.2 a.l a.r⟩
theorem Zx (h:R)(c:Dn b A B R:=by first|exact E1|exact E2|exact E3|fail):ifB b A B t u:=c.h h
end
section
variable {A B:Prop}{t:Tag A}{u:Tag B}
theorem Z1 {a b:Int}(hA:a=b->A)(h:a=b:=by omega):ifB (a==b) A B t u:=Z8d h hA
theorem Z2 {a b:Int}(hB:(a==b)=false->a≠b->B)(h:a≠b:=by omega):ifB (a==b) A B t u:=Z8e h hB
theorem Z3 {α:Type}[BEq α][LawfulBEq α]{a b:α}(h1:a=b->A)(h2:(a==b)=false->a≠b->B):ifB (a==b) A B t u:=Zlz h1 h2
theorem Z4 {p:Prop}[Decidable p](hA:p->A)(h:p:=by omega):ifB (decide p) A B t u:=Zv8 h hA
theorem Z5 {p:Prop}[Decidable p](hB:¬p->B)(h:¬p:=by omega):ifB (decide p) A B t u:=Zv9 h hB
theorem Z6 {p:Prop}[Decidable p](h1:p->A)(h2:¬p->B):ifB (decide p) A B t u:=Z1o h1 h2
theorem Z7 {b:Bool}(h1:b=true->A)(h2:b=false->B):ifB b A B t u:=Zch h1 h2
end
structure Dm (C:Ctx)(ops:Array Oper)(m:Md):Prop where
 h:Zf5 C m ops=true
theorem D1 {C:Ctx}{ops:Array Oper}(h:Zf5 C {pf:=false,ld:=false,fr:=[]} ops=true:=by decide +kernel):Dm C ops {pf:=false,ld:=false,fr:=[]}:=⟨h⟩
theorem D2 {C:Ctx}{ops:Array Oper}(h:Zf5 C {pf:=true,ld:=false,fr:=[]} ops=true:=by decide +kernel):Dm C ops {pf:=true,ld:=false,fr:=[]}:=⟨h⟩
theorem D3 {C:Ctx}{ops:Array Oper}(h:Zf5 C {pf:=false,ld:=true,fr:=[]} ops=true:=by decide +kernel):Dm C ops {pf:=false,ld:=true,fr:=[]}:=⟨h⟩
section
variable {C:Ctx}{K:Loc}{Xt:Bool}{sl:Yt}{h:PH}{Q:Ex×Yt×PH->Prop}{id:Nat}{ops:Array Oper}
theorem Z8 (hx:wp (Zar {pf:=false,ld:=false,fr:=[]} h C (Yf C) (Sa C) K ops.toList ops.toList sl h) fun p=>Q (.normal,p.1,p.2))(hS:Zf5 C {pf:=false,ld:=false,fr:=[]} ops=true:=by decide +kernel):wp (Vu C K Xt (.region id ops true) sl h) Q:=Zd3 _ ⟨hS⟩ hx
theorem Z9 (hx:wp (Zar {pf:=true,ld:=false,fr:=[]} h C (Yf C) (Sa C) K ops.toList ops.toList sl h) fun p=>Q (.normal,p.1,p.2))(hS:Zf5 C {pf:=true,ld:=false,fr:=[]} ops=true:=by decide +kernel):wp (Vu C K Xt (.region id ops true) sl h) Q:=Zd3 _ ⟨hS⟩ hx
theorem Z0 (hx:wp (Zar {pf:=false,ld:=true,fr:=[]} h C (Yf C) (Sa C) K ops.toList ops.toList sl h) fun p=>Q (.normal,p.1,p.2))(hS:Zf5 C {pf:=false,ld:=true,fr:=[]} ops=true:=by decide +kernel):wp (Vu C K Xt (.region id ops true) sl h) Q:=Zd3 _ ⟨hS⟩ hx
theorem Ye {m:Md}(hx:Im True (wp (Zar m h C (Yf C) (Sa C) K ops.toList ops.toList sl h) fun p=>Q (.normal,p.1,p.2)))(c:Dm C ops m:=by first|exact D1|exact D2|exact D3|fail):wp (Vu C K Xt (.region id ops true) sl h) Q:=Zd3 _ ⟨c.h⟩ (hx.h trivial)
theorem Wc {K:Pure.Loc}{f:Nat}{args:List PV}{fn:Func}{c:Code}{v:PV}(hF:C.F f=some fn)
  (hx:wp (Vu C {base:=h.next,lo:=h.next,ok:=[]} true c (Qn 0 args) {h with next:=h.next+fn.ntmps}) fun r=>(r.1=.normal\/r.1=.ret)/\wp (Uz C r.2.1 r.2.2 fn.results.toList) fun vs=>
    inlT r.2.2 (Vq vs)=some v/\(ownT (Vq vs)).all (fun i=>Nat.ble h.next i)=true) (h0:(C.ext f []).isNone=true:=by rfl) (hb:fn.body=some c:=by rfl) (Y4:C.raw f=false:=by rfl) (ho:args.flatMap ownV=[]:=by simp) (hr:args.flatMap (refs 3)=[]:=by simp) (hv:below h.next 4 v=true:=by simp[*]):Yf C K f args h=some (v,h):=Zhi h0 hF hb Y4 ho hr hx hv
end
theorem Acc.lenK {S:List Nat}{K:Loc}{h:PH}{g e:Nat}{v:PV}{xs:List PV}(hA:Acc S K h g v xs):Pure.lenK (.slice e) v=some (.int .i64 xs.length):=by
 rcases hA with⟨rfl,rfl⟩ | ⟨d,ver,Yn,_,rfl,hg⟩<;>rfl
theorem Acc.ownT {S:List Nat}{K:Loc}{h:PH}{g:Nat}{v:PV}{xs:List PV}(hA:Acc S K h g v xs):∀x,x∈ownT v->K.base<=x:=by
 rcases hA with⟨rfl,rfl⟩ | ⟨d,ver,Yn,_,rfl,hg⟩
 .intro x hx;simp[Pure.ownT]at hx
 .intro x hx;simp[Pure.ownT]at hx;omega
theorem Acc.same {S:List Nat}{K:Loc}{h:PH}{g n:Nat}{v:PV}{xs:List PV}(hA:Acc S K h g v xs):W5 n v=true:=by
 rcases hA with⟨rfl,rfl⟩ | ⟨d,ver,Yn,_,rfl,hg⟩<;>cases n<;>rfl
theorem Acc.pos {S:List Nat}{K:Loc}{h:PH}{g k:Nat}{v:PV}{α:Type}{f:α->PV}{l:List α}(hA:Acc S K h g v (l.map f))(hk:k < l.length):∃d ver,d∈S/\v=.own (K.base+d) ver g 0 l.length/\h.get (K.base+d)=some (ver,.row g true (l.map f)):=by
 obtain⟨d,ver,h1,h2,h3⟩:=hA.own (by intro e;simp at e;rw[e]at hk;simp at hk);rw[List.length_map]at h2;exact⟨d,ver,h1,h2,h3⟩
theorem Acc.app' {S:List Nat}{K:Loc}{h:PH}{g:Nat}{v:PV}{xs ys:List PV}{T:Ty}{dd:Nat}(hA:Acc S K h g v xs)(hd:dd∈S)(hK:K.lo=K.base)(h1:xs.length+ys.length<=1073741824)(h2:T.bytes<=65536)(h3:0 < T.size):
  ∃v' h',Xl K h dd g T ys.length ys v=some (v',h')/\Acc S K h' g v' (xs++ys)/\h'.next=h.next/\∀j,(∀d,d∈S->j≠K.base+d)->h'.get j=h.get j:=by
 by_cases h4:ys=[]
 .subst h4;rcases hA with⟨rfl,rfl⟩ | ⟨d,ver,Yn,hdS,rfl,hg⟩
  .refine ⟨.nils,h,?_,Or.inl ⟨rfl,rfl⟩,rfl,fun j hj=>rfl⟩;simp only[Xl,List.length_nil];rw[if_pos ⟨by decide,h2,h3⟩,if_pos trivial]
  .have hr:h.row (K.base+d) ver g=some (true,xs):=by simp[PH.row,hg]
   refine⟨_,_,((by rw[Qm,hr];rfl:Xl K h dd g T ([]:List PV).length [] (.own (K.base+d) ver g 0 xs.length)=Zxu K h T g (K.base+d) ver 0 xs.length ([]:List PV).length [] (true,xs)).trans (Zma h1 h2 h3 (by simp[can,hK]) rfl (by simp))),Or.inr ⟨d,ver+1,by simpa using Yn,hdS,by simp,by simp⟩,rfl,fun j hj=>?_⟩;simp[hj d hdS]
 .exact hA.app hd hK h1 h2 h3 h4
theorem Rd {p:Nat}:∀ {l:List Nat} {h:PH},(∀i∈l,i≠p)->(h.freeze l).get p=h.get p
 | [],h,_=>rfl
 |i::r,h,hp=>by
  have h1:=hp i (by simp);have h2:∀j∈r,j≠p:=fun j hj=>hp j (by simp[hj])
  simp only[PH.freeze];split
  .rw [Rd h2];simp[PH.put,Ne.symm h1]
  .exact Rd h2
theorem Z6k {C:Ctx}{K:Loc}{f p ver off:Nat}{rest:List PV}{h:PH}{o o':PO}{ver':Nat}{fn:Func}{c:Code}{v:PV}(hF:C.F f=some fn)(hb:fn.body=some c)(Y4:C.raw f=false)(ho:rest.flatMap ownV=[])(hr:rest.flatMap (refs 3)=[])
  (Zz:can K p=true) (hlt:p < h.next) (hp:h.get p=some (ver,o)) (hro:refsO o=[])
  (hx:wp (Vu C {base:=h.next,lo:=h.next,ok:=[p]} true c (Qn 0 (.ptr p ver off::rest)) {h with next:=h.next+fn.ntmps}) fun r=>(r.1=.normal\/r.1=.ret)/\wp (Uz C r.2.1 r.2.2 fn.results.toList) fun vs=>
    inlT r.2.2 (Vq vs)=some v/\(ownT (Vq vs)).all (fun i=>Nat.ble h.next i)=true/\r.2.2.get p=some (ver',o')) (hv:below h.next 4 v=true) (hbo:Xr h.next o'=true):
  Yf C K f (.ptr p ver off::rest) h=some (v,h.put p ver' o'):=by
 have hrf:(PV.ptr p ver off::rest).flatMap (refs 3)=[p]:=by rw[List.flatMap_cons,hr];rfl
 refine Zcw (ok:=[p]) rfl hF hb Y4 (by simpa[ownV,Zc7]using ho) (by rw[hrf];simp[reach,hp,hro]) (by simp only[List.all_cons,List.all_nil,Zz,hp];rfl) (wp_mono hx fun r hr=>⟨hr.1,wp_mono hr.2 fun vs h6=>?_⟩);obtain⟨h6,h7,h8⟩:=h6;rw[List.all_eq_true]at h7
 have hfz:(r.2.2.freeze (ownT (Vq vs))).get p=some (ver',o'):=by
  rw[Rd,h8];intro i hi;have:=h7 i hi;simp at this;omega
 unfold Wo;rw[h6]
 have hall:(ownT (Vq vs)).all (fun i=>Nat.ble h.next i||[p].any (Nat.beq i))=true:=by
  rw[List.all_eq_true];intro i hi;rw[h7 i hi];rfl
 simp only[hall,hv,List.all_cons,List.all_nil,Bool.and_true,Bool.true_and,PH.belowAt,hfz,hbo,if_true,Yd]
theorem Zm5 {h:PH}{p ver:Nat}{o:PO}(hp:h.get p=some (ver,o)):h.put p ver o=h:=by
 have:(h.put p ver o).get=h.get:=by
  funext j;simp only[Zgt];split
  .rename_i e;rw[e,hp]
  .rfl
 cases h;simp only[PH.put]at this ⊢;congr 1
theorem Zlv {h:PH}{p v1 v2:Nat}{o1 o2:PO}:(h.put p v1 o1).put p v2 o2=h.put p v2 o2:=by
 simp only[PH.put];congr 1;funext j;split<;>rfl
theorem Wp {C:Ctx}{K:Loc}{f p ver off:Nat}{rest:List PV}{h:PH}{o o':PO}{ver':Nat}{fn:Func}{c:Code}{v:PV}(hF:C.F f=some fn)
  (Zz:can K p=true) (hlt:p < h.next) (hp:h.get p=some (ver,o))
  (hx:wp (Vu C {base:=h.next,lo:=h.next,ok:=[p]} true c (Qn 0 (.ptr p ver off::rest)) {h with next:=h.next+fn.ntmps}) fun r=>(r.1=.normal\/r.1=.ret)/\wp (Uz C r.2.1 r.2.2 fn.results.toList) fun vs=>
    inlT r.2.2 (Vq vs)=some v/\(ownT (Vq vs)).all (fun i=>Nat.ble h.next i)=true/\r.2.2.get p=some (ver',o'))
  (hb:fn.body=some c:=by rfl) (Y4:C.raw f=false:=by rfl) (ho:rest.flatMap ownV=[]:=by simp) (hr:rest.flatMap (refs 3)=[]:=by simp) (hro:refsO o=[]:=by simp[refsO]) (hv:below h.next 4 v=true:=by simp[*]) (hbo:Xr h.next o'=true:=by simp[Xr]):
  Yf C K f (.ptr p ver off::rest) h=some (v,h.put p ver' o'):=Z6k hF hb Y4 ho hr Zz hlt hp hro hx hv hbo
theorem Zdc {h h3:PH}:∀ {l:List Nat},(∀i∈l,h3.get i=h.get i)->Yd h3 l h=h
 | [],_=>rfl
 |i::r,hl=>by
  have h1:=hl i (by simp);simp only[Yd];cases hg:h3.get i with
  |none=>exact Zdc fun j hj=>hl j (by simp[hj])
  |some x=>
   obtain⟨ver,o⟩:=x;rw[hg]at h1;simp only;rw[Zm5 h1.symm];exact Zdc fun j hj=>hl j (by simp[hj])
theorem W6 {h3:PH}:∀ {l:List Nat} {h:PH},(Yd h3 l h).next=h.next
 | [],h=>rfl
 |i::r,h=>by
  simp only[Yd];split
  .rw [W6];rfl
  .exact W6
theorem U4 {h3:PH}{j:Nat}:∀ {l:List Nat} {h:PH},j∉l->(Yd h3 l h).get j=h.get j
 | [],h,_=>rfl
 |i::r,h,hj=>by
  simp only[List.mem_cons,not_or]at hj;simp only[Yd];split
  .rw [U4 hj.2];simp[hj.1]
  .exact U4 hj.2
theorem X6 {C:Ctx}{K:Loc}{f:Nat}{args:List PV}{h:PH}{ok:List Nat}{fn:Func}{c:Code}{v:PV}(hF:C.F f=some fn)(hb:fn.body=some c)(Y4:C.raw f=false)(Zis:(C.ext f []).isNone=true)(ho:args.flatMap ownV=[])(hre:reach h 4 (args.flatMap (refs 3))=ok)
  (Zz:ok.all (fun i=>can K i&&(h.get i).isSome)=true) (hlt:∀i∈ok,i < h.next) (hbo:∀i∈ok,h.belowAt h.next i=true)
  (hx:wp (Vu C {base:=h.next,lo:=h.next,ok:=ok} true c (Qn 0 args) {h with next:=h.next+fn.ntmps}) fun r=>(r.1=.normal\/r.1=.ret)/\wp (Uz C r.2.1 r.2.2 fn.results.toList) fun vs=>
    inlT r.2.2 (Vq vs)=some v/\(ownT (Vq vs)).all (fun i=>Nat.ble h.next i)=true/\∀i∈ok,r.2.2.get i=h.get i) (hv:below h.next 4 v=true):
  Yf C K f args h=some (v,h):=by
 refine Zcw (Zcs Zis Y4) hF hb Y4 ho hre Zz (wp_mono hx fun r hr=>⟨hr.1,wp_mono hr.2 fun vs h6=>?_⟩);obtain⟨h6,h7,h8⟩:=h6;rw[List.all_eq_true]at h7
 have hfz:∀i∈ok,(r.2.2.freeze (ownT (Vq vs))).get i=h.get i:=by
  intro i hi;rw[Rd,h8 i hi];intro j hj;have:=h7 j hj;simp at this;have:=hlt i hi;omega
 unfold Wo;rw[h6]
 have hall:(ownT (Vq vs)).all (fun i=>Nat.ble h.next i||ok.any (Nat.beq i))=true:=by
  rw[List.all_eq_true];intro i hi;rw[h7 i hi];rfl
 have hbl:ok.all (fun i=>(r.2.2.freeze (ownT (Vq vs))).belowAt h.next i)=true:=by
  rw[List.all_eq_true];intro i hi;simp only[PH.belowAt,hfz i hi];exact hbo i hi
 simp only[hall,hv,hbl,List.all_nil,Bool.and_true,Bool.true_and,if_true,Zdc hfz]
theorem Zhg {C:Ctx}{K:Loc}{f:Nat}{args:List PV}{h:PH}{ok:List Nat}{fn:Func}{c:Code}{R:PV->PH->Prop}(hF:C.F f=some fn)(hb:fn.body=some c)(Y4:C.raw f=false)(Zis:(C.ext f []).isNone=true)(ho:args.flatMap ownV=[])(hre:reach h 4 (args.flatMap (refs 3))=ok)
  (Zz:ok.all (fun i=>can K i&&(h.get i).isSome)=true)
  (hx:wp (Vu C {base:=h.next,lo:=h.next,ok:=ok} true c (Qn 0 args) {h with next:=h.next+fn.ntmps}) fun r=>(r.1=.normal\/r.1=.ret)/\wp (Uz C r.2.1 r.2.2 fn.results.toList) fun vs=>
    ∃v,inlT r.2.2 (Vq vs)=some v/\ownT (Vq vs)=[]/\below h.next 4 v=false/\Xz 5 v=false/\R v r.2.2):
  ∃v h',Yf C K f args h=some (v,h')/\R v h':=by
 obtain⟨r,h1,h3,h4⟩:=X8.1 hx;obtain⟨vs,h5,v,h6,h7,h8,h9,h10⟩:=X8.1 h4;refine⟨v,r.2.2,Zcw (Zcs Zis Y4) hF hb Y4 ho hre Zz (X8.2 ⟨_,h1,h3,X8.2 ⟨vs,h5,?_⟩⟩),h10⟩;unfold Wo;rw[h6];simp only[h7,h8,h9,List.all_nil,if_true,PH.freeze,Bool.false_and,Bool.false_eq_true,if_false,Bool.not_false,Bool.true_or]
theorem Acc.callT {C:Ctx}{S:List Nat}{K:Loc}{h:PH}{g f:Nat}{v w:PV}{xs:List PV}(hA:Acc S K h g v xs)(hK:K.lo=K.base)(Y4:C.raw f=false)(pre post:List PV)(Zs1:Xn C f (pre++L g true xs::post) w)(hwb:∀m,below m 4 w=true)(hw:Yo g 14 w=true)
  (h1:(pre++post).flatMap ownV=[]) (h2:(pre++post).flatMap (refs 3)=[]):Yf C K f (pre++v::post) h=some (w,h):=by
 rw[List.flatMap_append,List.append_eq_nil_iff]at h1 h2;refine Zrp Zs1 hwb Y4 (Zeh (Wy h1.1) ?_) (by cases pre<;>rfl) ?_ ?_ ?_
 .simp only [W2,hA.inl,Wy h1.2]
 .rw [List.flatMap_append,List.flatMap_cons,h1.1,h1.2];simp
 .rw [List.flatMap_append,List.flatMap_cons,h2.1,h2.2];simp
 .rw [List.flatMap_append,List.flatMap_cons,h1.1,h1.2];rcases hA with⟨_,rfl⟩ | ⟨d,ver,_,_,rfl,hg⟩
  .simp
  .simp [hg,can,hK,hw]
theorem Zm9 {g g':Nat}{xs:List PV}(hg:g'≠g)(h:∀x∈xs,Yo g 13 x=true):Yo g 14 (.lst g' xs)=true:=by
 simp only[Yo,Bool.and_eq_true,Bool.not_eq_true',List.all_eq_true];exact⟨by rw[<- Bool.not_eq_true,Nat.beq_eq];exact hg,h⟩
theorem Zrq {C:Ctx}{K:Loc}{f:Nat}{args args':List PV}{h:PH}{v:PV}(hA:Xn C f args' v)(hvb:∀m,below m 4 v=true)(Y4:C.raw f=false)(hm:W2 (inlV h) args=some args')(Yn:args.isEmpty=false)
  (ho:args'.flatMap ownV=[]) (hr:args'.flatMap (refs 3)=[])
  (hids:(args.flatMap ownV).all (fun i=>can K i&&match h.get i with | some (_,.row _ _ _)=>true | _=>false)=true):Yf C K f args h=some (v,h)\/Yf C K f args h=some (v,h.freeze (args.flatMap ownV)):=by
 rcases Zrr hA hvb Y4 hm Yn ho hr (by
  rw[List.all_eq_true]at hids ⊢;intro i hi;have:=hids i hi;simp only[Bool.and_eq_true]at this;exact this.1) with h1 | ⟨h1,_⟩
 .exact .inl h1
 .exact .inr h1
theorem Acc.callF {C:Ctx}{S:List Nat}{K:Loc}{h:PH}{g f:Nat}{v w:PV}{xs:List PV}(hA:Acc S K h g v xs)(hK:K.lo=K.base)(Y4:C.raw f=false)(pre post:List PV)(Zs1:Xn C f (pre++L g true xs::post) w)(hwb:∀m,below m 4 w=true)
  (h1:(pre++post).flatMap ownV=[]) (h2:(pre++post).flatMap (refs 3)=[]):∃h',Yf C K f (pre++v::post) h=some (w,h')/\h'.next=h.next/\∀j,(∀d∈S,j≠K.base+d)->h'.get j=h.get j:=by
 rw[List.flatMap_append,List.append_eq_nil_iff]at h1 h2
 have hids:(pre++v::post).flatMap ownV=ownV v:=by
  rw[List.flatMap_append,List.flatMap_cons,h1.1,h1.2];simp
 have hfz:(h.freeze (ownV v)).next=h.next/\∀j,(∀d∈S,j≠K.base+d)->(h.freeze (ownV v)).get j=h.get j:=by
  rcases hA with⟨_,rfl⟩ | ⟨d,ver,_,hd,rfl,hg⟩
  .exact ⟨rfl,fun _ _=>rfl⟩
  .refine ⟨by simp[hg,PH.put],fun j hj=>?_⟩;simp[hg,PH.put,hj d hd]
 have key:Yf C K f (pre++v::post) h=some (w,h)\/Yf C K f (pre++v::post) h=some (w,h.freeze ((pre++v::post).flatMap ownV)):=by
  refine Zrq Zs1 hwb Y4 (Zeh (Wy h1.1) ?_) (by cases pre<;>rfl) ?_ ?_ ?_
  .simp only [W2,hA.inl,Wy h1.2]
  .rw [List.flatMap_append,List.flatMap_cons,h1.1,h1.2];simp
  .rw [List.flatMap_append,List.flatMap_cons,h2.1,h2.2];simp
  .rw [List.flatMap_append,List.flatMap_cons,h1.1,h1.2];rcases hA with⟨_,rfl⟩ | ⟨d,ver,_,_,rfl,hg⟩
   .simp
   .simp [hg,can,hK]
 rcases key with key | key
 .exact ⟨h,key,rfl,fun _ _=>rfl⟩
 .rw [hids]at key;exact⟨_,key,hfz.1,hfz.2⟩
theorem Zmg {C:Ctx}{K:Loc}{f:Nat}{args:List PV}{h:PH}{fn:Func}{c:Code}{Q:PV×PH->Prop}(U3:extP C f args=none)(hF:C.F f=some fn)(hb:fn.body=some c)(Y4:C.raw f=true)
  (hx:wp (Vu C {base:=h.next,lo:=K.lo,ok:=K.ok} true c (Qn 0 args) {h with next:=h.next+fn.ntmps}) fun r=>(r.1=.normal\/r.1=.ret)/\wp (Uz C r.2.1 r.2.2 fn.results.toList) fun vs=>
    Q (Vq vs,if r.2.2.next=h.next+fn.ntmps/\Zfl r.2.2 h.next r.2.2.next=true then {r.2.2 with next:=h.next} else r.2.2)):wp (Yf C K f args h) Q:=by
 obtain⟨⟨x,Yv,h2⟩,h1,h3,h4⟩:=X8.1 hx;obtain⟨vs,h5,h6⟩:=X8.1 h4;simp only at h5 h6;rw[Zi9];unfold callF;rw[U3];simp only[hF,hb,Y4,if_true];have h1':Vu C {base:=h.next,lo:=K.lo,ok:=K.ok} true c (Qn 0 args) {next:=h.next+fn.ntmps,get:=h.get}=some (x,Yv,h2):=h1;simp only at h3;rcases h3 with h3 | h3
 all_goals
  subst h3;simp only[h1',h5];split at h6
  .rename_i hc;rw[if_pos hc];exact X8.2 ⟨_,rfl,h6⟩
  .rename_i hc;rw[if_neg hc];exact X8.2 ⟨_,rfl,h6⟩
theorem Z6j {C:Ctx}{K:Loc}{l ver:Nat}{args:List PV}{h:PH}{K0:Loc}{Uc:Yt}{ps:List Nat}{as bd:Code}{Q:PV×PH->Prop}(hl:h.get l=some (ver,.loop K0 Uc ps as bd))(hlen:ps.length=args.length)(Rj:Nat.ble K.lo K0.lo=true)(hok:K0.ok.all (can K)=true)
  (hx:wp (Vu C K0 false as (Zeb Uc (ps.zip args)) (h.put l ver .gone)) fun r1=>r1.1=.normal/\wp (Vu C K0 false bd r1.2.1 r1.2.2) fun r2=>r2.1=.normal/\r2.2.2.get l=some (ver,.gone)/\Q (.bool true,r2.2.2.put l ver (.loop K0 Uc ps as bd))):wp (Sa C K l ver args h) Q:=by
 obtain⟨⟨x1,Qz,h1⟩,e1,rfl,hx2⟩:=X8.1 hx;obtain⟨⟨x2,sl2,h2⟩,e2,rfl,hg,hq⟩:=X8.1 hx2;simp only at e2 hg hq;refine X8.2 ⟨_,?_,hq⟩;rw[Z24];unfold yieldF;rw[hl];simp only;rw[if_pos ⟨trivial,hlen,Rj,hok⟩,e1];simp only;rw[e2];simp only;rw[hg];simp only[if_true]
theorem Zuk {C:Ctx}{K:Loc}{f:Operand}{ps:Array Nat}{as bd:Code}{sl:Yt}{h:PH}{g:Nat}{first captured:List PV}{Q:Ex×Yt×PH->Prop}(hf:Yu sl f=some (.fn g first captured))(Y4:C.raw g=true)
  (hx:wp (Yf C K g (first++[.yield h.next 0]++captured) {h.put h.next 0 (.loop K sl ps.toList as bd) with next:=h.next+1}) fun r=>∃K1 s1 p1 a1 b1,r.2.get h.next=some (0,.loop K1 s1 p1 a1 b1)/\Q (.normal,sl,r.2.put h.next 0 .gone)):wp (Vu C K true (.rangeFunc f ps as bd) sl h) Q:=by
 obtain⟨⟨u,h'⟩,e1,K1,s1,p1,a1,b1,hg,hq⟩:=X8.1 hx;refine X8.2 ⟨_,?_,hq⟩;rw[Z48,hf];simp only[Y4,if_true];rw[show Yf C K g (first++[.yield h.next 0]++captured) {next:=h.next+1,get:=(h.put h.next 0 (.loop K sl ps.toList as bd)).get}=some (u,h') from e1];simp only at hg;simp only[hg]
theorem Zhh {C:Ctx}{K:Loc}{f:Nat}{args:List PV}{h:PH}{p a b va vb:Nat}{oa ob:PO}{fn:Func}{c:Code}{v:PV}(hF:C.F f=some fn)(hb:fn.body=some c)(Y4:C.raw f=false)(Zis:(C.ext f []).isNone=true)(ho:args.flatMap ownV=[])(hre:reach h 4 (args.flatMap (refs 3))=[p,a,b])
  (Zz:[p,a,b].all (fun i=>can K i&&(h.get i).isSome)=true) (hbp:h.belowAt h.next p=true)
  (hx:wp (Vu C {base:=h.next,lo:=h.next,ok:=[p,a,b]} true c (Qn 0 args) {h with next:=h.next+fn.ntmps}) fun r=>(r.1=.normal\/r.1=.ret)/\wp (Uz C r.2.1 r.2.2 fn.results.toList) fun vs=>
    inlT r.2.2 (Vq vs)=some v/\ownT (Vq vs)=[]/\r.2.2.get p=h.get p/\r.2.2.get a=some (va,oa)/\r.2.2.get b=some (vb,ob)) (hv:below h.next 4 v=true) (hba:Xr h.next oa=true) (hbb:Xr h.next ob=true):
  Yf C K f args h=some (v,(h.put a va oa).put b vb ob):=by
 refine Zcw (Zcs Zis Y4) hF hb Y4 ho hre Zz (wp_mono hx fun r hr=>⟨hr.1,wp_mono hr.2 fun vs h6=>?_⟩);obtain⟨h6,h7,h8,h9,h10⟩:=h6
 have hbl:[p,a,b].all (fun i=>r.2.2.belowAt h.next i)=true:=by
  simp only[PH.belowAt]at hbp;simp only[List.all_cons,List.all_nil,Bool.and_true,PH.belowAt,h8,h9,h10,hba,hbb];exact hbp
 unfold Wo;rw[h6];simp only[h7,List.all_nil,if_true,PH.freeze,hv,hbl,Bool.and_self];cases hp:r.2.2.get p with
 |none=>simp only[Yd,hp,h9,h10]
 |some y=>
  obtain⟨ver,o⟩:=y;simp only[Yd,hp,h9,h10];rw[show h.put p ver o=h from Zm5 (by rw[<- h8];exact hp)]
def Own (h:PH)(g:Nat)(v:PV)(xs:List PV)(l:List Nat):Prop:=
 (xs=[]/\v=.nils/\l=[])\/∃i ver,xs≠[]/\v=.own i ver g 0 xs.length/\h.get i=some (ver,.row g true xs)/\l=[i]
theorem Own.nil {h:PH}{g:Nat}:Own h g .nils [] []:=Or.inl ⟨rfl,rfl,rfl⟩
theorem Own.inlV {h:PH}{g:Nat}{v:PV}{xs:List PV}{l:List Nat}(hA:Own h g v xs l):Pure.inlV h v=some (L g true xs):=by
 rcases hA with⟨rfl,rfl,rfl⟩ | ⟨i,ver,Yn,rfl,hg,rfl⟩
 .rfl
 .cases xs with
  |nil=>exact absurd rfl Yn
  |cons=>simp[Pure.inlV,Zc9,PH.elems,PH.row,hg,L]
theorem Own.lenK {h:PH}{g e:Nat}{v:PV}{xs:List PV}{l:List Nat}(hA:Own h g v xs l):Pure.lenK (.slice e) v=some (.int .i64 xs.length):=by
 rcases hA with⟨rfl,rfl,rfl⟩ | ⟨i,ver,Yn,rfl,hg,rfl⟩<;>rfl
theorem Own.same {h:PH}{g n:Nat}{v:PV}{xs:List PV}{l:List Nat}(hA:Own h g v xs l):W5 n v=true:=by
 rcases hA with⟨rfl,rfl,rfl⟩ | ⟨i,ver,Yn,rfl,hg,rfl⟩<;>cases n<;>rfl
theorem Own.refs {h:PH}{g n:Nat}{v:PV}{xs:List PV}{l:List Nat}(hA:Own h g v xs l):Pure.refs n v=l:=by
 rcases hA with⟨rfl,rfl,rfl⟩ | ⟨i,ver,Yn,rfl,hg,rfl⟩<;>cases n<;>rfl
theorem Own.ownV {h:PH}{g:Nat}{v:PV}{xs:List PV}{l:List Nat}(hA:Own h g v xs l):Pure.ownV v=l:=by
 rcases hA with⟨rfl,rfl,rfl⟩ | ⟨i,ver,Yn,rfl,hg,rfl⟩<;>rfl
theorem Own.cells {h:PH}{g:Nat}{v:PV}{xs:List PV}{l:List Nat}(hA:Own h g v xs l):Zc v=[v]/\Wx v=true:=by
 rcases hA with⟨rfl,rfl,rfl⟩ | ⟨i,ver,Yn,rfl,hg,rfl⟩<;>exact⟨rfl,rfl⟩
theorem Own.frame {h h':PH}{g:Nat}{v:PV}{xs:List PV}{l:List Nat}(hA:Own h g v xs l)(hf:∀i∈l,h'.get i=h.get i):Own h' g v xs l:=by
 rcases hA with h1 | ⟨i,ver,Yn,e,hg,rfl⟩
 .exact Or.inl h1
 .exact Or.inr ⟨i,ver,Yn,e,by rw[hf i (by simp),hg],rfl⟩
theorem Own.pos {h:PH}{g k:Nat}{v:PV}{α:Type}{f:α->PV}{xs:List α}{l:List Nat}(hA:Own h g v (xs.map f) l)(hk:k < xs.length):∃i ver,v=.own i ver g 0 xs.length/\h.get i=some (ver,.row g true (xs.map f))/\l=[i]:=by
 rcases hA with⟨e,_⟩ | ⟨i,ver,Yn,e,hg,rfl⟩
 .simp at e;subst e;simp at hk
 .rw [List.length_map]at e;exact⟨i,ver,e,hg,rfl⟩
theorem Own.app {h:PH}{g:Nat}{v:PV}{xs ys:List PV}{l:List Nat}{K:Loc}{T:Ty}{dd:Nat}(hA:Own h g v xs l)(hK:∀i∈l,can K i=true)(h1:xs.length+ys.length<=1073741824)(h2:T.bytes<=65536)(h3:0 < T.size)(h4:ys≠[]):
  ∃v' h' l',Xl K h dd g T ys.length ys v=some (v',h')/\Own h' g v' (xs++ys) l'/\(l'=l\/l=[]/\l'=[K.base+dd])/\h'.next=h.next/\∀j,j∉l'->h'.get j=h.get j:=by
 have hl:ys.length≠0:=by
  cases ys with
  |nil=>exact absurd rfl h4
  |cons=>simp
 rcases hA with⟨rfl,rfl,rfl⟩ | ⟨i,ver,Yn,rfl,hg,rfl⟩
 .refine ⟨_,_,[K.base+dd],Zaa (by omega) h2 h3 hl,Or.inr ⟨K.base+dd,h.stamp (K.base+dd),by simpa using h4,by simp,by simp,rfl⟩,Or.inr ⟨rfl,rfl⟩,rfl,fun j hj=>?_⟩;simp only[List.mem_singleton]at hj;simp[hj]
 .have hr:h.row i ver g=some (true,xs):=by simp[PH.row,hg]
  refine⟨_,_,[i],((by rw[Qm,hr];rfl:Xl K h dd g T ys.length ys (.own i ver g 0 xs.length)=Zxu K h T g i ver 0 xs.length ys.length ys (true,xs)).trans (Zma h1 h2 h3 (hK i (by simp)) rfl (by simp))),.inr ⟨i,ver+1,by simp[h4],by simp,by simp,rfl⟩,Or.inl rfl,rfl,fun j hj=>?_⟩;simp only[List.mem_singleton]at hj;simp[hj]
theorem Own.call {C:Ctx}{K:Loc}{h:PH}{g f:Nat}{v w:PV}{xs:List PV}{l:List Nat}(hA:Own h g v xs l)(hK:∀i∈l,can K i=true)(Y4:C.raw f=false)(pre post:List PV)(Zs1:Xn C f (pre++L g true xs::post) w)(hw:Zdq w=true)
  (h1:(pre++post).flatMap Pure.ownV=[]) (h2:(pre++post).flatMap (Pure.refs 3)=[]):Yf C K f (pre++v::post) h=some (w,h):=by
 rw[List.flatMap_append,List.append_eq_nil_iff]at h1 h2;refine Zoq Zs1 hw Y4 (Zeh (Wy h1.1) ?_) (by cases pre<;>rfl) ?_ ?_ ?_
 .simp only [W2,hA.inlV,Wy h1.2]
 .rw [List.flatMap_append,List.flatMap_cons,h1.1,h1.2];simp
 .rw [List.flatMap_append,List.flatMap_cons,h2.1,h2.2];simp
 .rw [List.flatMap_append,List.flatMap_cons,h1.1,h1.2];rcases hA with⟨_,rfl,_⟩ | ⟨i,ver,_,rfl,hg,rfl⟩
  .simp
  .have hc:=hK i (by simp);simp at hc;simp[hg,hc]
theorem Zod {h3:PH}{j:Nat}(hs:(h3.get j).isSome=true):∀ {l:List Nat} {h:PH},j∈l->(Yd h3 l h).get j=h3.get j
 | [],h,hj=>by cases hj
 |i::r,h,hj=>by
  by_cases hr:j∈r
  .simp only [Yd];split<;>exact Zod hs hr
  .have hi:j=i:=by
    rcases List.mem_cons.1 hj with h1 | h1
    .exact h1
    .exact absurd h1 hr
   subst hi;simp only[Yd];split
   .rename_i ver o hg;rw[U4 hr,hg];simp
   .rename_i hg;rw[hg]at hs;cases hs
theorem Zum {C:Ctx}{K:Loc}{f:Nat}{args args':List PV}{h:PH}{ok:List Nat}{fn:Func}{c:Code}{v:PV}{R:PH->Prop}(hF:C.F f=some fn)(hb:fn.body=some c)(Y4:C.raw f=false)(Zis:(C.ext f []).isNone=true)(hm:W2 (inlV h) args=some args')(hre:reach h 4 (args'.flatMap (refs 3))=ok)
  (Zz:ok.all (fun i=>can K i&&(h.get i).isSome)=true) (hids:(args.flatMap ownV).all (can K)=true)
  (hx:wp (Vu C {base:=h.next,lo:=h.next,ok:=ok} true c (Qn 0 args') {h.freeze (args.flatMap ownV) with next:=h.next+fn.ntmps}) fun r=>(r.1=.normal\/r.1=.ret)/\wp (Uz C r.2.1 r.2.2 fn.results.toList) fun vs=>
    inlT r.2.2 (Vq vs)=some v/\ownT (Vq vs)=[]/\below h.next 4 v=true/\((ok.all (fun i=>r.2.2.belowAt h.next i)=true/\R (Yd r.2.2 ok h)/\R (Yd r.2.2 ok (h.freeze (args.flatMap ownV))))\/(ok.any (fun i=>!(r.2.2.belowAt h.next i)&&h.belowAt h.next i)=true/\R r.2.2))):
  ∃h',Yf C K f args h=some (v,h')/\R h':=by
 obtain⟨r,h1,h3,h4⟩:=X8.1 hx;obtain⟨vs,h5,h6,h7,h8,h9⟩:=X8.1 h4
 have go:∀h',Wo h r.2.2 ok (args.flatMap ownV) (Vq vs)=some (v,h')->Yf C K f args h=some (v,h'):=fun h' hs=>
  (Zi7 (Zcs Zis Y4) Y4 hm hre).2 ⟨fn,c,hF,hb,Zz,hids,X8.2 ⟨_,h1,h3,X8.2 ⟨vs,h5,hs⟩⟩⟩
 suffices hs:∃h',Wo h r.2.2 ok (args.flatMap ownV) (Vq vs)=some (v,h')/\R h' from hs.imp fun h' k=>⟨go h' k.1,k.2⟩
 unfold Wo;rw[h6];rcases h9 with⟨h9,h10,h11⟩ | ⟨h9,h10⟩
 .simp only [h7,PH.freeze,List.all_nil,if_true,h8,h9,Bool.and_self];split
  .exact ⟨_,rfl,h10⟩
  .exact ⟨_,rfl,h11⟩
 .refine ⟨_,?_,h10⟩
  have hn:ok.all (fun i=>r.2.2.belowAt h.next i)=false:=by
   rw[List.any_eq_true]at h9;obtain⟨i,hi,hh⟩:=h9;rw[List.all_eq_false];refine⟨i,hi,?_⟩;simp only[Bool.and_eq_true,Bool.not_eq_true']at hh;rw[hh.1];decide
  simp only[h7,PH.freeze,List.all_nil,if_true,h8,hn,Bool.and_false,Bool.false_eq_true,if_false,h9,Bool.or_true]
theorem Z5o {C:Ctx}{K:Loc}{f p ver:Nat}{o o':PO}{args args':List PV}{h:PH}{v:PV}(hG:∀H:PH,p < H.next->H.get p=some (ver,o)->Yf C K f (.ptr p ver 0::args') H=some (v,H.put p ver o'))(Zz:can K p=true)(hlt:p < h.next)(hp:h.get p=some (ver,o))(Zcn:∀g own xs,o≠.row g own xs)(hro:refsO o=[])(hvb:below h.next 4 v=true)(hbo:Xr h.next o'=true)(Y4:C.raw f=false)(hm:W2 (inlV h) args=some args')
  (ho:args'.flatMap ownV=[]) (hr:args'.flatMap (refs 3)=[])
  (hids:(args.flatMap ownV).all (fun i=>can K i&&match h.get i with | some (_,.row g _ _)=>Yo g 14 v&&Ry g o' | _=>false)=true):Yf C K f (.ptr p ver 0::args) h=some (v,h.put p ver o'):=by
 have hx:∀l:List PV,extP C f (.ptr p ver 0::l)=none:=fun l=>by
  unfold extP;split
  .rename_i h1;cases h1
  .rename_i h1;cases h1
  .rfl
 have hid:∀l:List PV,(PV.ptr p ver 0::l).flatMap ownV=l.flatMap ownV:=fun l=>by simp[ownV,Zc7]
 rw[List.all_eq_true]at hids
 have hip:p∉args.flatMap ownV:=fun Rb=>by
  have:=hids p Rb;rw[hp]at this;cases o<;>simp at this;exact Zcn _ _ _ rfl
 have hfg:(h.freeze (args.flatMap ownV)).get p=some (ver,o):=by
  rw[Y7,hp];cases o<;>first | rfl | exact absurd rfl (Zcn _ _ _)
 have h0:=hG (h.freeze (args.flatMap ownV)) (by rw[Xm];exact hlt) hfg;have Za3j:can K p=true:=Zz
 obtain⟨h3,e,k⟩:=Zrs (K:=K) (args:=.ptr p ver 0::args) (by rw[hid];exact h0) (hx _) (hx _) Y4 (by simp only[W2,hm,inlV,Zc9]) (by rw[hid];exact ho)
  (ok:=[p]) (by rw[List.flatMap_cons,hr];simp[reach,hp,hro]) (by
    rw[hid,List.all_eq_true];intro i hi;have:=hids i hi;rw[Bool.and_eq_true]at this;exact this.1) hvb (by simp[PH.belowAt,hbo])
 rw[hid]at e k;have hsp:=congrArg (fun H:PH=>H.get p) e
 have h3p:Yd h3 [p] h=h.put p ver o'/\∀g,Ry g o'=true->([p].all fun j=>match h3.get j with | some (_,o)=>Ry g o | none=>true)=true:=by
  simp only[Yd]at hsp ⊢;cases h4:h3.get p with
  |none=>
   rw[h4]at hsp;simp only[hfg]at hsp;simp only[PH.put,if_true,Option.some.injEq,Prod.mk.injEq,true_and]at hsp;subst hsp;exact⟨(Zm5 hp).symm,fun g hg=>by rw[List.all_cons,h4];rfl⟩
  |some y=>
   obtain⟨a,w⟩:=y;rw[h4]at hsp;simp only[PH.put,if_true,Option.some.injEq,Prod.mk.injEq]at hsp;obtain⟨rfl,rfl⟩:=hsp;exact⟨rfl,fun g hg=>by rw[List.all_cons,h4];simp[hg]⟩
 rw[h3p.1]at k;rcases k with k | ⟨_,k⟩
 .exact k
 .refine absurd ?_ k;rw[List.all_eq_true];intro i hi;have h5:=hids i hi;rw[Bool.and_eq_true]at h5
  have hpi:Nat.beq i p=false:=by
   rw[<- Bool.not_eq_true,Nat.beq_eq];rintro rfl;exact hip hi
  have h6:=h5.2;split at h6
  .rename_i Zyk g own xs hg;simp only[Bool.and_eq_true]at h6;rw[hg];simp only[List.any_cons,List.any_nil,Bool.or_false,hpi,Bool.not_false,Bool.true_and];cases own
   .rfl
   .show (Yo g 14 v&&_)=true;rw[h6.1,Bool.true_and];exact h3p.2 g h6.2
  .cases h6
theorem Acc.callG {C:Ctx}{S:List Nat}{K:Loc}{h:PH}{g f p ver:Nat}{o o':PO}{v w:PV}{xs:List PV}(hA:Acc S K h g v xs)(hK:K.lo=K.base)(Y4:C.raw f=false)(pre post:List PV)(hG:∀H:PH,p < H.next->H.get p=some (ver,o)->Yf C K f (.ptr p ver 0::(pre++L g true xs::post)) H=some (w,H.put p ver o'))(Zz:can K p=true)(hlt:p < h.next)(hp:h.get p=some (ver,o))(Zcn:∀g own xs,o≠.row g own xs)(hro:refsO o=[])(hwb:below h.next 4 w=true)(hbo:Xr h.next o'=true)(hw:Yo g 14 w=true)(hwo:Ry g o'=true)
  (h1:(pre++post).flatMap ownV=[]) (h2:(pre++post).flatMap (refs 3)=[]):Yf C K f (.ptr p ver 0::(pre++v::post)) h=some (w,h.put p ver o'):=by
 rw[List.flatMap_append,List.append_eq_nil_iff]at h1 h2;refine Z5o hG Zz hlt hp Zcn hro hwb hbo Y4 (Zeh (Wy h1.1) ?_) ?_ ?_ ?_
 .simp only [W2,hA.inl,Wy h1.2]
 .rw [List.flatMap_append,List.flatMap_cons,h1.1,h1.2];simp
 .rw [List.flatMap_append,List.flatMap_cons,h2.1,h2.2];simp
 .rw [List.flatMap_append,List.flatMap_cons,h1.1,h1.2];rcases hA with⟨_,rfl⟩ | ⟨d,ver,_,_,rfl,hg⟩
  .simp
  .simp [hg,Pure.can,hK,hw,hwo]
end Go.Pure
end
