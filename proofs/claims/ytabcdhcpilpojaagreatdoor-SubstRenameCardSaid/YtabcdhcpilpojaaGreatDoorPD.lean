/- Plain runs by rewriting. -/
import Derived.Test.YtabcdhcpilpojaaGreatDoorPE
set_option linter.unusedSimpArgs false
set_option linter.unusedVariables false
section
namespace Go.Pure
open Go
open Go.Virt (Ex Ctx Ty TK maxLenV Zx)
structure Tag {α:Type}(a:α):Type where
def wp {α:Type}(x:Option α)(Q:α->Prop)(_t:Tag Q:=⟨⟩):Prop:=match x with | some a=>Q a | none=>False
@[simp] theorem Zn8 {α:Type}{a:α}{Q:α->Prop}{t:Tag Q}:wp (some a) Q t=Q a:=rfl
@[simp] theorem Z61 {α:Type}{Q:α->Prop}{t:Tag Q}:wp (none:Option α) Q t=False:=rfl
theorem wp_mono {α:Type}{x:Option α}{Q R:α->Prop}(h:wp x Q)(hq:∀ a,Q a->R a):wp x R:=by
 cases x with
 | none=>exact h
 | some a=>exact hq a h
theorem Xm {α:Type}{x:Option α}{Q:α->Prop}:wp x Q↔∃ a,x=some a/\Q a:=by
 cases x with
 | none=>simp
 | some a=>simp
def bO {α β:Type}(x:Option α)(f:α->Option β)(_t:Tag f:=⟨⟩):Option β:=match x with | some a=>f a | none=>none
@[simp] theorem Xi {α β:Type}{a:α}{f:α->Option β}{t:Tag f}:bO (some a) f t=f a:=rfl
@[simp] theorem Zw9 {α β:Type}{f:α->Option β}{t:Tag f}:bO none f t=none:=rfl
@[simp] theorem Zasv {α β:Type}{x:Option α}{f:α->Option β}{t:Tag f}{Q:β->Prop}{u:Tag Q}:wp (bO x f t) Q u=wp x fun a=>wp (f a) Q:=by cases x<;>rfl
@[simp] theorem wp_map {α β:Type}{x:Option α}{f:α->β}{Q:β->Prop}{u:Tag Q}:wp (x.map f) Q u=wp x fun a=>Q (f a):=by cases x<;>rfl
@[simp] theorem wp_bind {α β:Type}{x:Option α}{f:α->Option β}{Q:β->Prop}{u:Tag Q}:wp (x.bind f) Q u=wp x fun a=>wp (f a) Q:=by cases x<;>rfl
def ifB (b:Bool)(A B:Prop)(_t:Tag A:=⟨⟩)(_u:Tag B:=⟨⟩):Prop:=if b=true then A else B
@[simp] theorem Zrv {A B:Prop}{t:Tag A}{u:Tag B}:ifB true A B t u=A:=rfl
@[simp] theorem Zyw {A B:Prop}{t:Tag A}{u:Tag B}:ifB false A B t u=B:=rfl
theorem Znc {b:Bool}{A B:Prop}{t:Tag A}{u:Tag B}(h1:b=true->A)(h2:b=false->B):ifB b A B t u:=by
 cases b with
 | true=>exact h1 rfl
 | false=>exact h2 rfl
@[simp] theorem Zand {b:Bool}{A B:Prop}{t:Tag A}{u:Tag B}:ifB (!b) A B t u=ifB b B A u t:=by cases b<;>rfl
@[simp] theorem put_get (sl:Yo)(d t:Nat)(v:PV):(sl.put d v) t=if t=d then some v else sl t:=rfl
@[simp] theorem Zah1 (args:List PV)(t:Nat):Sh 0 args t=args[t]?:=by simp [Sh]
@[simp] theorem Zagy (sl Yp:Yo)(t:Nat):Zbu sl Yp t=bO (sl t) fun _=>Yp t:=by unfold Zbu bO;cases sl t<;>rfl
@[simp] theorem Zt3 (h:PH)(i Zg:Nat)(o:PO)(j:Nat):(h.put i Zg o).get j=if j=i then some (Zg,o) else h.get j:=rfl
@[simp] theorem Zaa7 (h:PH)(i Zg:Nat)(o:PO):(h.put i Zg o).next=h.next:=rfl
@[simp] theorem Zagk {sl:Yo}{n:Nat}{v:PV}:putP sl (some n) v=sl.put n v:=rfl
@[simp] theorem Zagl {sl:Yo}{v:PV}:putP sl none v=sl:=rfl
@[simp] theorem Zaiy {sl:Yo}{t:Nat}:Yr sl (.tmp t)=sl t:=rfl
@[simp] theorem Zags {sl:Yo}{f:Nat}:Yr sl (.func f)=some (.fn f [] []):=rfl
@[simp] theorem Zai0 {sl:Yo}{k:IntKind}{n:Int}:Yr sl (.const (.int k n))=some (.int k n):=rfl
@[simp] theorem Zagt {sl:Yo}{b:Bool}:Yr sl (.const (.bool b))=some (.bool b):=rfl
@[simp] theorem Zaiz {sl:Yo}{b:ByteArray}:Yr sl (.const (.string b))=some (.str (b.data.toList.map UInt8.toNat)):=rfl
@[simp] theorem Zagn {sl:Yo}:Yr sl (.const (.slice none 0 0))=some .nils:=rfl
@[simp] theorem Zago {sl:Yo}:Yr sl (.const (.pointer none))=some .nilp:=rfl
@[simp] theorem Zagp {sl:Yo}:Yr sl (.const (.map none))=some .nilm:=rfl
@[simp] theorem Zagr {sl:Yo}:Yr sl (.const .nilFunc)=some .nilf:=rfl
@[simp] theorem Zagq {sl:Yo}:Yr sl (.const .nilIface)=some .nili:=rfl
@[simp] theorem Zai1 {sl:Yo}{cs:Array Value}:Yr sl (.const (.agg cs))=(Zw.go 2 cs.toList).map .agg:=rfl
@[simp] theorem Zase {n:Nat}:Zw.go n []=some []:=by simp only [Zw.go]
@[simp] theorem Zaoc {n:Nat}{v:Value}{r:List Value}:Zw.go n (v::r)=bO (Zw n v) fun p=>bO (Zw.go n r) fun ps=>some (p::ps):=by
 simp only [Zw.go];cases Zw n v<;>cases Zw.go n r<;>rfl
@[simp] theorem Zaot {n:Nat}{k:IntKind}{i:Int}:Zw n (.int k i)=some (.int k i):=by cases n<;>rfl
@[simp] theorem Zam8 {n:Nat}{b:Bool}:Zw n (.bool b)=some (.bool b):=by cases n<;>rfl
@[simp] theorem Zaos {n:Nat}{b:ByteArray}:Zw n (.string b)=some (.str (b.data.toList.map UInt8.toNat)):=by cases n<;>rfl
@[simp] theorem Zam3 {n:Nat}:Zw n (.slice none 0 0)=some .nils:=by cases n<;>rfl
@[simp] theorem Zam4 {n:Nat}:Zw n (.pointer none)=some .nilp:=by cases n<;>rfl
@[simp] theorem Zam5 {n:Nat}:Zw n (.map none)=some .nilm:=by cases n<;>rfl
@[simp] theorem Zam7 {n:Nat}:Zw n .nilFunc=some .nilf:=by cases n<;>rfl
@[simp] theorem Zam6 {n:Nat}:Zw n .nilIface=some .nili:=by cases n<;>rfl
@[simp] theorem Zact {l:List Value}:Q3 l=Zw.go 0 l:=rfl
@[simp] theorem Zhh {sl:Yo}:Wn sl []=some []:=rfl
@[simp] theorem Qh {sl:Yo}{x:Operand}{r:List Operand}:Wn sl (x::r)=bO (Yr sl x) fun v=>bO (Wn sl r) fun vs=>some (v::vs):=by
 simp only [Wn];cases Yr sl x<;>cases Wn sl r<;>rfl
@[simp] theorem Zacu {sl:Yo}:Ug sl []=some []:=rfl
@[simp] theorem Zib {sl:Yo}{i:Nat}{x:Operand}{r:List (Nat×Operand)}:Ug sl ((i,x)::r)=bO (Yr sl x) fun v=>bO (Ug sl r) fun vs=>some ((i,v)::vs):=by
 simp only [Ug];cases Yr sl x<;>cases Ug sl r<;>rfl
section
variable {C:Ctx}{K:Loc}{Xg:Bool}{sl:Yo}{h:PH}{Q:Ex×Yo×PH->Prop}
@[simp] theorem wp_seq {a b:Code}:wp (W5 C K Xg (.seq a b) sl h) Q=wp (W5 C K Xg a sl h) fun r=>match r with
  | (.normal,sl,h)=>wp (W5 C K Xg b sl h) Q
  | r=>Q r:=by
 rw [Z82];cases W5 C K Xg a sl h with
 | none=>rfl
 | some r=>
   obtain ⟨x,Yp,h'⟩:=r;cases x<;>rfl
@[simp] theorem wp_cond {c:Operand}{a b:Code}:wp (W5 C K Xg (.cond c a b) sl h) Q=wp (Yr sl c) fun v=>match v with
  | .bool x=>ifB x (wp (W5 C K Xg a sl h) Q) (wp (W5 C K Xg b sl h) Q)
  | _=>False:=by
 rw [Z4t];cases Yr sl c with
 | none=>rfl
 | some v=>
   cases v with
   | bool x=>cases x<;>rfl
   | _=>rfl
@[simp] theorem wp_block {id:Nat}{b:Code}:wp (W5 C K Xg (.block id b) sl h) Q=wp (W5 C K Xg b sl h) fun r=>match r with
  | (.exit id',sl,h)=>if id'=id then Q (.normal,sl,h) else Q (.exit id',sl,h)
  | r=>Q r:=by
 rw [Zzy];cases W5 C K Xg b sl h with
 | none=>rfl
 | some r=>
   obtain ⟨x,Yp,h'⟩:=r;cases x with
   | exit id'=>simp only [Z5b,Zn8];split<;>rfl
   | _=>rfl
theorem wp_loop {b:Code}:wp (W5 C K Xg (.loop b) sl h) Q=wp (W5 C K Xg b sl h) fun r=>match r with
  | (.normal,Yp,h')=>wp (W5 C K Xg (.loop b) (Zbu sl Yp) h') Q
  | r=>Q r:=by
 rw [Z4q];cases W5 C K Xg b sl h with
 | none=>rfl
 | some r=>
   obtain ⟨x,Yp,h'⟩:=r;cases x<;>rfl
@[simp] theorem wp_skip {t0:Tag Q}:wp (W5 C K Xg .skip sl h) Q t0=Q (.normal,sl,h):=by rw [Z4p];rfl
@[simp] theorem wp_exit {id:Nat}:wp (W5 C K Xg (.exit id) sl h) Q=Q (.exit id,sl,h):=by rw [Z4r];rfl
@[simp] theorem wp_ret {t0:Tag Q}:wp (W5 C K Xg .ret sl h) Q t0=Q (.ret,sl,h):=by rw [Z83];rfl
@[simp] theorem wp_region {id:Nat}{ops:Array Oper}:wp (W5 C K Xg (.region id ops false) sl h) Q=wp (Qq C (Yv C) (Tq C) K ops.toList ops.toList sl h) fun p=>Q (.normal,p.1,p.2):=by
 rw [Zve,wp_map]
end
section
variable {C:Ctx}{cf:CF}{yf:YF}{K:Loc}{all:List Oper}{sl:Yo}{h:PH}{d:Option Nat}{t:TypeId}{pos:String}{af:Array Edge}{gd:Option (Nat×Bool)}
@[simp] theorem Zace {Q:Yo×PH->Prop}:wp (Qq C cf yf K all [] sl h) Q=Q (sl,h):=rfl
@[simp] theorem Zaar {o:Oper}{r:List Oper}{Q:Yo×PH->Prop}:wp (Qq C cf yf K all (o::r) sl h) Q =
  wp (Vb all sl o) fun w=>ifB w (wp (opP C cf yf all K sl h o) fun p=>wp (Qq C cf yf K all r (putP sl o.dst p.1) p.2) Q) (wp (Qq C cf yf K all r (putP sl o.dst (.tuple [])) h) Q):=by
 simp only [Qq];cases Vb all sl o with
 | none=>rfl
 | some w=>
   cases w with
   | true=>cases opP C cf yf all K sl h o<;>rfl
   | false=>rfl
@[simp] theorem Zaau {op:Op}:Vb all sl ⟨d,op,t,pos,af,none⟩=some true:=rfl
@[simp] theorem Zaat {op:Op}{j:Nat}{want:Bool}:Vb all sl ⟨d,op,t,pos,af,some (j,want)⟩=(match (all[j]?).bind (·.dst) with
  | some d=>bO (sl d) fun v=>match v with | .bool b=>some (b==want) | _=>some false
  | none=>some false):=by
 simp only [Vb];cases hb:(all[j]?).bind (·.dst) with
 | none=>rfl
 | some d=>
   simp only;cases hs:sl d with
   | none=>rfl
   | some v=>cases v<;>rfl
end
attribute [simp low] Yd.eq_1 Vx.eq_1 Zk.eq_1
section
variable {C:Ctx}{op:BinOp}{t:Nat}
@[simp] theorem Zami {k k':IntKind}{a b:Int}:Za5 C op t (.int k a) (.int k' b)=Si op k k' a b:=rfl
@[simp] theorem Zamh {a b:List Nat}:Za5 C op t (.str a) (.str b)=Zl5 op a b:=rfl
@[simp] theorem Z6v {a b:Bool}:Za5 C .eql t (.bool a) (.bool b)=(eqP C t (.bool a) (.bool b)).map .bool:=rfl
@[simp] theorem Z6s {a b:Bool}:Za5 C .neq t (.bool a) (.bool b)=(eqP C t (.bool a) (.bool b)).map fun b=>.bool (!b):=rfl
@[simp] theorem Z6u {y:PV}:Za5 C .eql t .nilp y=(eqP C t .nilp y).map .bool:=rfl
@[simp] theorem Z6r {y:PV}:Za5 C .neq t .nilp y=(eqP C t .nilp y).map fun b=>.bool (!b):=rfl
@[simp] theorem Z9g {i v o:Nat}{y:PV}:Za5 C .eql t (.ptr i v o) y=(eqP C t (.ptr i v o) y).map .bool:=rfl
@[simp] theorem Z9d {i v o:Nat}{y:PV}:Za5 C .neq t (.ptr i v o) y=(eqP C t (.ptr i v o) y).map fun b=>.bool (!b):=rfl
@[simp] theorem Z6t {cs:List PV}{y:PV}:Za5 C .eql t (.rptr cs) y=(eqP C t (.rptr cs) y).map .bool:=rfl
@[simp] theorem Z6p {cs:List PV}{y:PV}:Za5 C .neq t (.rptr cs) y=(eqP C t (.rptr cs) y).map fun b=>.bool (!b):=rfl
@[simp] theorem Zmm {y:PV}:Za5 C .eql t .nils y=(eqP C t .nils y).map .bool:=rfl
@[simp] theorem Z6q {y:PV}:Za5 C .neq t .nils y=(eqP C t .nils y).map fun b=>.bool (!b):=rfl
@[simp] theorem Zpg {g:Nat}{xs:List PV}{y:PV}:Za5 C .eql t (.lst g xs) y=(eqP C t (.lst g xs) y).map .bool:=rfl
@[simp] theorem Z9f {g:Nat}{xs:List PV}{y:PV}:Za5 C .neq t (.lst g xs) y=(eqP C t (.lst g xs) y).map fun b=>.bool (!b):=rfl
@[simp] theorem Z9h {i v g o n:Nat}{y:PV}:Za5 C .eql t (.own i v g o n) y=(eqP C t (.own i v g o n) y).map .bool:=rfl
@[simp] theorem Z9e {i v g o n:Nat}{y:PV}:Za5 C .neq t (.own i v g o n) y=(eqP C t (.own i v g o n) y).map fun b=>.bool (!b):=rfl
end
attribute [simp] Mk.obj Mk.val toP Go.Virt.TK.agg Vf V8 Zbf Vv Zos Ziy unP
attribute [simp] cellsOf.eq_1 cellsOf.eq_2 Wj.eq_1 Wj.eq_2 Wj.eq_3 Zyt.eq_1 Zyt.eq_2 Zyt.eq_3 Zyt.eq_4 Zyt.eq_5
@[simp] theorem Zaiu {cs:List PV}{off n:Nat}:Xk cs off n=if off+n<=cs.length then some ((cs.drop off).take n) else none:=rfl
@[simp] theorem Zah2 {ty:Ty}:Qw ty=(Q3 ty.zero).bind (toP ty.k.agg):=rfl
def opF (x:Option PV)(Q:PV->Prop)(R:Prop)(_t:Tag Q:=⟨⟩)(_u:Tag R:=⟨⟩):Prop:=match x with | some v=>Q v | none=>R
@[simp] theorem Z15 {v:PV}{Q:PV->Prop}{R:Prop}{t:Tag Q}{u:Tag R}:opF (some v) Q R t u=Q v:=rfl
@[simp] theorem Zrf {Q:PV->Prop}{R:Prop}{t:Tag Q}{u:Tag R}:opF none Q R t u=R:=rfl
def opM (x:Option Mk)(Q:Mk->Prop)(R:Prop)(_t:Tag Q:=⟨⟩)(_u:Tag R:=⟨⟩):Prop:=match x with | some v=>Q v | none=>R
@[simp] theorem Zre {v:Mk}{Q:Mk->Prop}{R:Prop}{t:Tag Q}{u:Tag R}:opM (some v) Q R t u=Q v:=rfl
@[simp] theorem Z14 {Q:Mk->Prop}{R:Prop}{t:Tag Q}{u:Tag R}:opM none Q R t u=R:=rfl
section
variable {C:Ctx}{cf:CF}{yf:YF}{K:Loc}{all:List Oper}{sl:Yo}{h:PH}{o:Oper}
@[simp] theorem Zasu {Q:PV×PH->Prop}:wp (opP C cf yf all K sl h o) Q=opF (Yd C sl o) (fun v=>Q (v,h)) (opM (Vx C all sl o)
   (fun m=>match m.obj,o.dst with
     | none,_=>Q (m.val 0 0,h)
     | some ob,some d=>Q (m.val (K.base+d) (h.stamp (K.base+d)),h.put (K.base+d) (h.stamp (K.base+d)) ob)
     | some _,none=>False)
   (wp (Zk C cf yf all K sl h o) Q)):=by
 unfold opP;cases Yd C sl o with
 | some v=>rfl
 | none=>
   cases Vx C all sl o with
   | none=>rfl
   | some m=>
     simp only [Zrf,Zre];cases m.obj with
     | none=>rfl
     | some ob=>cases o.dst<;>rfl
end
section
variable {C:Ctx}{sl:Yo}{h:PH}
@[simp] theorem Zais:Uq C sl h []=some []:=rfl
@[simp] theorem Zair {t:Nat}{r:List ResultVar}:Uq C sl h (.tmp t::r)=bO (sl t) fun v=>bO (Uq C sl h r) fun vs=>some (v::vs):=by
 simp only [Uq];cases sl t<;>cases Uq C sl h r<;>rfl
attribute [simp] inlT.eq_1 inlT.eq_2 Xt.eq_1 Xt.eq_2 Rv.eq_1 Rv.eq_2 ownT.eq_1 ownT.eq_2 Yl.eq_1 Yl.eq_2 U7.eq_1 U7.eq_2 Wk Yy refs below extP plain Znu PH.elems PH.row PH.freeze can Zul Zk.bytesP
@[simp] theorem Zyr {α β:Type}{f:α->Option β}{x:α}{r:List α}:Yy f (x::r)=bO (f x) fun y=>bO (Yy f r) fun ys=>some (y::ys):=by
 simp only [Yy];cases f x<;>cases Yy f r<;>rfl
end
section
variable {sl:Yo}
attribute [simp] Tz
end
@[simp] theorem Zac7 {t:Nat}:Virt.litNil (.tmp t)=false:=rfl
@[simp] theorem Z56 {t:Nat}:Virt.litNil (.global t)=false:=rfl
@[simp] theorem Zaba {t:Nat}:Virt.litNil (.func t)=false:=rfl
@[simp] theorem Zabb {b:Bool}:Virt.litNil (.const (.bool b))=false:=rfl
@[simp] theorem Zadc {k:IntKind}{n:Int}:Virt.litNil (.const (.int k n))=false:=rfl
@[simp] theorem Zac8 {b:ByteArray}:Virt.litNil (.const (.string b))=false:=rfl
@[simp] theorem Zac9 {a:Option Addr}:Virt.litNil (.const (.pointer a))=false:=rfl
@[simp] theorem Z7w {a:Option Addr}{n m:Nat}:Virt.litNil (.const (.slice a n m))=false:=rfl
@[simp] theorem Zadb {a:Option Nat}:Virt.litNil (.const (.map a))=false:=rfl
@[simp] theorem Z2j:Virt.litNil (.const .nilFunc)=false:=rfl
@[simp] theorem Zada:Virt.litNil (.const .nilIface)=true:=rfl
attribute [simp] Zrk Virt.ifaceK
theorem Za1 {C:Ctx}{f:Nat}{args:List PV}(W9:(C.ext f []).isNone=true)(Y6:C.raw f=false):extP C f args=none:=by
 unfold extP;split
 .cases e:C.ext f [] with
  | none=>rfl
  | some v=>rw [e] at W9;cases W9
 .rw [Y6];rfl
 .rfl
theorem Zh {C:Ctx}{K:Loc}{f:Nat}{args:List PV}{h:PH}{fn:Func}{c:Code}{v:PV}(Zgl:(C.ext f []).isNone=true)(hF:C.F f=some fn)(hb:fn.body=some c)(Y6:C.raw f=false)(ho:args.flatMap Yl=[])(hr:args.flatMap (refs 3)=[])
  (hx:wp (W5 C {base:=h.next,lo:=h.next,ok:=[]} true c (Sh 0 args) {h with next:=h.next+fn.ntmps}) fun r=>(r.1=.normal\/r.1=.ret)/\wp (Uq C r.2.1 r.2.2 fn.results.toList) fun vs=>
    inlT r.2.2 (Wk vs)=some v/\(ownT (Wk vs)).all (fun i=>Nat.ble h.next i)=true) (hv:below h.next 4 v=true):Yv C K f args h=some (v,h):=by
 have W9:=Za1 (args:=args) Zgl Y6
 have hm:Yy (Xt h) args=some args:=by
  have Zd3:∀ a,Yl a=[]->Xt h a=some a:=by
   intro a ha
   have hc:∀ cs:List PV,cs.flatMap U7=[]->Yy (Rv h) cs=some cs:=by
    intro cs
    induction cs with
    | nil=>intro _;rfl
    | cons c cs ih=>
      intro hh;rw [List.flatMap_cons,List.append_eq_nil_iff] at hh;simp only [Yy,ih hh.2];cases c<;>simp_all [U7,Rv]
   cases a with
   | agg cs=>simp only [Xt];rw [hc cs ha];rfl
   | own=>simp [Yl,U7] at ha
   | _=>rfl
  clear W9 hx hr
  induction args with
  | nil=>rfl
  | cons a l ih=>
    rw [List.flatMap_cons,List.append_eq_nil_iff] at ho;simp only [Yy,Zd3 a ho.1,ih ho.2]
 obtain ⟨⟨x,Yp,h2⟩,h1,h3,h4⟩:=Xm.1 hx;obtain ⟨vs,h5,h6,h7⟩:=Xm.1 h4
 have hs:Y3 h h2 [] [] (Wk vs)=some (v,h):=by
  unfold Y3;simp only at h6;rw [h6];simp only [List.any_nil,Bool.or_false,h7,hv,List.all_nil,Bool.and_true,if_true,Ya]
 rw [Vz];unfold callF;rw [W9];simp only [hF,hb,Y6,Bool.false_eq_true,if_false,hm,ho,hr,reach,List.all_nil,Bool.and_true,if_true,PH.freeze];have h1':W5 C {base:=h.next,lo:=h.next,ok:=[]} true c (Sh 0 args) {next:=h.next+fn.ntmps,get:=h.get}=some (x,Yp,h2):=h1;rw [h1'];simp only at h5;rcases h3 with h3 | h3<;>simp only at h3<;>subst h3<;>simp only [h5]<;>exact hs
end Go.Pure
end
section
namespace Go.Pure
open Go
open Go.Virt (Ex Ctx Ty TK)
theorem Zqd {C:Ctx}{K:Loc}{Xg:Bool}{b:Code}{Q:Ex×Yo×PH->Prop}(I:Nat->Yo->PH->Prop)
  (step:∀ n sl h,I n sl h->wp (W5 C K Xg b sl h) fun r=>match r with | (.normal,Yp,h')=>∃ m,m < n/\I m (Zbu sl Yp) h' | r=>Q r):
  ∀ n sl h,I n sl h->wp (W5 C K Xg (.loop b) sl h) Q:=by
 intro n
 induction n using Nat.strongRecOn with
 | _ n ih=>
   intro sl h hi;rw [wp_loop];refine wp_mono (step n sl h hi) ?_;rintro ⟨x,Yp,h'⟩ hq;cases x with
   | normal=>obtain ⟨m,hm,hI⟩:=hq;exact ih m hm _ _ hI
   | exit id=>exact hq
   | ret=>exact hq
structure Hide (p:Prop):Prop where
 get:p
theorem wrap_i64 {n:Int}(h1 : -9223372036854775808<=n)(h2:n < 9223372036854775808):IntKind.i64.wrap n=n:=by
 simp only [IntKind.wrap,IntKind.bits,IntKind.signed,Bool.true_and,decide_eq_true_eq,ge_iff_le];split<;>omega
theorem wrap_u8 {n:Int}(h1:0<=n)(h2:n < 256):IntKind.u8.wrap n=n:=by
 simp only [IntKind.wrap,IntKind.bits,IntKind.signed,Bool.false_and,Bool.false_eq_true,if_false];omega
theorem wrap_u64 {n:Int}:0<=IntKind.u64.wrap n/\IntKind.u64.wrap n < 18446744073709551616:=by
 simp only [IntKind.wrap,IntKind.bits,IntKind.signed,Bool.false_and,Bool.false_eq_true,if_false];omega
theorem Zmq {n:Int}(h1:0<=n)(h2:n < 18446744073709551616):IntKind.u64.wrap n=n:=by
 simp only [IntKind.wrap,IntKind.bits,IntKind.signed,Bool.false_and,Bool.false_eq_true,if_false];omega
def Zc0:PV->Bool
 | .bool _ | .int _ _ | .str _ | .nilp | .nils | .nilm | .nilf | .nili=>true
 | _=>false
abbrev Xr (C:Ctx)(f:Nat)(args:List PV)(v:PV):Prop:=∀ K H,Yv C K f args H=some (v,H)
theorem Zva {v:PV}(h:Zc0 v=true)(m n:Nat):below m n v=true:=by
 cases v<;>simp_all [Zc0]<;>cases n<;>rfl
theorem Zu9 {v:PV}(h:Zc0 v=true)(m:Nat)(n:Nat):Yn m n v=true:=by
 cases v<;>simp_all [Zc0]<;>cases n<;>rfl
theorem Zsw {C:Ctx}{K:Loc}{f:Nat}{args Zy:List PV}{h:PH}{v:PV}(hA:Xr C f Zy v)(hv:Zc0 v=true)(Y6:C.raw f=false)(hm:Yy (Xt h) args=some Zy)(Ys:args.isEmpty=false)
  (ho:Zy.flatMap Yl=[]) (hr:Zy.flatMap (refs 3)=[])
  (hids:(args.flatMap Yl).all (fun i=>can K i&&match h.get i with | some (_,.row _ _ _)=>true | _=>false)=true):Yv C K f args h=some (v,h):=by
 have hx:∀ l:List PV,l.isEmpty=false->extP C f l=none:=by
  intro l hl;unfold extP;split
  .cases hl
  .rw [Y6];rfl
  .rfl
 have Zme:Zy.isEmpty=false:=by
  cases args with
  | nil=>cases Ys
  | cons a l=>
    simp only [Yy] at hm;split at hm
    .injection hm with hm;subst hm;rfl
    .cases hm
 have hm':∀ H,Yy (Xt H) Zy=some Zy:=by
  intro H
  have Zd3:∀ a,Yl a=[]->Xt H a=some a:=by
   intro a ha
   have hc:∀ cs:List PV,cs.flatMap U7=[]->Yy (Rv H) cs=some cs:=by
    intro cs
    induction cs with
    | nil=>intro _;rfl
    | cons c cs ih=>
      intro hh;rw [List.flatMap_cons,List.append_eq_nil_iff] at hh;simp only [Yy,ih hh.2];cases c<;>simp_all [U7,Rv]
   cases a with
   | agg cs=>simp only [Xt];rw [hc cs ha];rfl
   | own=>simp [Yl,U7] at ha
   | _=>rfl
  clear hm hr Zme hA
  induction Zy with
  | nil=>rfl
  | cons a l ih=>
    rw [List.flatMap_cons,List.append_eq_nil_iff] at ho;simp only [Yy,Zd3 a ho.1,ih ho.2]
 have h0:=hA K (h.freeze (args.flatMap Yl))
 have Rc:∀ (l:List Nat) (g:PH),(g.freeze l).next=g.next:=by
  intro l
  induction l with
  | nil=>intro g;rfl
  | cons i l ih=>intro g;simp only [PH.freeze];split<;>rw [ih];rfl
 rw [Vz] at h0 ⊢;unfold callF at h0 ⊢;rw [hx _ Zme] at h0;rw [hx _ Ys];cases hF:C.F f with
 | none=>simp only [hF] at h0;cases h0
 | some fn=>
   simp only [hF] at h0 ⊢;cases hb:fn.body with
   | none=>simp only [hb] at h0;cases h0
   | some c=>
     simp only [hb,Y6,Bool.false_eq_true,if_false,hm',ho,hr,reach,List.all_nil,Bool.and_true,if_true] at h0
     have Zt:(args.flatMap Yl).all (can K)=true:=by
      rw [List.all_eq_true] at hids ⊢;intro i hi;have:=hids i hi;simp only [Bool.and_eq_true] at this;exact this.1
     simp only [Y6,Bool.false_eq_true,if_false,hm,hr,reach,List.all_nil,Bool.true_and,Zt,if_true];have e1:(PH.freeze (h.freeze (args.flatMap Yl)) [])=h.freeze (args.flatMap Yl):=rfl;rw [e1,Rc] at h0;cases hx:W5 C {base:=h.next,lo:=h.next,ok:=[]} true c (Sh 0 Zy) {h.freeze (args.flatMap Yl) with next:=h.next+fn.ntmps} with
     | none=>rw [hx] at h0;cases h0
     | some r=>
       obtain ⟨x,Yp,h2⟩:=r;rw [hx] at h0
       have key:∀ vs,Y3 (h.freeze (args.flatMap Yl)) h2 [] [] (Wk vs)=some (v,h.freeze (args.flatMap Yl))->Y3 h h2 [] (args.flatMap Yl) (Wk vs)=some (v,h):=by
        intro vs hs;unfold Y3 at hs ⊢;cases hi:inlT h2 (Wk vs) with
        | none=>rw [hi] at hs;cases hs
        | some v'=>
          rw [hi] at hs;simp only [List.any_nil,Bool.or_false,Rc,List.all_nil,Bool.and_true,Ya] at hs ⊢;by_cases ha:((ownT (Wk vs)).all fun i=>Nat.ble h.next i)=true
          .rw [if_pos ha] at hs ⊢
           have hvv:v'=v:=by
            by_cases hb:below h.next 4 v'=true
            .rw [if_pos hb] at hs;simp only [if_true,Option.some.injEq,Prod.mk.injEq] at hs;exact hs.1
            .rw [if_neg hb] at hs;split at hs
             .simp only [Option.some.injEq,Prod.mk.injEq] at hs;exact hs.1
             .cases hs
           subst hvv;rw [if_pos (Zva hv _ _),if_pos];rw [List.all_eq_true] at hids ⊢;intro i hi;have:=hids i hi;simp only [Bool.and_eq_true] at this;simp only [Bool.not_false,Bool.true_and];have h2:=this.2;split at h2
           .rename_i Zg g own xs hg;rw [hg];cases own<;>simp [Zu9 hv]
           .cases h2
          .rw [if_neg ha] at hs;cases hs
       cases x with
       | exit=>simp only at h0;cases h0
       | normal=>
         simp only at h0 ⊢;cases Wd:Uq C Yp h2 fn.results.toList with
         | none=>rw [Wd] at h0;cases h0
         | some vs=>rw [Wd] at h0;exact key vs h0
       | ret=>
         simp only at h0 ⊢;cases Wd:Uq C Yp h2 fn.results.toList with
         | none=>rw [Wd] at h0;cases h0
         | some vs=>rw [Wd] at h0;exact key vs h0
theorem Zrb {C:Ctx}{f g:Nat}{x:PV}{ys:List PV}{v:PV}(hA:Xr C f [x,.lst g ys] v)(hv:Zc0 v=true)(hx:Zc0 x=true)(Y6:C.raw f=false):
  ∀ (K:Loc) (h:PH) (i Zg n:Nat) (own:Bool),K.lo<=i->h.get i=some (Zg,.row g own ys)->n=ys.length->Yv C K f [x,.own i Zg g 0 n] h=some (v,h):=by
 intro K h i Zg n own hK hg hn;have h1:Xt h x=some x:=by cases x<;>simp_all [Zc0]
 have h2:Yl x=[]:=by cases x<;>simp_all [Zc0]
 have h3:refs 3 x=[]:=by cases x<;>simp_all [Zc0]
 refine Zsw hA hv Y6 ?_ rfl ?_ ?_ ?_
 .rw [Zyr,h1];simp [hg,hn]
 .rw [List.flatMap_cons,h2];rfl
 .rw [List.flatMap_cons,h3];rfl
 .rw [List.flatMap_cons,h2];simp [hg,hK]
end Go.Pure
end
section
namespace Go.Pure
open Go
open Go.Virt (Ex Ctx Ty TK)
def Qk:Code->List Nat
 | .region _ ops _=>ops.toList.filterMap (·.dst)
 | .seq a b=>Qk a++Qk b
 | .cond _ a b=>Qk a++Qk b
 | .block _ b=>Qk b
 | .loop b=>Qk b
 | _=>[]
theorem Uf {sl:Yo}{d:Option Nat}{v:PV}{t:Nat}(h:d≠some t):putP sl d v t=sl t:=by
 cases d with
 | none=>rfl
 | some d=>
   show (if t=d then some v else sl t)=sl t;rw [if_neg];rintro rfl;exact h rfl
theorem Zkn {sl Yp:Yo}{t:Nat}(h:Yp t=sl t):Zbu sl Yp t=sl t:=by
 unfold Zbu;cases hs:sl t with
 | none=>rfl
 | some v=>simp only;rw [h,hs]
section
variable {C:Ctx}{cf:CF}{yf:YF}{K:Loc}
theorem Zex {all:List Oper}{t:Nat}:∀ {l:List Oper} {sl:Yo} {h:PH} {r:Yo×PH},Qq C cf yf K all l sl h=some r->t∉l.filterMap (·.dst)->r.1 t=sl t
 | [],sl,h,r,he,ht=>by simp only [Qq,Option.some.injEq] at he;subst he;rfl
 | o::l,sl,h,r,he,ht=>by
   have h1:o.dst≠some t:=by
    intro e;exact ht (List.mem_filterMap.2 ⟨o,List.mem_cons_self,e⟩)
   have h2:t∉l.filterMap (·.dst):=by
    intro e;obtain ⟨o',hm,e'⟩:=List.mem_filterMap.1 e;exact ht (List.mem_filterMap.2 ⟨o',List.mem_cons_of_mem _ hm,e'⟩)
   simp only [Qq] at he;split at he
   .split at he
    .rw [Zex he h2,Uf h1]
    .cases he
   .rw [Zex he h2,Uf h1]
   .cases he
theorem Zqs {all:List Oper}{masks:Array Nat}{o:Oper}{i:Nat}{s s':PD}{t:Nat}(he:Zbq C cf yf K all masks o i s=some s')(ht:o.dst≠some t):s'.sl t=s.sl t:=by
 unfold Zbq at he;dsimp only at he;split at he
 .cases he
 .simp only [Option.some.injEq] at he;subst he;exact Uf ht
 .split at he
  .split at he
   .simp only [Option.some.injEq] at he;subst he;exact Uf ht
   .cases he
  .split at he
   .split at he
    .simp only [Option.some.injEq] at he;subst he;exact Uf ht
    .rename_i d _ hd;simp only [Option.some.injEq] at he;subst he;rw [hd] at ht;exact Uf (d:=some d) ht
    .cases he
   .split at he
    .unfold Zv9 at he;split at he
     .split at he
      .simp only [Option.some.injEq] at he;subst he;exact Uf ht
      .cases he
     .split at he
      .simp only [Option.some.injEq] at he;subst he;exact Uf ht
      .cases he
    .cases he
theorem Zia {all:List Oper}{masks:Array Nat}{t:Nat}:∀ {l:List Oper} {i:Nat} {s s':PD},Rf C cf yf K all masks l i s=some s'->t∉l.filterMap (·.dst)->s'.sl t=s.sl t
 | [],i,s,s',he,ht=>by simp only [Rf,Option.some.injEq] at he;subst he;rfl
 | o::l,i,s,s',he,ht=>by
   have h1:o.dst≠some t:=by
    intro e;exact ht (List.mem_filterMap.2 ⟨o,List.mem_cons_self,e⟩)
   have h2:t∉l.filterMap (·.dst):=by
    intro e;obtain ⟨o',hm,e'⟩:=List.mem_filterMap.1 e;exact ht (List.mem_filterMap.2 ⟨o',List.mem_cons_of_mem _ hm,e'⟩)
   simp only [Rf] at he;split at he
   .rename_i s1 hs1;rw [Zia he h2,Zqs hs1 h1]
   .cases he
end
theorem Wq {C:Ctx}{t:Nat}:∀ (n:Nat) {K:Loc} {Xg:Bool} {c:Code} {sl:Yo} {h:PH} {x:Ex} {Yp:Yo} {h':PH},exec C n K Xg c sl h=some (x,Yp,h')->t∉Qk c->Yp t=sl t
 | 0,K,Xg,c,sl,h,x,Yp,h',he,ht=>by simp only [exec] at he;cases he
 | n+1,K,Xg,c,sl,h,x,Yp,h',he,ht=>by
   cases c with
   | skip=>simp only [exec,Option.some.injEq,Prod.mk.injEq] at he;rw [<- he.2.1]
   | region id ops draw=>
     cases draw with
     | true=>
       simp only [exec,if_true,Option.map_eq_some_iff,Za2] at he;obtain ⟨⟨s1,h1⟩,⟨s,hs,e1⟩,e2⟩:=he;simp only [Prod.mk.injEq] at e1 e2;rw [<- e2.2.1,<- e1.1];exact Zia hs ht
     | false=>
       simp only [exec,Bool.false_eq_true,if_false,Option.map_eq_some_iff] at he;obtain ⟨⟨s1,h1⟩,hs,e2⟩:=he;simp only [Prod.mk.injEq] at e2;rw [<- e2.2.1];exact Zex hs ht
   | seq a b=>
     simp only [Qk,List.mem_append,not_or] at ht;simp only [exec] at he;split at he
     .rename_i Re h1 ha;rw [Wq n he ht.2,Wq n ha ht.1]
     .rename_i Ys;exact Wq n he ht.1
   | cond c a b=>
     simp only [Qk,List.mem_append,not_or] at ht;simp only [exec] at he;split at he
     .exact Wq n he ht.1
     .exact Wq n he ht.2
     .cases he
   | block id b=>
     simp only [Qk] at ht;simp only [exec] at he;split at he
     .rename_i id' Re h1 hb;have:=Wq n hb ht;split at he
      .simp only [Option.some.injEq,Prod.mk.injEq] at he;rw [<- he.2.1];exact this
      .simp only [Option.some.injEq,Prod.mk.injEq] at he;rw [<- he.2.1];exact this
     .exact Wq n he ht
   | loop b=>
     simp only [Qk] at ht;simp only [exec] at he;split at he
     .rename_i Re h1 hb;rw [Wq n he (by simpa only [Qk] using ht)];exact Zkn (Wq n hb ht)
     .exact Wq n he ht
   | exit id=>simp only [exec,Option.some.injEq,Prod.mk.injEq] at he;rw [<- he.2.1]
   | ret=>simp only [exec,Option.some.injEq,Prod.mk.injEq] at he;rw [<- he.2.1]
   | rangeFunc f ps assign body=>
     simp only [exec] at he;split at he
     .split at he
      .split at he
       .split at he
        .split at he
         .simp only [Option.some.injEq,Prod.mk.injEq] at he;rw [<- he.2.1]
         .cases he
        .cases he
       .cases he
      .cases he
     .cases he
   | scope b=>simp only [exec] at he;cases he
   | label l=>simp only [exec] at he;cases he
   | goto l=>simp only [exec] at he;cases he
   | refuse w=>simp only [exec] at he;cases he
theorem Zzx {C:Ctx}{t:Nat}{K:Loc}{Xg:Bool}{c:Code}{sl:Yo}{h:PH}{x:Ex}{Yp:Yo}{h':PH}(he:W5 C K Xg c sl h=some (x,Yp,h'))(ht:t∉Qk c):Yp t=sl t:=by
 obtain ⟨n,hn⟩:=Xe.1 he;exact Wq n hn ht
def Zta (sl Vn:Yo):List Nat->Prop
 | []=>True
 | t::r=>sl t=Vn t/\Zta sl Vn r
@[simp] theorem Zaip {sl Vn:Yo}:Zta sl Vn []=True:=rfl
@[simp] theorem Zagi {sl Vn:Yo}{t:Nat}{r:List Nat}:Zta sl Vn (t::r)=(sl t=Vn t/\Zta sl Vn r):=rfl
theorem Zoh {sl Vn:Yo}:∀ {F:List Nat},(∀ t,t∈F->sl t=Vn t)->Zta sl Vn F
 | [],_=>trivial
 | t::r,h=>⟨h t List.mem_cons_self,Zoh fun u hu=>h u (List.mem_cons_of_mem _ hu)⟩
theorem Zqu {sl Vn:Yo}:∀ {F:List Nat},Zta sl Vn F->∀ t,t∈F->sl t=Vn t
 | [],_,t,ht=>by cases ht
 | u::r,h,t,ht=>by
   rcases List.mem_cons.1 ht with rfl | ht
   .exact h.1
   .exact Zqu h.2 t ht
theorem Zz {C:Ctx}{K:Loc}{Xg:Bool}{b:Code}{Q:Ex×Yo×PH->Prop}{Vn:Yo}{h0:PH}(F:List Nat)
  (I:Nat->Yo->PH->Prop) (n0:Nat) (hF:F.all (fun t=>!(Qk b).contains t)=true) (h00:I n0 Vn h0)
  (step:∀ n sl h,Zta sl Vn F->I n sl h->wp (W5 C K Xg b sl h) fun r=>match r with | (.normal,Yp,h')=>∃ m,m < n/\I m (Zbu sl Yp) h' | r=>Q r):
  wp (W5 C K Xg (.loop b) Vn h0) Q:=by
 refine Zqd (fun n sl h=>Zta sl Vn F/\I n sl h) ?_ n0 Vn h0 ⟨Zoh fun _ _=>rfl,h00⟩;rintro n sl h ⟨hf,hi⟩;have hs:=step n sl h hf hi;obtain ⟨⟨x,Yp,h'⟩,he,hq⟩:=Xm.1 hs;refine Xm.2 ⟨_,he,?_⟩
 have hb:∀ t,t∈F->t∉Qk b:=fun t ht=>by
  have:=List.all_eq_true.1 hF t ht;simpa using this
 cases x with
 | normal=>
   obtain ⟨m,hm,hI⟩:=hq;refine ⟨m,hm,Zoh fun t ht=>?_,hI⟩;rw [Zkn (Zzx he (hb t ht)),Zqu hf t ht]
 | exit id=>exact hq
 | ret=>exact hq
end Go.Pure
end
section
namespace Go.Pure
open Go
open Go.Virt (Ex Ctx Ty TK)
def L (g:Nat)(b:Bool)(xs:List PV):PV:=if b&&xs.isEmpty then .nils else .lst g xs
theorem Zd {g:Nat}:L g true []=.nils:=rfl
theorem Se {g:Nat}{xs:List PV}:L g false xs=.lst g xs:=rfl
theorem Zc {g:Nat}{b:Bool}{x:PV}{xs:List PV}:L g b (x::xs)=.lst g (x::xs):=by simp [L]
theorem Ztb (g:Nat)(b:Bool)(xs:List PV):(L g b xs=.nils/\b=true/\xs=[])\/(L g b xs=.lst g xs/\(b&&xs.isEmpty)=false):=by
 unfold L;cases h:(b&&xs.isEmpty)
 .exact Or.inr ⟨rfl,rfl⟩
 .simp at h;exact Or.inl ⟨rfl,h.1,h.2⟩
section
variable {g:Nat}{b:Bool}{xs:List PV}
@[simp high] theorem Zahw:cellsOf (L g b xs)=[L g b xs]:=by unfold L;split<;>rfl
@[simp high] theorem Zaof:Wj (L g b xs)=true:=by unfold L;split<;>rfl
@[simp high] theorem Zao6 {h:PH}:Rv h (L g b xs)=some (L g b xs):=by unfold L;split<;>rfl
@[simp high] theorem Zao4 {h:PH}:Xt h (L g b xs)=some (L g b xs):=by unfold L;split<;>rfl
@[simp high] theorem Zao5 {h:PH}:inlT h (L g b xs)=some (L g b xs):=by unfold L;split<;>rfl
@[simp high] theorem Zaow:U7 (L g b xs)=[]:=by unfold L;split<;>rfl
@[simp high] theorem Zaou:Yl (L g b xs)=[]:=by unfold L;split<;>rfl
@[simp high] theorem Zaov:ownT (L g b xs)=[]:=by unfold L;split<;>rfl
@[simp high] theorem Zaoq {n:Nat}:refs n (L g b xs)=[]:=by unfold L;split<;>cases n<;>rfl
@[simp high] theorem Zaog {m n:Nat}:below m n (L g b xs)=true:=by unfold L;split<;>cases n<;>rfl
@[simp high] theorem Zam2 {n:Nat}:plain n (L g b xs)=true:=by unfold L;split<;>cases n<;>rfl
@[simp high] theorem Zam0 {n:Nat}:Wt n (L g b xs)=true:=by unfold L;split<;>cases n<;>rfl
@[simp high] theorem Zaod {h:PH}:h.elems g (L g b xs)=some xs:=by
 unfold L;split
 .rename_i h;simp at h;simp [PH.elems,h.2]
 .simp [PH.elems]
end
attribute [simp] eqP Zl9.eq_1 Zl9.eq_2 Zl9.eq_3 Zl9.eq_4 Zon Zua Znv
def lenK (k:TK)(v:PV):Option PV:=match k,v with
 | .str,.str s=>some (.int .i64 s.length)
 | .slice _,.nils=>some (.int .i64 0)
 | .slice _,.lst _ xs=>some (.int .i64 xs.length)
 | .slice _,.own _ _ _ _ n=>some (.int .i64 n)
 | .map _ _,.nilm=>some (.int .i64 0)
 | _,_=>none
def Zou (C:Ctx)(k:TK)(v i:PV):Option PV:=match i with
 | .int _ i=>match k,v with
   | .slice e,.lst g xs=>
     match C.T e with
     | some te=>if e=g/\0<=i/\i < xs.length then (xs[i.toNat]?).map fun x=>.rptr (cellsOf x) else none
     | none=>none
   | .array n e,.ptr b v o=>
     match C.T e with
     | some te=>if 0<=i/\i < n then some (.ptr b v (o+i.toNat*te.size)) else none
     | none=>none
   | .array n e,.rptr cs=>
     match C.T e with
     | some te=>if 0<=i/\i < n/\i.toNat*te.size+te.size<=cs.length then some (.rptr (cs.drop (i.toNat*te.size))) else none
     | none=>none
   | _,_=>none
 | _=>none
def Z71 (C:Ctx)(h:PH)(k:TK)(v i:PV):Option (PV×PH):=match v,i with
 | .own b Zg g off len,.int _ i=>match k with
   | .slice e=>match C.T e,h.row b Zg g with
     | some te,some (_,xs)=>if e=g/\0<=i/\i < len/\off+len<=xs.length then some (.eptr b Zg g (off+i.toNat) 0,h) else none
     | _,_=>none
   | _=>none
 | _,_=>none
def Z22 (C:Ctx)(k:TK)(v i:PV):Option PV:=match i with
 | .int _ i=>match k,v with
   | .array n e,.agg cs=>
     match C.T e with
     | some te=>if 0<=i/\i < n then (Xk cs (i.toNat*te.size) te.size).bind (toP te.k.agg) else none
     | none=>none
   | .str,.str s=>if 0<=i then (s[i.toNat]?).map fun (b:Nat)=>.int .u8 (b:Int) else none
   | _,_=>none
 | _=>none
def Zof (C:Ctx)(k:TK)(v:PV)(lo hi:Option PV):Option PV:=match k,v with
 | .str,.str s=>(Xf s.length lo hi).map fun (l,u)=>.str ((s.drop l).take (u - l))
 | .slice e,.nils=>match C.T e,Xf 0 lo hi with
   | some _,some _=>some .nils
   | _,_=>none
 | .slice e,.lst g xs=>match C.T e,Xf xs.length lo hi with
   | some te,some (l,u)=>if e=g then some (.lst g ((xs.drop l).take (u - l))) else none
   | _,_=>none
 | _,_=>none
def Z7a (C:Ctx)(h:PH)(k:TK)(v:PV)(lo hi:Option PV):Option (PV×PH):=match v with
 | .own i Zg g off len=>match k with
   | .slice e=>match C.T e,Xf len lo hi,h.row i Zg g with
     | some te,some (l,u),some _=>if e=g then some (.own i Zg g (off+l) (u - l),h) else none
     | _,_,_=>none
   | _=>none
 | _=>none
def Zwf (T:Ty)(v:PV):Option PV:=match v with
 | .rptr cs=>(Xk cs 0 T.size).bind (toP T.k.agg)
 | _=>none
def Zrs (h:PH)(T:Ty)(v:PV):Option (PV×PH):=match v with
 | .ptr i Zg off=>match h.get i with
   | some (v,.cells cs)=>if v=Zg then ((Xk cs off T.size).bind (toP T.k.agg)).map (·,h) else none
   | _=>none
 | .eptr i Zg g ix off=>match h.row i Zg g with
   | some (_,xs)=>match xs[ix]? with
     | some x=>((Xk (cellsOf x) off T.size).bind (toP T.k.agg)).map (·,h)
     | none=>none
   | none=>none
 | _=>none
def Zjw (K:Loc)(h:PH)(T:Ty)(a v:PV):Option (PV×PH):=match a with
 | .ptr i Zg off=>
   if (cellsOf v).length=T.size/\(cellsOf v).all Wj=true/\can K i=true then
    match h.get i with
    | some (w,.cells cs)=>if w=Zg then (Yi cs off (cellsOf v)).map fun cs=>(.tuple [],h.put i Zg (.cells cs)) else none
    | _=>none
   else none
 | .eptr i Zg g ix off=>match Xt h v with
   | none=>none
   | some v'=>
     if (cellsOf v').length=T.size/\(cellsOf v').all Wj=true/\(cellsOf v').all (plain 3)=true/\can K i=true/\(Yl v).all (can K)=true then
      match (h.freeze (Yl v)).row i Zg g with
      | some (true,xs)=>match xs[ix]? with
        | some x=>(setCells x off (cellsOf v')).map fun x=>(.tuple [],(h.freeze (Yl v)).put i Zg (.row g true (xs.set ix x)))
        | none=>none
      | _=>none
     else none
 | _=>none
def mksK (C:Ctx)(k:TK)(n m:PV):Option Mk:=match n,m with
 | .int _ n,.int _ m=>match k with
   | .slice e=>match C.T e with
     | some te=>if 0<=n/\n<=m/\m<=Virt.maxLenV/\te.bytes<=2^16 then
        match Qw te with
        | some z=>if (cellsOf z).length=te.size/\(cellsOf z).all Wj=true/\plain 4 z=true then some (.slice e n.toNat (.row e true (List.replicate n.toNat z))) else none
        | none=>none
       else none
     | none=>none
   | _=>none
 | _,_=>none
def Z0d (C:Ctx)(K:Loc)(h:PH)(d:Nat)(k k':TK)(s x:PV):Option (PV×PH):=match k with
 | .slice e=>match C.T e with
   | some ty=>match k' with
     | .int _=>match s,x with
       | .nils,.int _ n=>
         if 0<=n/\n<=Virt.maxLenV/\ty.bytes<=2^16/\0 < ty.size then
          if n=0 then some (.nils,h) else
          match Qw ty with
          | some z=>if (cellsOf z).length=ty.size/\(cellsOf z).all Wj=true/\plain 4 z=true then some (.own (K.base+d) (h.stamp (K.base+d)) e 0 n.toNat,h.put (K.base+d) (h.stamp (K.base+d)) (.row e true (List.replicate n.toNat z))) else none
          | none=>none
         else none
       | _,_=>none
     | _=>match x with
       | .str b=>if ty.size=1 then Xx K h d e ty b.length (b.map fun (b:Nat)=>.int .u8 (b:Int)) s else none
       | _=>match h.elems e x with
         | some ys=>Xx K h d e ty ys.length ys s
         | none=>none
   | none=>none
 | _=>none
def Zz4 (k k':TK)(v:PV):Option PV:=match k,k',v with
 | _,.int k,.int _ n=>some (.int k (k.wrap n))
 | _,.str,.str s=>some (.str s)
 | _,_,_=>none
def Zz3 (C:Ctx)(K:Loc)(h:PH)(d:Option Nat)(k k':TK)(v:PV):Option (PV×PH):=match k,k',v with
 | .str,.slice e,.str s=>
   match C.T e,d with
   | some te,some d=>match te.k with
     | .int .u8=>if s.length<=Virt.maxLenV/\te.size=1 then some (.own (K.base+d) (h.stamp (K.base+d)) e 0 s.length,h.put (K.base+d) (h.stamp (K.base+d)) (.row e true (s.map fun (b:Nat)=>.int .u8 (b:Int)))) else none
     | _=>none
   | _,_=>none
 | .slice e,.str,v=>
   match C.T e with
   | some te=>match te.k with
     | .int .u8=>if te.size=1 then ((h.elems e v).bind Zk.bytesP).map fun b=>(.str b,h) else none
     | _=>none
   | none=>none
 | _,_,_=>none
section
variable {C:Ctx}{cf:CF}{yf:YF}{K:Loc}{all:List Oper}{sl:Yo}{h:PH}{d:Option Nat}{ty:TypeId}{pos:String}{af:Array Edge}{gd:Option (Nat×Bool)}{x y ix:Operand}{t t':TypeId}
@[simp high] theorem Zal9 {ats:Array TypeId}:Yd C sl ⟨d,.call ⟨.builtin .len,#[x],ats⟩,ty,pos,af,gd⟩=bO (Yr sl x) fun v=>bO ((ats[0]?).bind C.T) fun T=>lenK T.k v:=by
 simp only [Yd,Qh,Zhh];cases Yr sl x with
 | none=>rfl
 | some v=>
   simp only [Xi];cases (ats[0]?).bind C.T with
   | none=>rfl
   | some T=>rfl
@[simp high] theorem Zcy:Yd C sl ⟨d,.indexAddr t x ix,ty,pos,af,gd⟩=bO (C.T t) fun T=>bO (Yr sl x) fun v=>bO (Yr sl ix) fun i=>Zou C T.k v i:=by
 simp only [Yd];cases C.T t<;>cases Yr sl x<;>cases hi:Yr sl ix<;>try rfl
 rename_i i;cases i<;>rfl
@[simp high] theorem Rb:Zk C cf yf all K sl h ⟨d,.indexAddr t x ix,ty,pos,af,gd⟩=bO (C.T t) fun T=>bO (Yr sl x) fun v=>bO (Yr sl ix) fun i=>Z71 C h T.k v i:=by
 simp only [Zk];cases C.T t<;>cases Yr sl x<;>cases Yr sl ix<;>try rfl
 .rename_i v;cases v<;>rfl
 .rename_i v i;cases v<;>cases i<;>rfl
@[simp high] theorem Zk8:Yd C sl ⟨d,.index t x ix,ty,pos,af,gd⟩=bO (C.T t) fun T=>bO (Yr sl x) fun v=>bO (Yr sl ix) fun i=>Z22 C T.k v i:=by
 simp only [Yd];cases C.T t<;>cases Yr sl x<;>cases hi:Yr sl ix<;>try rfl
 rename_i i;cases i<;>rfl
@[simp high] theorem Zk7 {lo hi:Option Operand}:Yd C sl ⟨d,.slice t x lo hi none,ty,pos,af,gd⟩=bO (C.T t) fun T=>bO (Yr sl x) fun v=>bO (Tz sl lo) fun l=>bO (Tz sl hi) fun u=>Zof C T.k v l u:=by
 simp only [Yd];cases C.T t<;>cases Yr sl x<;>try rfl
 simp only [Xi];cases Tz sl lo<;>cases Tz sl hi<;>try rfl
@[simp high] theorem Zb9 {lo hi:Option Operand}:Zk C cf yf all K sl h ⟨d,.slice t x lo hi none,ty,pos,af,gd⟩=bO (C.T t) fun T=>bO (Yr sl x) fun v=>bO (Tz sl lo) fun l=>bO (Tz sl hi) fun u=>Z7a C h T.k v l u:=by
 simp only [Zk];cases C.T t<;>cases Yr sl x<;>try rfl
 rename_i T v;simp only [Xi];cases v<;>cases Tz sl lo<;>cases Tz sl hi<;>rfl
@[simp high] theorem Znr:Yd C sl ⟨d,.load t x,ty,pos,af,gd⟩=bO (C.T t) fun T=>bO (Yr sl x) fun v=>Zwf T v:=by
 simp only [Yd];cases C.T t<;>cases Yr sl x<;>try rfl
 rename_i T v;cases v<;>rfl
@[simp high] theorem Zjy:Zk C cf yf all K sl h ⟨d,.load t x,ty,pos,af,gd⟩=bO (C.T t) fun T=>bO (Yr sl x) fun v=>Zrs h T v:=by
 simp only [Zk];cases C.T t<;>cases Yr sl x<;>try rfl
 rename_i T v;cases v<;>rfl
@[simp high] theorem Zh6:Zk C cf yf all K sl h ⟨d,.store t x y,ty,pos,af,gd⟩=bO (C.T t) fun T=>bO (Yr sl x) fun a=>bO (Yr sl y) fun v=>Zjw K h T a v:=by
 simp only [Zk];cases C.T t<;>cases Yr sl x<;>cases Yr sl y<;>try rfl
 .rename_i a;cases a<;>rfl
 .rename_i T a v;cases a<;>rfl
@[simp high] theorem Zcn {l c:Operand}:Vx C all sl ⟨d,.makeSlice t l c,ty,pos,af,gd⟩=bO (C.T t) fun T=>bO (Yr sl l) fun n=>bO (Yr sl c) fun m=>mksK C T.k n m:=by
 simp only [Vx];cases C.T t<;>cases Yr sl l<;>cases Yr sl c<;>try rfl
 .rename_i n;cases n<;>rfl
 .rename_i T n m;cases n<;>cases m<;>rfl
@[simp high] theorem Z68 {ats:Array TypeId}{dd:Nat}:Zk C cf yf all K sl h ⟨some dd,.call ⟨.builtin .append,#[x,y],ats⟩,ty,pos,af,gd⟩=bO (Yr sl x) fun s=>bO (Yr sl y) fun v=>bO ((ats[0]?).bind C.T) fun T=>bO ((ats[1]?).bind C.T) fun T'=>Z0d C K h dd T.k T'.k s v:=by
 simp only [Zk,Qh,Zhh];cases Yr sl x with
 | none=>rfl
 | some s=>
   simp only [Xi,Qh,Zhh];cases Yr sl y with
   | none=>rfl
   | some v=>
     simp only [Xi];cases (ats[0]?).bind C.T with
     | none=>rfl
     | some T=>
       cases (ats[1]?).bind C.T with
       | none=>rfl
       | some T'=>
         simp only [Xi,Z0d];cases hk:T.k<;>rfl
@[simp high] theorem Zgo:Yd C sl ⟨d,.convert t t' x,ty,pos,af,gd⟩=bO (C.T t) fun T=>bO (C.T t') fun T'=>bO (Yr sl x) fun v=>Zz4 T.k T'.k v:=by
 simp only [Yd];cases C.T t<;>cases C.T t'<;>cases Yr sl x<;>rfl
@[simp high] theorem Zaf:Zk C cf yf all K sl h ⟨d,.convert t t' x,ty,pos,af,gd⟩=bO (C.T t) fun T=>bO (C.T t') fun T'=>bO (Yr sl x) fun v=>Zz3 C K h d T.k T'.k v:=by
 simp only [Zk];cases C.T t<;>cases C.T t'<;>cases Yr sl x<;>rfl
end
section
variable {C:Ctx}{K:Loc}{h:PH}{g e:Nat}{b:Bool}{xs:List PV}{k:IntKind}{i:Int}
@[simp] theorem Zai6 {s:List Nat}:lenK .str (.str s)=some (.int .i64 s.length):=rfl
@[simp] theorem Zagw:lenK (.slice e) .nils=some (.int .i64 0):=rfl
@[simp] theorem Zai9:lenK (.slice e) (.lst g xs)=some (.int .i64 xs.length):=rfl
@[simp] theorem Zai7 {i v o n:Nat}:lenK (.slice e) (.own i v g o n)=some (.int .i64 n):=rfl
@[simp] theorem Zaoy:lenK (.slice e) (L g b xs)=some (.int .i64 xs.length):=by
 rcases Ztb g b xs with ⟨e,_,rfl⟩ | ⟨e,_⟩<;>rw [e]<;>rfl
@[simp] theorem Zagx {a c:Nat}:lenK (.map a c) .nilm=some (.int .i64 0):=rfl
@[simp] theorem Zai8 {a c j v:Nat}:lenK (.map a c) (.map j v)=none:=rfl
@[simp] theorem Z23 (hg:(C.T g).isSome=true)(h0:0<=i)(h1:i < xs.length):Zou C (.slice g) (.lst g xs) (.int k i)=some (.rptr (cellsOf (xs[i.toNat]'(by omega)))):=by
 obtain ⟨T,hT⟩:=Option.isSome_iff_exists.1 hg;have hl:i.toNat < xs.length:=by omega
 simp only [Zou,hT,h0,h1,and_self,if_true,List.getElem?_eq_getElem hl,Option.map_some]
@[simp] theorem Zao8 (hg:(C.T g).isSome=true)(h0:0<=i)(h1:i < xs.length):Zou C (.slice g) (L g b xs) (.int k i)=some (.rptr (cellsOf (xs[i.toNat]'(by omega)))):=by
 rcases Ztb g b xs with ⟨e,_,rfl⟩ | ⟨e,_⟩
 .simp at h1;omega
 .rw [e];exact Z23 hg h0 h1
@[simp] theorem Zajs {j v o n:Nat}{x:PV}:Zou C (.slice e) (.own j v g o n) x=none:=by cases x<;>rfl
@[simp] theorem Zajr {n a v o:Nat}:Zou C (.array n e) (.ptr a v o) (.int k i)=bO (C.T e) fun te=>if 0<=i/\i < n then some (.ptr a v (o+i.toNat*te.size)) else none:=by
 simp only [Zou];cases C.T e<;>rfl
@[simp] theorem Zagz {n:Nat}{cs:List PV}:Zou C (.array n e) (.rptr cs) (.int k i)=bO (C.T e) fun te=>if 0<=i/\i < n/\i.toNat*te.size+te.size<=cs.length then some (.rptr (cs.drop (i.toNat*te.size))) else none:=by
 simp only [Zou];cases C.T e<;>rfl
def Zwh (h:PH)(a Zg g off len:Nat)(i:Int)(n:Nat):Option (PV×PH):=if 0<=i/\i < len/\off+len<=n then some (.eptr a Zg g (off+i.toNat) 0,h) else none
@[simp] theorem Zajq {a Zg off len n:Nat}(h0:0<=i)(h1:i < len)(h2:off+len<=n):Zwh h a Zg g off len i n=some (.eptr a Zg g (off+i.toNat) 0,h):=by
 rw [Zwh,if_pos ⟨h0,h1,h2⟩]
@[simp] theorem Zajp {a Zg off len:Nat}(hg:(C.T g).isSome=true):Z71 C h (.slice g) (.own a Zg g off len) (.int k i)=bO (h.row a Zg g) fun p=>Zwh h a Zg g off len i p.2.length:=by
 obtain ⟨T,hT⟩:=Option.isSome_iff_exists.1 hg;simp only [Z71,hT];cases h.row a Zg g with
 | none=>rfl
 | some p=>simp only [Xi,Zwh,true_and]
@[simp] theorem Zajo {s:List Nat}(h0:0<=i)(h1:i < s.length):Z22 C .str (.str s) (.int k i)=some (.int .u8 ((s[i.toNat]'(by omega):Nat):Int)):=by
 have hl:i.toNat < s.length:=by omega
 simp only [Z22,h0,if_true,List.getElem?_eq_getElem hl,Option.map_some]
@[simp] theorem Zadh {n:Nat}{cs:List PV}:Z22 C (.array n e) (.agg cs) (.int k i)=bO (C.T e) fun te=>if 0<=i/\i < n then (Xk cs (i.toNat*te.size) te.size).bind (toP te.k.agg) else none:=by
 simp only [Z22];cases C.T e<;>rfl
@[simp] theorem Zain {s:List Nat}{lo hi:Option PV}:Zof C .str (.str s) lo hi=bO (Xf s.length lo hi) fun p=>some (.str ((s.drop p.1).take (p.2 - p.1))):=by
 simp only [Zof];cases Xf s.length lo hi<;>rfl
@[simp] theorem Zx6 {lo hi:Option PV}(hg:(C.T e).isSome=true):Zof C (.slice e) .nils lo hi=bO (Xf 0 lo hi) fun p=>some .nils:=by
 obtain ⟨T,hT⟩:=Option.isSome_iff_exists.1 hg;simp only [Zof,hT];cases Xf 0 lo hi<;>rfl
@[simp] theorem Z1n {lo hi:Option PV}(hg:(C.T g).isSome=true):Zof C (.slice g) (.lst g xs) lo hi=bO (Xf xs.length lo hi) fun p=>some (.lst g ((xs.drop p.1).take (p.2 - p.1))):=by
 obtain ⟨T,hT⟩:=Option.isSome_iff_exists.1 hg;simp only [Zof,hT];cases Xf xs.length lo hi with
 | none=>rfl
 | some p=>simp only [if_true,Xi]
@[simp] theorem Zaon {lo hi:Option PV}(hg:(C.T g).isSome=true):Zof C (.slice g) (L g b xs) lo hi=bO (Xf xs.length lo hi) fun p=>some (L g (b&&xs.isEmpty) ((xs.drop p.1).take (p.2 - p.1))):=by
 rcases Ztb g b xs with ⟨e,rfl,rfl⟩ | ⟨e,e2⟩
 .rw [e,Zx6 hg];simp only [List.length_nil,List.drop_nil,List.take_nil];cases Xf 0 lo hi<;>simp [L]
 .rw [e,Z1n hg,e2];rfl
@[simp] theorem Zaio {j v o n:Nat}{lo hi:Option PV}:Zof C (.slice e) (.own j v g o n) lo hi=none:=rfl
@[simp] theorem Zaim {j v o n:Nat}{lo hi:Option PV}(hg:(C.T g).isSome=true):Z7a C h (.slice g) (.own j v g o n) lo hi=bO (Xf n lo hi) fun p=>bO (h.row j v g) fun _=>some (.own j v g (o+p.1) (p.2 - p.1),h):=by
 obtain ⟨T,hT⟩:=Option.isSome_iff_exists.1 hg;simp only [Z7a,hT];cases Xf n lo hi<;>cases h.row j v g<;>simp
@[simp] theorem Zac4 {T:Ty}{cs:List PV}:Zwf T (.rptr cs)=(Xk cs 0 T.size).bind (toP T.k.agg):=rfl
@[simp] theorem Zagv {T:Ty}{i v o:Nat}:Zwf T (.ptr i v o)=none:=rfl
@[simp] theorem Zac5 {T:Ty}{i v g ix o:Nat}:Zwf T (.eptr i v g ix o)=none:=rfl
def Z2h (h:PH)(T:Ty)(Zg off:Nat)(p:Nat×PO):Option (PV×PH):=match p with
 | (v,.cells cs)=>if v=Zg then ((Xk cs off T.size).bind (toP T.k.agg)).map (·,h) else none
 | _=>none
@[simp] theorem Zaa8 {T:Ty}{Zg off:Nat}{cs:List PV}:Z2h h T Zg off (Zg,.cells cs)=((Xk cs off T.size).bind (toP T.k.agg)).map (·,h):=by simp [Z2h]
@[simp] theorem Zagu {T:Ty}{i Zg off:Nat}:Zrs h T (.ptr i Zg off)=bO (h.get i) fun p=>Z2h h T Zg off p:=by
 simp only [Zrs];cases h.get i with
 | none=>rfl
 | some p=>
   obtain ⟨v,o⟩:=p;cases o<;>rfl
def Z2i (h:PH)(T:Ty)(ix off:Nat)(xs:List PV):Option (PV×PH):=match xs[ix]? with
 | some x=>((Xk (cellsOf x) off T.size).bind (toP T.k.agg)).map (·,h)
 | none=>none
@[simp] theorem Zai4 {T:Ty}{ix off:Nat}(h1:ix < xs.length):Z2i h T ix off xs=((Xk (cellsOf (xs[ix]'h1)) off T.size).bind (toP T.k.agg)).map (·,h):=by
 simp only [Z2i,List.getElem?_eq_getElem h1]
@[simp] theorem Zac3 {T:Ty}{i Zg ix off:Nat}:Zrs h T (.eptr i Zg g ix off)=bO (h.row i Zg g) fun p=>Z2i h T ix off p.2:=by
 simp only [Zrs];cases h.row i Zg g<;>rfl
def Ztr (h:PH)(i Zg off:Nat)(v:PV)(p:Nat×PO):Option (PV×PH):=match p with
 | (w,.cells cs)=>if w=Zg then (Yi cs off (cellsOf v)).map fun cs=>(.tuple [],h.put i Zg (.cells cs)) else none
 | _=>none
@[simp] theorem Z67 {i Zg off:Nat}{v:PV}{cs:List PV}:Ztr h i Zg off v (Zg,.cells cs)=(Yi cs off (cellsOf v)).map fun cs=>(.tuple [],h.put i Zg (.cells cs)):=by simp [Ztr]
@[simp] theorem Zacm {T:Ty}{i Zg off:Nat}{v:PV}(h1:(cellsOf v).length=T.size)(h2:(cellsOf v).all Wj=true)(h3:can K i=true):Zjw K h T (.ptr i Zg off) v=bO (h.get i) fun p=>Ztr h i Zg off v p:=by
 simp only [Zjw];rw [if_pos ⟨h1,h2,h3⟩];cases h.get i with
 | none=>rfl
 | some p=>
   obtain ⟨v,o⟩:=p;cases o<;>rfl
def Zts (h:PH)(i Zg g ix off:Nat)(v:PV)(p:Bool×List PV):Option (PV×PH):=match p with
 | (true,xs)=>match xs[ix]? with
   | some x=>(setCells x off (cellsOf v)).map fun x=>(.tuple [],h.put i Zg (.row g true (xs.set ix x)))
   | none=>none
 | _=>none
@[simp] theorem Zagg {i Zg ix off:Nat}{v:PV}(h1:ix < xs.length):Zts h i Zg g ix off v (true,xs)=(setCells (xs[ix]'h1) off (cellsOf v)).map fun x=>(.tuple [],h.put i Zg (.row g true (xs.set ix x))):=by
 simp only [Zts,List.getElem?_eq_getElem h1]
@[simp] theorem Zaa2 {T:Ty}{i Zg ix off:Nat}{v:PV}(h0:Yl v=[])(h1:(cellsOf v).length=T.size)(h2:(cellsOf v).all Wj=true)(h4:(cellsOf v).all (plain 3)=true)(h3:can K i=true):Zjw K h T (.eptr i Zg g ix off) v=bO (h.row i Zg g) fun p=>Zts h i Zg g ix off v p:=by
 have hi:Xt h v=some v:=by
  have hc:∀ cs:List PV,cs.flatMap U7=[]->Yy (Rv h) cs=some cs:=by
   intro cs
   induction cs with
   | nil=>intro _;rfl
   | cons c cs ih=>
     intro hh;rw [List.flatMap_cons,List.append_eq_nil_iff] at hh;simp only [Yy,ih hh.2];cases c<;>simp_all [U7,Rv]
  cases v with
  | agg cs=>simp only [Xt];rw [hc cs h0];rfl
  | own=>simp [Yl,U7] at h0
  | _=>rfl
 simp only [Zjw,hi,h0,List.all_nil,PH.freeze];rw [if_pos ⟨h1,h2,h4,h3,trivial⟩];cases h.row i Zg g with
 | none=>rfl
 | some p=>
   obtain ⟨own,xs⟩:=p;cases own<;>rfl
def Z2c (e:Nat)(te:Ty)(n m:Int)(z:PV):Option Mk:=if 0<=n/\n<=m/\m<=Virt.maxLenV/\te.bytes<=2^16/\(cellsOf z).length=te.size/\(cellsOf z).all Wj=true/\plain 4 z=true then some (.slice e n.toNat (.row e true (List.replicate n.toNat z))) else none
@[simp] theorem Zanb {te:Ty}{n m:Int}{z:PV}(h0:0<=n)(h1:n<=m)(h2:m<=1073741824):
  Z2c e te n m z=if te.bytes<=65536/\(cellsOf z).length=te.size/\(cellsOf z).all Wj=true/\plain 4 z=true then some (.slice e n.toNat (.row e true (List.replicate n.toNat z))) else none:=by
 have h2':m<=(Virt.maxLenV:Int):=h2;by_cases h:te.bytes<=65536/\(cellsOf z).length=te.size/\(cellsOf z).all Wj=true/\plain 4 z=true
 .rw [if_pos h,Z2c,if_pos ⟨h0,h1,h2',h⟩]
 .rw [if_neg h,Z2c,if_neg (fun hh=>h hh.2.2.2)]
@[simp] theorem Zacw {n m:Int}{k':IntKind}:mksK C (.slice e) (.int k n) (.int k' m)=bO (C.T e) fun te=>bO (Qw te) fun z=>Z2c e te n m z:=by
 simp only [mksK];cases C.T e with
 | none=>rfl
 | some te=>
   simp only [Xi];cases Qw te with
   | none=>simp only [Zw9];split<;>rfl
   | some z=>
     simp only [Xi,Z2c];by_cases hc:0<=n/\n<=m/\m<=(Virt.maxLenV:Int)/\te.bytes<=2^16
     .rw [if_pos hc];by_cases hc2:(cellsOf z).length=te.size/\(cellsOf z).all Wj=true/\plain 4 z=true
      .rw [if_pos hc2,if_pos ⟨hc.1,hc.2.1,hc.2.2.1,hc.2.2.2,hc2⟩]
      .rw [if_neg hc2,if_neg (fun hh=>hc2 hh.2.2.2.2)]
     .rw [if_neg hc,if_neg (fun hh=>hc ⟨hh.1,hh.2.1,hh.2.2.1,hh.2.2.2.1⟩)]
@[simp] theorem Zafz {d:Nat}{k':TK}{s x:PV}(hk:∀ j,k'≠.int j)(hx:∀ b,x≠.str b):Z0d C K h d (.slice e) k' s x=bO (C.T e) fun ty=>bO (h.elems e x) fun ys=>Xx K h d e ty ys.length ys s:=by
 simp only [Z0d];cases C.T e with
 | none=>rfl
 | some ty=>
   simp only [Xi];cases k' with
   | int j=>exact absurd rfl (hk j)
   | _=>
     cases x with
     | str b=>exact absurd rfl (hx b)
     | _=>first | rfl | (generalize PH.elems _ _ _=z;cases z<;>rfl)
@[simp] theorem Zamn {d:Nat}{s:PV}{b:List Nat}:Z0d C K h d (.slice e) .str s (.str b)=bO (C.T e) fun ty=>if ty.size=1 then Xx K h d e ty b.length (b.map fun (b:Nat)=>.int .u8 (b:Int)) s else none:=by
 simp only [Z0d];cases C.T e<;>rfl
@[simp] theorem Zahz {s:List Nat}:(L g b xs=.str s)=False:=by
 rcases Ztb g b xs with ⟨e,_⟩ | ⟨e,_⟩<;>rw [e]<;>simp
def Z0e (K:Loc)(h:PH)(T:Ty)(g i Zg off len n:Nat)(ys:List PV)(p:Bool×List PV):Option (PV×PH):=
 if len+n<=Virt.maxLenV/\T.bytes<=2^16/\0 < T.size/\can K i=true/\p.1=true/\off+len<=p.2.length then some (.own i (Zg+1) g 0 (len+n),h.put i (Zg+1) (.row g true ((p.2.drop off).take len++ys))) else none
@[simp] theorem Zxb {T:Ty}{i Zg off len n:Nat}{ys:List PV}{p:Bool×List PV}(h1:len+n<=1073741824)(h2:T.bytes<=65536)(h3:0 < T.size)(h4:can K i=true)(h5:p.1=true)(h6:off+len<=p.2.length):
  Z0e K h T g i Zg off len n ys p=some (.own i (Zg+1) g 0 (len+n),h.put i (Zg+1) (.row g true ((p.2.drop off).take len++ys))):=by
 have h1':len+n<=Virt.maxLenV:=h1;rw [Z0e,if_pos ⟨h1',h2,h3,h4,h5,h6⟩]
theorem Zc7 {T:Ty}{i Zg off len n d:Nat}{ys:List PV}:Xx K h d g T n ys (.own i Zg g off len)=bO (h.row i Zg g) fun p=>Z0e K h T g i Zg off len n ys p:=by
 simp only [Xx,true_and];cases h.row i Zg g with
 | none=>simp only [Zw9];split<;>rfl
 | some p=>
   obtain ⟨own,zs⟩:=p;simp only [Xi,Z0e];by_cases hc:len+n<=Virt.maxLenV/\T.bytes<=2^16/\0 < T.size/\can K i=true
   .rw [if_pos hc];cases own with
    | false=>
      rw [if_neg (fun hh=>by have:=hh.2.2.2.2.1;cases this)]
    | true=>
      by_cases hd:off+len<=zs.length
      .simp only [hd,if_true];rw [if_pos ⟨hc.1,hc.2.1,hc.2.2.1,hc.2.2.2,trivial,trivial⟩]
      .simp only [hd,if_false];rw [if_neg (fun hh=>by have:=hh.2.2.2.2.2;exact this)]
   .rw [if_neg hc,if_neg (fun hh=>hc ⟨hh.1,hh.2.1,hh.2.2.1,hh.2.2.2.1⟩)]
theorem Zg0 {T:Ty}{n d:Nat}{ys:List PV}(h1:n<=1073741824)(h2:T.bytes<=65536)(h3:0 < T.size)(h4:n≠0):
  Xx K h d g T n ys .nils=some (.own (K.base+d) (h.stamp (K.base+d)) g 0 n,h.put (K.base+d) (h.stamp (K.base+d)) (.row g true ys)):=by
 have h1':n<=Virt.maxLenV:=h1;simp only [Xx];rw [if_pos ⟨h1',h2,h3⟩,if_neg h4]
attribute [simp] Zc7 Zg0
@[simp] theorem Zamg {k:TK}{j j':IntKind}{n:Int}:Zz4 k (.int j) (.int j' n)=some (.int j (j.wrap n)):=by cases k<;>rfl
@[simp] theorem Zamf {k:TK}{s:List Nat}:Zz4 k .str (.str s)=some (.str s):=by cases k<;>rfl
@[simp] theorem Zafq {s:List Nat}:Zz4 .str (.slice e) (.str s)=none:=rfl
@[simp] theorem Zafp {v:PV}(hv:∀ s,v≠.str s):Zz4 (.slice e) .str v=none:=by
 cases v<;>first | rfl | exact absurd rfl (hv _)
@[simp] theorem Zahv {e':Nat}{v:PV}:Zz4 (.slice e) (.slice e') v=none:=by cases v<;>rfl
@[simp] theorem Zafo {d:Nat}{s:List Nat}:Zz3 C K h (some d) .str (.slice e) (.str s)=bO (C.T e) fun te=>match te.k with
  | .int .u8=>if s.length<=Virt.maxLenV/\te.size=1 then some (.own (K.base+d) (h.stamp (K.base+d)) e 0 s.length,h.put (K.base+d) (h.stamp (K.base+d)) (.row e true (s.map fun (b:Nat)=>.int .u8 (b:Int)))) else none
  | _=>none:=by
 simp only [Zz3];cases C.T e<;>rfl
@[simp] theorem Zafn {d:Option Nat}{v:PV}:Zz3 C K h d (.slice e) .str v=bO (C.T e) fun te=>match te.k with
  | .int .u8=>if te.size=1 then bO (h.elems e v) fun xs=>bO (Zk.bytesP xs) fun b=>some (.str b,h) else none
  | _=>none:=by
 simp only [Zz3];cases C.T e with
 | none=>rfl
 | some te=>
   simp only [Xi];split
   .split
    .cases h.elems e v with
     | none=>rfl
     | some xs=>simp only [Option.bind_some,Xi];cases Zk.bytesP xs<;>rfl
    .rfl
   .rfl
@[simp high] theorem Zahx {C:Ctx}{t:Nat}:Za5 C .eql t (L g b xs) .nils=bO (C.T t) fun T=>match T.k with | .slice _=>some (.bool (b&&xs.isEmpty)) | _=>none:=by
 cases hT:C.T t with
 | none=>rcases Ztb g b xs with ⟨e,rfl,rfl⟩ | ⟨e,e2⟩<;>rw [e]<;>simp [hT]
 | some T=>
   simp only [Xi];rcases Ztb g b xs with ⟨e,rfl,rfl⟩ | ⟨e,e2⟩
   .rw [e];simp only [Zmm,eqP,hT];cases T.k<;>rfl
   .rw [e,e2];simp only [Zpg,eqP,hT];cases T.k<;>rfl
end
@[simp high] theorem Zaco {g:Nat}{b:Bool}{xs:List PV}{v:PV}:setCells (L g b xs) 0 [v]=some v:=by
 rcases Ztb g b xs with ⟨e,_⟩ | ⟨e,_⟩<;>rw [e]<;>rfl
attribute [simp] setCells.eq_1 setCells.eq_2 Yi
def resC (h:PH)(T:Ty)(v:PV)(vs:List PV):Option (List PV):=match v with
 | .ptr i Zg off=>match h.get i with
   | some (w,.cells cs)=>if w=Zg then ((Xk cs off T.size).bind (toP T.k.agg)).map (·::vs) else none
   | _=>none
 | _=>none
@[simp] theorem Zagj {C:Ctx}{sl:Yo}{h:PH}{a t:Nat}{r:List ResultVar}:Uq C sl h (.cell a t::r)=bO (sl a) fun v=>bO (C.T t) fun T=>bO (Uq C sl h r) fun vs=>resC h T v vs:=by
 simp only [Uq];cases sl a with
 | none=>rfl
 | some v=>
   cases C.T t with
   | none=>cases v<;>rfl
   | some T=>
     cases Uq C sl h r with
     | none=>cases v<;>rfl
     | some vs=>cases v<;>rfl
def resD (T:Ty)(Zg off:Nat)(vs:List PV)(p:Nat×PO):Option (List PV):=match p with
 | (w,.cells cs)=>if w=Zg then ((Xk cs off T.size).bind (toP T.k.agg)).map (·::vs) else none
 | _=>none
@[simp] theorem Zacq {T:Ty}{Zg off:Nat}{vs cs:List PV}:resD T Zg off vs (Zg,.cells cs)=((Xk cs off T.size).bind (toP T.k.agg)).map (·::vs):=by simp [resD]
@[simp] theorem Zait {h:PH}{T:Ty}{i Zg off:Nat}{vs:List PV}:resC h T (.ptr i Zg off) vs=bO (h.get i) fun p=>resD T Zg off vs p:=by
 simp only [resC];cases h.get i with
 | none=>rfl
 | some p=>
   obtain ⟨w,o⟩:=p;cases o<;>rfl
@[simp] theorem Zaht {pl:Nat->Option (Nat×Nat)}{cells:List PV}:Zej pl cells []=some cells:=rfl
@[simp] theorem Zafl {pl:Nat->Option (Nat×Nat)}{cells:List PV}{i:Nat}{v:PV}{r:List (Nat×PV)}:Zej pl cells ((i,v)::r) =
  bO (pl i) fun p=>if (cellsOf v).length=p.2/\p.1+p.2<=cells.length/\(cellsOf v).all Wj=true then bO (Yi cells p.1 (cellsOf v)) fun Wf=>Zej pl Wf r else none:=by
 simp only [Zej];cases pl i with
 | none=>rfl
 | some p=>
   obtain ⟨o,s⟩:=p;simp only [Xi];split
   .cases Yi cells o (cellsOf v)<;>rfl
   .rfl
section
variable {k:IntKind}{a b:Int}
@[simp] theorem Zajm:Si .add k k a b=some (.int k (k.wrap (a+b))):=by simp [Si]
@[simp] theorem Zajb:Si .sub k k a b=some (.int k (k.wrap (a - b))):=by simp [Si]
@[simp] theorem Zajg:Si .mul k k a b=some (.int k (k.wrap (a*b))):=by simp [Si]
@[simp] theorem Zaje:Si .quo k k a b=if b=0 then none else some (.int k (k.wrap (a.tdiv b))):=by simp [Si]
@[simp] theorem Zajd:Si .rem k k a b=if b=0 then none else some (.int k (a.tmod b)):=by simp [Si]
@[simp] theorem Zajl:Si .eql k k a b=some (.bool (a==b)):=by simp [Si]
@[simp] theorem Zajf:Si .neq k k a b=some (.bool (!(a==b))):=by simp [Si,bne]
@[simp] theorem Zajh:Si .lss k k a b=some (.bool (a < b)):=by simp [Si]
@[simp] theorem Zaji:Si .leq k k a b=some (.bool (a<=b)):=by simp [Si]
@[simp] theorem Zajj:Si .gtr k k a b=some (.bool (b < a)):=by simp [Si]
@[simp] theorem Zajk:Si .geq k k a b=some (.bool (b<=a)):=by simp [Si]
@[simp] theorem Zajc {k':IntKind}(h:0<=b):Si .shl k k' a b=some (.int k (k.wrap (a*2^min b.toNat k.bits))):=by
 simp only [Si];rw [if_neg (by omega)]
end
@[simp high] theorem Zaij {a b:List Nat}(h:a.length+b.length<=4611686018427387904):Zl5 .add a b=some (.str (a++b)):=by simp [Zl5,h]
@[simp] theorem Zaii {a b:List Nat}:Zl5 .eql a b=some (.bool (a==b)):=rfl
@[simp] theorem Zaif {a b:List Nat}:Zl5 .neq a b=some (.bool (!(a==b))):=rfl
@[simp] theorem Zaig {a b:List Nat}:Zl5 .lss a b=some (.bool (ltL a b)):=rfl
@[simp] theorem Zaih {a b:List Nat}:Zl5 .gtr a b=some (.bool (!(ltL a b||a==b))):=rfl
section
variable {k k':IntKind}{i j:Int}{n:Nat}
@[simp high] theorem Zafu (h0:0<=i)(h:i<=n):Xf n (some (.int k i)) none=some (i.toNat,n):=by
 have:i.toNat<=n:=by omega
 simp [Xf,Ziy,h0,this]
@[simp high] theorem Zaft (h0:0<=j)(h:j<=n):Xf n none (some (.int k j))=some (0,j.toNat):=by
 have:j.toNat<=n:=by omega
 simp [Xf,Ziy,h0,this]
@[simp high] theorem Zafv (h0:0<=i)(h1:i<=j)(h:j<=n):Xf n (some (.int k i)) (some (.int k' j))=some (i.toNat,j.toNat):=by
 have h2:j.toNat<=n:=by omega
 have h3:i.toNat<=j.toNat:=by omega
 have h4:0<=j:=by omega
 simp [Xf,Ziy,h0,h2,h3,h4]
end
end Go.Pure
end
section
namespace Go.Pure
open Go
open Go.Virt (Ex Ctx Ty TK Zx)
def Wv (sl Yp:Yo)(l:List Operand):Prop:=∀ x,x∈l->Yr sl x=Yr Yp x
theorem Wv.opds {sl Yp:Yo}:∀ {l:List Operand},Wv sl Yp l->Wn sl l=Wn Yp l
 | [],_=>rfl
 | x::r,h=>by
   have h1:=h x List.mem_cons_self;have h2:=Wv.opds (l:=r) fun y hy=>h y (List.mem_cons_of_mem _ hy)
   rw [Qh,Qh,h1,h2]
theorem Wv.parts {sl Yp:Yo}:∀ {l:List (Nat×Operand)},Wv sl Yp (l.map (·.2))->Ug sl l=Ug Yp l
 | [],_=>rfl
 | (i,x)::r,h=>by
   have h1:=h x (by simp);have h2:=Wv.parts (l:=r) fun y hy=>h y (by simp at hy ⊢;exact Or.inr hy)
   rw [Zib,Zib,h1,h2]
theorem Wv.opt {sl Yp:Yo}{o:Option Operand}(h:Wv sl Yp o.toList):Tz sl o=Tz Yp o:=by
 cases o with
 | none=>rfl
 | some x=>simp only [Tz];rw [h x (by simp)]
theorem Wv.mono {sl Yp:Yo}{l l':List Operand}(h:Wv sl Yp l)(hm:∀ x,x∈l'->x∈l):Wv sl Yp l':=fun x hx=>h x (hm x hx)
section
variable {C:Ctx}{cf:CF}{yf:YF}{K:Loc}{all:List Oper}{sl Yp:Yo}{h:PH}
theorem Zsl {o:Oper}(ha:Wv sl Yp o.op.operands.toList):Yd C sl o=Yd C Yp o:=by
 obtain ⟨d,op,ty,pos,af,gd⟩:=o;cases op with
 | move x=>simp only [Yd];rw [ha x (by simp [Op.operands])]
 | assign x=>simp only [Yd];rw [ha x (by simp [Op.operands])]
 | pick c a b=>simp only [Yd];rw [ha c (by simp [Op.operands]),ha a (by simp [Op.operands]),ha b (by simp [Op.operands])]
 | build t ps=>
   have:Ug sl ps.toList=Ug Yp ps.toList:=Wv.parts (ha.mono fun x hx=>by simpa [Op.operands] using hx);simp only [Yd,this]
 | load t a=>rw [Znr,Znr,ha a (by simp [Op.operands])]
 | nilCheck x=>simp only [Yd];rw [ha x (by simp [Op.operands])]
 | binOp op t x y yt=>simp only [Yd];rw [ha x (by simp [Op.operands]),ha y (by simp [Op.operands])]
 | unOp op t x=>simp only [Yd];rw [ha x (by simp [Op.operands])]
 | convert s t x=>rw [Zgo,Zgo,ha x (by simp [Op.operands])]
 | makeInterface t x=>simp only [Yd];rw [ha x (by simp [Op.operands])]
 | makeFunc f a b=>
   have h1:Wn sl a.toList=Wn Yp a.toList:=Wv.opds (ha.mono fun x hx=>by simp [Op.operands];exact Or.inl (by simpa using hx));have h2:Wn sl b.toList=Wn Yp b.toList:=Wv.opds (ha.mono fun x hx=>by simp [Op.operands];exact Or.inr (by simpa using hx));simp only [Yd,h1,h2]
 | slice t x lo hi mx=>
   have h1:=ha x (by simp [Op.operands]);have h2:Tz sl lo=Tz Yp lo:=Wv.opt (ha.mono fun y hy=>by simp [Op.operands];right;left;simpa using hy);have h3:Tz sl hi=Tz Yp hi:=Wv.opt (ha.mono fun y hy=>by simp [Op.operands];right;right;left;simpa using hy);cases mx with
   | none=>rw [Zk7,Zk7,h1,h2,h3]
   | some m=>simp only [Yd]
 | fieldAddr s x f=>simp only [Yd];rw [ha x (by simp [Op.operands])]
 | field s x f=>simp only [Yd];rw [ha x (by simp [Op.operands])]
 | indexAddr t x i=>rw [Zcy,Zcy,ha x (by simp [Op.operands]),ha i (by simp [Op.operands])]
 | index t x i=>rw [Zk8,Zk8,ha x (by simp [Op.operands]),ha i (by simp [Op.operands])]
 | lookup t x i ok=>simp only [Yd];rw [ha x (by simp [Op.operands]),ha i (by simp [Op.operands])]
 | extract t i=>simp only [Yd];rw [ha t (by simp [Op.operands])]
 | call c=>
   have:Wn sl c.args.toList=Wn Yp c.args.toList:=Wv.opds (ha.mono fun x hx=>by simp [Op.operands,Call.operands];exact Or.inr (by simpa using hx));simp only [Yd,this]
 | _=>rfl
theorem Zrq {o:Oper}(ha:Wv sl Yp o.op.operands.toList):Vx C all sl o=Vx C all Yp o:=by
 obtain ⟨d,op,ty,pos,af,gd⟩:=o;cases op with
 | box t x=>simp only [Vx];rw [ha x (by simp [Op.operands])]
 | buildSlice t n ps=>
   have:Ug sl ps.toList=Ug Yp ps.toList:=Wv.parts (ha.mono fun x hx=>by simpa [Op.operands] using hx);simp only [Vx,this]
 | makeSlice t l c=>rw [Zcn,Zcn,ha l (by simp [Op.operands]),ha c (by simp [Op.operands])]
 | makeMap t r=>cases r<;>rfl
 | _=>rfl
theorem Zoc {o:Oper}(ha:Wv sl Yp o.op.operands.toList):Zk C cf yf all K sl h o=Zk C cf yf all K Yp h o:=by
 obtain ⟨d,op,ty,pos,af,gd⟩:=o;cases op with
 | load t a=>rw [Zjy,Zjy,ha a (by simp [Op.operands])]
 | store t a x=>rw [Zh6,Zh6,ha a (by simp [Op.operands]),ha x (by simp [Op.operands])]
 | convert s t x=>rw [Zaf,Zaf,ha x (by simp [Op.operands])]
 | slice t x lo hi mx=>
   have h1:=ha x (by simp [Op.operands]);have h2:Tz sl lo=Tz Yp lo:=Wv.opt (ha.mono fun y hy=>by simp [Op.operands];right;left;simpa using hy);have h3:Tz sl hi=Tz Yp hi:=Wv.opt (ha.mono fun y hy=>by simp [Op.operands];right;right;left;simpa using hy);cases mx with
   | none=>rw [Zb9,Zb9,h1,h2,h3]
   | some m=>simp only [Zk]
 | indexAddr t x i=>rw [Rb,Rb,ha x (by simp [Op.operands]),ha i (by simp [Op.operands])]
 | lookup t x i ok=>simp only [Zk];rw [ha x (by simp [Op.operands]),ha i (by simp [Op.operands])]
 | mapUpdate t m k x=>simp only [Zk];rw [ha m (by simp [Op.operands]),ha k (by simp [Op.operands]),ha x (by simp [Op.operands])]
 | insert t m k x=>simp only [Zk];rw [ha m (by simp [Op.operands]),ha k (by simp [Op.operands]),ha x (by simp [Op.operands])]
 | call c=>
   have h1:Wn sl c.args.toList=Wn Yp c.args.toList:=Wv.opds (ha.mono fun x hx=>by simp [Op.operands,Call.operands];exact Or.inr (by simpa using hx));obtain ⟨cal,args,ats⟩:=c;cases cal with
   | value f=>
     have h2:=ha f (by simp [Op.operands,Call.operands]);simp only [Zk,h1,h2]
   | invoke r m=>simp only [Zk,h1]
   | builtin b=>simp only [Zk,h1]
 | _=>rfl
end
def Zmt (C:Ctx):Op->Bool
 | .load _ _ | .store _ _ _ | .lookup _ _ _ _ | .mapUpdate _ _ _ _ | .insert _ _ _ _=>true
 | .slice t _ _ _ _ | .indexAddr t _ _=>match C.T t with
   | some a=>match a.k with | .slice _=>true | _=>false
   | none=>false
 | .convert s t _=>match C.T s,C.T t with
   | some a,some b=>match a.k,b.k with
     | .str,.slice _=>true
     | .slice _,.str=>true
     | _,_=>false
   | _,_=>false
 | .call c=>match c.callee with
   | .value _=>true
   | .builtin b=>match b with
     | .append | .delete=>true
     | .len=>match (c.argTypes[0]?).bind C.T with
       | some a=>match a.k with | .map _ _=>true | _=>false
       | none=>false
     | _=>false
   | _=>false
 | _=>false
def Zm6:Op->Bool
 | .alloc _ | .box _ _ | .buildSlice _ _ _ | .makeSlice _ _ _ | .makeMap _ _=>true
 | _=>false
def Zs1:Op->Bool
 | .call c=>match c.callee with | .value _=>true | _=>false
 | _=>false
def Zaa9:Op->Bool
 | .load _ _ | .indexAddr _ _ _=>true
 | _=>false
structure Md where
 pf:Bool
 ld:Bool
 fr:List Nat
 rd:List Nat:=[]
 ids:List Nat:=[]
 fl:List Nat:=[]
 ls:Bool:=false
def Md.inRd (m:Md)(o:Oper):Bool:=match o.dst with | some d=>m.rd.contains d | none=>false
def Md.inFl (m:Md)(o:Oper):Bool:=match o.dst with | some d=>m.fl.contains d | none=>m.fl.contains 1000000
def Zz5 (h0 h:PH)(u:Nat):Bool:=match h.get u,h0.get u with
 | some (v,_),some (w,_)=>Nat.beq v w
 | _,_=>false
def Z4z (h:PH)(u:Nat):Bool:=match h.get u with | some (_,.cells _)=>true | some (_,.row _ true _)=>true | _=>false
def Md.okB (m:Md)(h0 h:PH)(sl:Yo)(o:Oper)(v:PV):Bool:=match Zgb sl o with
 | some (u,Zg)=>m.ids.contains u&&(match h0.get u with | some (w,_)=>Nat.beq w Zg | none=>false)&&(Xh 4 v||(m.ls&&Z4z h u))&&Wt 3 v
 | none=>false
def Md.free (m:Md)(o:Oper):Bool:=(m.ld&&Zaa9 o.op)||(match o.dst with | some d=>m.fr.contains d | none=>false)
def Wx (pf:Md)(o:Oper):Bool:=Um o&&!(pf.pf&&Zs1 o.op)
def R7 (C:Ctx)(pf:Md)(o:Oper):Bool:=Zmt C o.op&&!pf.free o
def Zaik (C:Ctx)(pf:Md)(ops:Array Oper):Bool:=
 let masks:=Region.before ops
 ops.toList.zipIdx.all fun (o,i)=>!R7 C pf o||ops.toList.zipIdx.all fun (p,j)=>!Nat.blt j i||((!Zm6 p.op||(masks.getD i 0).testBit j||pf.inRd o)&&(!R7 C pf p||(!Wx pf o&&!Wx pf p)||(masks.getD i 0).testBit j||(pf.inRd o&&pf.inFl p)||(pf.inRd p&&pf.inFl o&&!Wx pf p)))
def Zaa3 (C:Ctx)(pf:Md)(ops:Array Oper):Bool:=!pf.ls||ops.toList.zipIdx.all fun (o,i)=>!pf.inRd o||ops.toList.zipIdx.all fun (p,j)=>!Nat.blt j i||!R7 C pf p||!Wx pf p||pf.inFl p
def Zmu (C:Ctx)(pf:Md)(ops:Array Oper):Bool:=Zaik C pf ops&&Zaa3 C pf ops
structure Stat (C:Ctx)(pf:Md)(ops:Array Oper):Prop where
 ok:Zmu C pf ops=true
def Qp (pf:Md)(h0:PH)(C:Ctx)(cf:CF)(yf:YF)(K:Loc)(all:List Oper):List Oper->Yo->PH->Option (Yo×PH)
 | [],sl,h=>some (sl,h)
 | o::r,sl,h=>
   match Vb all sl o with
   | some true=>match Yd C sl o with
     | some v=>if Wt 3 v=true then Qp pf h0 C cf yf K all r (putP sl o.dst v) h else none
     | none=>match Vx C all sl o with
       | some m=>match m.obj,o.dst with
         | none,_=>Qp pf h0 C cf yf K all r (putP sl o.dst (m.val 0 0)) h
         | some ob,some d=>Qp pf h0 C cf yf K all r (sl.put d (m.val (K.base+d) (h.stamp (K.base+d)))) (h.put (K.base+d) (h.stamp (K.base+d)) ob)
         | some _,none=>none
       | none=>match Zk C cf yf all K sl h o with
         | some (v,h')=>if (!pf.free o&&(!(pf.pf&&Zs1 o.op)||Sl C sl o v)&&(!pf.inRd o||pf.okB h0 h sl o v)&&(!pf.inFl o||pf.ids.all fun u=>X4 (Xn C K sl h o) u&&Zz5 h0 h u))=true then Qp pf h0 C cf yf K all r (putP sl o.dst v) h' else none
         | none=>none
   | some false=>Qp pf h0 C cf yf K all r (putP sl o.dst (.tuple [])) h
   | none=>none
section
variable {C:Ctx}{cf:CF}{yf:YF}{K:Loc}
theorem Zq5 {sl Yp:Yo}{o:Oper}{v:PV}(ha:Wv sl Yp o.op.operands.toList):Sl C sl o v=Sl C Yp o v:=by
 obtain ⟨d,op,ty,pos,af,gd⟩:=o;cases op with
 | call c=>
   obtain ⟨cal,args,ats⟩:=c;have h1:Wn sl args.toList=Wn Yp args.toList:=Wv.opds (ha.mono fun x hx=>by simp [Op.operands,Call.operands];exact Or.inr (by simpa using hx));cases cal with
   | value f=>
     have h2:=ha f (by simp [Op.operands,Call.operands]);simp only [Sl,h1,h2]
   | _=>rfl
 | _=>rfl
theorem Zrr {sl Yp:Yo}{o:Oper}(ha:Wv sl Yp o.op.operands.toList):Zgb sl o=Zgb Yp o:=by
 obtain ⟨d,op,ty,pos,af,gd⟩:=o;cases op with
 | load t a=>simp only [Zgb];rw [ha a (by simp [Op.operands])]
 | _=>rfl
theorem Zfn {sl Yp:Yo}{h:PH}{o:Oper}(ha:Wv sl Yp o.op.operands.toList):Xn C K sl h o=Xn C K Yp h o:=by
 obtain ⟨d,op,ty,pos,af,gd⟩:=o;cases op with
 | store t a x=>simp only [Xn];rw [ha a (by simp [Op.operands]),ha x (by simp [Op.operands])]
 | call c=>
   obtain ⟨cal,args,ats⟩:=c;have h1:Wn sl args.toList=Wn Yp args.toList:=Wv.opds (ha.mono fun x hx=>by simp [Op.operands,Call.operands];exact Or.inr (by simpa using hx));cases cal with
   | value f=>
     have h2:=ha f (by simp [Op.operands,Call.operands]);simp only [Xn,h1,h2]
   | builtin b=>
     cases b with
     | append=>
       simp only [Xn];cases hl:args.toList with
       | nil=>rfl
       | cons x r=>
         have hm:x∈args.toList:=by rw [hl];simp
         have hx:=ha x (by simp [Op.operands,Call.operands];simpa using hm);cases d with
         | none=>rfl
         | some d=>simp only [hx]
     | _=>rfl
   | _=>rfl
 | _=>rfl
theorem Zrp {all:List Oper}{sl:Yo}{o:Oper}{m:Mk}(h:Vx C all sl o=some m):Zm6 o.op=true:=by
 obtain ⟨d,op,ty,pos,af,gd⟩:=o;cases op<;>first | rfl | (simp only [Vx] at h;cases h)
theorem Zob {all:List Oper}{sl:Yo}{h:PH}{o:Oper}{r:PV×PH}(he:Zk C cf yf all K sl h o=some r):Zmt C o.op=true:=by
 obtain ⟨d,op,ty,pos,af,gd⟩:=o;cases op with
 | convert s t x=>
   rw [Zaf] at he;simp only [Zmt];cases hs:C.T s with
   | none=>rw [hs] at he;cases he
   | some a=>
     cases ht:C.T t with
     | none=>rw [hs,ht] at he;cases he
     | some b=>
       simp only [hs,ht,Xi] at he ⊢;cases hx:Yr sl x with
       | none=>rw [hx] at he;cases he
       | some v=>
         rw [hx] at he;simp only [Xi,Zz3] at he;split at he
         .rename_i h1 h2;simp only [h1,h2]
         .rename_i h1 h2;simp only [h1,h2]
         .cases he
 | call c=>
   obtain ⟨cal,args,ats⟩:=c;simp only [Zk] at he;split at he
   .cases he
   .cases cal with
    | value f=>rfl
    | invoke r m=>cases he
    | builtin b=>
      cases b with
      | append=>rfl
      | delete=>rfl
      | len=>
        simp only [Zmt];simp only at he;split at he
        .rename_i hb hx;cases hT:(ats[0]?).bind C.T with
         | none=>rw [hT] at he;cases he
         | some T=>
           rw [hT] at he;simp only at he ⊢;cases hk:T.k<;>first | rfl | (rw [hk] at he;cases he)
        .rename_i hb hx;cases hb
        .rename_i hb hx;cases hb
        .cases he
      | _=>simp only at he;cases he
 | slice t x lo hi mx=>
   cases mx with
   | some m=>simp only [Zk] at he;cases he
   | none=>
     rw [Zb9] at he;simp only [Zmt];cases hT:C.T t with
     | none=>rw [hT] at he;cases he
     | some T=>
       rw [hT] at he;simp only [Xi] at he ⊢;cases hx:Yr sl x with
       | none=>rw [hx] at he;cases he
       | some v=>
         rw [hx] at he;simp only [Xi] at he;cases h1:Tz sl lo with
         | none=>rw [h1] at he;cases he
         | some l=>
           rw [h1] at he;simp only [Xi] at he;cases h2:Tz sl hi with
           | none=>rw [h2] at he;cases he
           | some u=>
             rw [h2] at he;simp only [Xi,Z7a] at he;cases v<;>first | (cases he;done) | skip
             cases hk:T.k<;>first | rfl | (rw [hk] at he;cases he)
 | indexAddr t x i=>
   rw [Rb] at he;simp only [Zmt];cases hT:C.T t with
   | none=>rw [hT] at he;cases he
   | some T=>
     rw [hT] at he;simp only [Xi] at he ⊢;cases hx:Yr sl x with
     | none=>rw [hx] at he;cases he
     | some v=>
       rw [hx] at he;simp only [Xi] at he;cases hi:Yr sl i with
       | none=>rw [hi] at he;cases he
       | some w=>
         rw [hi] at he;simp only [Xi,Z71] at he;cases v<;>first | (cases he;done) | skip
         cases w<;>first | (cases he;done) | skip
         cases hk:T.k<;>first | rfl | (rw [hk] at he;cases he)
 | _=>first | rfl | (simp only [Zk] at he;cases he)
theorem Zol {pf:Md}{h0:PH}{ops:Array Oper}(hS:Stat C pf ops):∀ (l done:List Oper) (s:PD) (r:Yo×PH),ops.toList=done++l ->
  (∀ p,p∈s.st->∃ o,ops.toList[p.1]?=some o/\p.1 < done.length/\R7 C pf o=true/\(p.2=true->Wx pf o=true)/\pf.inRd o=false)->(∀ j,j∈s.made->∃ o,ops.toList[j]?=some o/\j < done.length/\Zm6 o.op=true) ->
  (∀ p,p∈s.rb->∃ o,ops.toList[p.1]?=some o/\p.1 < done.length/\R7 C pf o=true/\(pf.inRd o=true->p.2∈pf.ids))->(∀ p,p∈s.wt->∃ o,ops.toList[p.1]?=some o/\p.1 < done.length/\R7 C pf o=true/\Wx pf o=true/\(pf.inFl o=true->∀ u,u∈pf.ids->X4 p.2 u=true))->(∀ u,s.old u=(h0.get u).map (·.1)) ->
  Qp pf h0 C cf yf K ops.toList l s.sl s.h=some r->∃ s',Rf C cf yf K ops.toList (Region.before ops) l done.length s=some s'/\(s'.sl,s'.h)=r:=by
 intro l
 induction l with
 | nil=>
   intro done s r hd h1 h2 h3 h4 hol he;simp only [Qp,Option.some.injEq] at he;exact ⟨s,rfl,he⟩
 | cons o l ih=>
   intro done s r hd h1 h2 h3 h4 hol he;have hd':ops.toList=(done++[o])++l:=by rw [hd];simp
   have hlen:(done++[o]).length=done.length+1:=by simp
   have hio:ops.toList[done.length]?=some o:=by rw [hd];simp
   have hpk:∀ t,t∈Zx ops.toList o->(fun t=>if (Zx ops.toList o).contains t then s.sl t else none) t=s.sl t:=by
    intro t ht;have:(Zx ops.toList o).contains t=true:=by simpa using ht
    simp only [this,if_true]
   have hag:Wv (fun t=>if (Zx ops.toList o).contains t then s.sl t else none) s.sl o.op.operands.toList:=by
    intro x hx;cases x with
    | tmp t=>
      refine hpk t ?_;unfold Zx;refine List.mem_append_left _ (List.mem_filterMap.2 ⟨.tmp t,hx,rfl⟩)
    | _=>rfl
   have hw:Vb ops.toList (fun t=>if (Zx ops.toList o).contains t then s.sl t else none) o=Vb ops.toList s.sl o:=by
    unfold Vb;cases hg:o.guard with
    | none=>rfl
    | some p=>
      obtain ⟨j,want⟩:=p;simp only;cases hj:(ops.toList[j]?).bind (·.dst) with
      | none=>rfl
      | some d=>
        simp only
        have:d∈Zx ops.toList o:=by
         unfold Zx;refine List.mem_append_right _ ?_;rw [hg];simp only [hj,Option.toList,List.mem_singleton]
        have:=hpk d this;simp only at this;rw [this]
   have Zas6:∀ p,p∈s.st->∃ o,ops.toList[p.1]?=some o/\p.1 < (done++[o]).length/\R7 C pf o=true/\(p.2=true->Wx pf o=true)/\pf.inRd o=false:=fun p hp=>by
    obtain ⟨o',a,b,c⟩:=h1 p hp;exact ⟨o',a,by simp;omega,c⟩
   have Zna:∀ j,j∈s.made->∃ o',ops.toList[j]?=some o'/\j < (done++[o]).length/\Zm6 o'.op=true:=fun j hj=>by
    obtain ⟨o',a,b,c⟩:=h2 j hj;exact ⟨o',a,by simp;omega,c⟩
   have Zhl:∀ p,p∈s.st->∃ o',ops.toList[p.1]?=some o'/\p.1 < (done++[o]).length/\R7 C pf o'=true/\(p.2=true->Wx pf o'=true)/\pf.inRd o'=false:=fun p hp=>by
    obtain ⟨o',a,b,c⟩:=h1 p hp;exact ⟨o',a,by simp;omega,c⟩
   have Zas5:∀ p,p∈s.rb->∃ o,ops.toList[p.1]?=some o/\p.1 < (done++[o]).length/\R7 C pf o=true/\(pf.inRd o=true->p.2∈pf.ids):=fun p hp=>by
    obtain ⟨o',a,b,c⟩:=h3 p hp;exact ⟨o',a,by simp;omega,c⟩
   have Zkm:∀ p,p∈s.wt->∃ o',ops.toList[p.1]?=some o'/\p.1 < (done++[o]).length/\R7 C pf o'=true/\Wx pf o'=true/\(pf.inFl o'=true->∀ u,u∈pf.ids->X4 p.2 u=true):=fun p hp=>by
    obtain ⟨o',a,b,c⟩:=h4 p hp;exact ⟨o',a,by simp;omega,c⟩
   have Zhk:∀ p,p∈s.rb->∃ o',ops.toList[p.1]?=some o'/\p.1 < (done++[o]).length/\R7 C pf o'=true/\(pf.inRd o'=true->p.2∈pf.ids):=fun p hp=>by
    obtain ⟨o',a,b,c⟩:=h3 p hp;exact ⟨o',a,by simp;omega,c⟩
   simp only [Qp] at he;simp only [Rf,Zbq,hw,Zsl hag,Zrq hag,Zoc hag];cases hwt:Vb ops.toList s.sl o with
   | none=>rw [hwt] at he;cases he
   | some w=>
     rw [hwt] at he;cases w with
     | false=>
       simp only at he ⊢;have:=ih (done++[o]) {s with sl:=putP s.sl o.dst (.tuple [])} r hd' Zhl Zna Zhk Zkm hol he
       rwa [hlen] at this
     | true=>
       simp only at he ⊢;cases hf:Yd C s.sl o with
       | some v=>
         rw [hf] at he;simp only at he ⊢;split at he
         .rename_i hsm;rw [if_pos hsm];have:=ih (done++[o]) {s with sl:=putP s.sl o.dst v} r hd' Zhl Zna Zhk Zkm hol he
          rwa [hlen] at this
         .cases he
       | none=>
         rw [hf] at he;simp only at he ⊢;cases hm:Vx C ops.toList s.sl o with
         | some m=>
           rw [hm] at he;simp only at he ⊢;cases U5:m.obj with
           | none=>
             rw [U5] at he;simp only at he ⊢;have:=ih (done++[o]) {s with sl:=putP s.sl o.dst (m.val 0 0)} r hd' Zhl Zna Zhk Zkm hol he
             rwa [hlen] at this
           | some ob=>
             rw [U5] at he;cases Sj:o.dst with
             | none=>rw [Sj] at he;cases he
             | some d=>
               rw [Sj] at he;simp only at he ⊢
               have:=ih (done++[o]) {s with sl:=s.sl.put d (m.val (K.base+d) (s.h.stamp (K.base+d))),h:=s.h.put (K.base+d) (s.h.stamp (K.base+d)) ob,made:=done.length::s.made} r hd' Zhl (fun j hj=>by
                rcases List.mem_cons.1 hj with rfl | hj
                .exact ⟨o,hio,by simp,Zrp hm⟩
                .exact Zna j hj) Zhk Zkm hol he
               rwa [hlen] at this
         | none=>
           rw [hm] at he;simp only at he ⊢;cases Xl:Zk C cf yf ops.toList K s.sl s.h o with
           | none=>rw [Xl] at he;cases he
           | some p=>
             obtain ⟨v,h'⟩:=p;rw [Xl] at he;simp only at he ⊢;split at he
             .rename_i hpc;rw [Bool.and_eq_true,Bool.and_eq_true,Bool.and_eq_true] at hpc;obtain ⟨⟨⟨hpf,hpc⟩,hrd⟩,Tk⟩:=hpc
              have hwi:(Um o&&!Sl C s.sl o v)=true->Wx pf o=true:=by
               intro hh;rw [Bool.and_eq_true,Bool.not_eq_true'] at hh;unfold Wx;rw [hh.1,Bool.true_and];rw [hh.2,Bool.or_false] at hpc;exact hpc
              have hso:R7 C pf o=true:=by unfold R7;rw [Zob Xl,hpf];rfl
              have hok:=hS.ok;unfold Zmu at hok;rw [Bool.and_eq_true] at hok
              have hB:=List.all_eq_true.1 hok.1 (o,done.length) (by
               rw [List.mem_zipIdx_iff_getElem?];simpa using hio)
              simp only [hso,Bool.not_true,Bool.false_or] at hB
              have hB':∀ j p,ops.toList[j]?=some p->j < done.length->((!Zm6 p.op||((Region.before ops).getD done.length 0).testBit j||pf.inRd o)&&(!R7 C pf p||(!Wx pf o&&!Wx pf p)||((Region.before ops).getD done.length 0).testBit j||(pf.inRd o&&pf.inFl p)||(pf.inRd p&&pf.inFl o&&!Wx pf p)))=true:=fun j p hj hlt=>by
               have:=List.all_eq_true.1 hB (p,j) (by rw [List.mem_zipIdx_iff_getElem?];simpa using hj);have hb:Nat.blt j done.length=true:=by simpa using hlt
               simp only [hb,Bool.not_true,Bool.false_or] at this;exact this
              have hwd:Ri C (fun t=>if (Zx ops.toList o).contains t then s.sl t else none) o v=(Um o&&!Sl C s.sl o v):=by
               simp only [Ri,Zq5 hag]
              have hold:∀ u,s.old u=(h0.get u).map (·.1):=hol
              have hrd1:pf.inRd o=true->∃ u,u∈pf.ids/\Zlm s (fun t=>if (Zx ops.toList o).contains t then s.sl t else none) o v=some u:=fun V9=>by
               rw [V9,Bool.not_true,Bool.false_or] at hrd;unfold Md.okB at hrd;unfold Zlm;rw [Zrr hag];cases hlk:Zgb s.sl o with
               | none=>rw [hlk] at hrd;cases hrd
               | some q=>
                 obtain ⟨u,Zg⟩:=q;rw [hlk] at hrd;simp only [Bool.and_eq_true] at hrd;obtain ⟨⟨⟨a1,a2⟩,a3⟩,a4⟩:=hrd;have hu1:u∈pf.ids:=by simpa using a1
                 refine ⟨u,hu1,?_⟩
                 have a3':(Xh 4 v||s.clear u)=true:=by
                  rw [Bool.or_eq_true] at a3 ⊢;refine a3.imp id fun a3=>?_
                  rw [Bool.and_eq_true] at a3;unfold PD.clear;rw [Bool.and_eq_true];refine ⟨List.all_eq_true.2 ?_,a3.2⟩;rintro ⟨j,t⟩ hj;obtain ⟨o',b1,b2,b3,b4,b5⟩:=h4 _ hj;refine b5 ?_ u hu1;have h9:=hok.2;unfold Zaa3 at h9;rw [a3.1,Bool.not_true,Bool.false_or] at h9;have h9:=List.all_eq_true.1 h9 (o,done.length) (by rw [List.mem_zipIdx_iff_getElem?];simpa using hio);simp only [V9,Bool.not_true,Bool.false_or] at h9;have h9:=List.all_eq_true.1 h9 (o',j) (by rw [List.mem_zipIdx_iff_getElem?];simpa using b1);have hb:Nat.blt j done.length=true:=by simpa using b2
                  simpa only [hb,b3,b4,Bool.not_true,Bool.false_or] using h9
                 simp only [hold];cases hx:h0.get u with
                 | none=>rw [hx] at a2;cases a2
                 | some x=>
                   rw [hx] at a2;simp only [Option.map_some];rw [if_pos (by simp only [a2,a3',a4,Bool.and_self])]
              have Zk0:∀ u,Zz5 h0 s.h u=true->s.cur u=true:=fun u hu=>by
               unfold Zz5 at hu;unfold PD.cur;rw [hold];cases hx:s.h.get u with
               | none=>rw [hx] at hu;cases hu
               | some x=>
                 cases hy:h0.get u with
                 | none=>rw [hx,hy] at hu;cases hu
                 | some y=>rw [hx,hy] at hu;exact hu
              unfold Zv9;simp only [hwd];cases hbl:Zlm s (fun t=>if (Zx ops.toList o).contains t then s.sl t else none) o v with
              | some u=>
                have hru:pf.inRd o=true->u∈pf.ids:=fun V9=>by
                 obtain ⟨u',a1,a2⟩:=hrd1 V9;rw [hbl] at a2;cases a2;exact a1
                simp only
                rw [if_pos (List.all_eq_true.2 fun p hp=>by
                 obtain ⟨o',a,b,c,e,f⟩:=h4 p hp;have:=hB' p.1 o' a b;simp only [c,e,Bool.not_true,Bool.false_or,Bool.and_false,Bool.and_eq_true,Bool.or_eq_true] at this;simp only [Bool.or_eq_true];rcases this.2 with (h7 | h7) | h7
                 .exact .inl h7
                 .exact .inr (f h7.2 u (hru h7.1))
                 .cases h7)]
                have:=ih (done++[o]) {s with sl:=putP s.sl o.dst v,h:=h',rb:=(done.length,u)::s.rb} r hd' Zhl Zna (fun p hp=>by
                 rcases List.mem_cons.1 hp with rfl | hp
                 .exact ⟨o,hio,by simp,hso,hru⟩
                 .exact Zhk p hp) Zkm hol he
                rwa [hlen] at this
              | none=>
                have hno:pf.inRd o=false:=by
                 cases V9:pf.inRd o with
                 | false=>rfl
                 | true=>
                   obtain ⟨u',a1,a2⟩:=hrd1 V9;rw [hbl] at a2;cases a2
                have hB2:∀ j p,ops.toList[j]?=some p->j < done.length->((!Zm6 p.op||((Region.before ops).getD done.length 0).testBit j)&&(!R7 C pf p||(!Wx pf o&&!Wx pf p)||((Region.before ops).getD done.length 0).testBit j||(pf.inRd p&&pf.inFl o&&!Wx pf p)))=true:=fun j p hj hlt=>by
                 have:=hB' j p hj hlt
                 rwa [hno,Bool.or_false,Bool.false_and,Bool.or_false] at this
                have c1:(s.st.all fun x=>match x with | (j,w)=>(!w&&!(Um o&&!Sl C s.sl o v))||((Region.before ops).getD done.length 0).testBit j)=true:=by
                 rw [List.all_eq_true];rintro ⟨j,w⟩ hj;obtain ⟨p,a,b,c,e,f⟩:=h1 _ hj;have:=hB2 j p a b;simp only at e c f;simp only [c,f,Bool.not_true,Bool.false_or,Bool.and_eq_true,Bool.false_and,Bool.or_false] at this;simp only;have h2:=this.2;rw [Bool.or_eq_true] at h2 ⊢;rcases h2 with h2 | h2
                 .left;rw [Bool.and_eq_true,Bool.not_eq_true',Bool.not_eq_true'] at h2 ⊢;constructor
                  .cases w with
                   | false=>rfl
                   | true=>rw [e rfl] at h2;cases h2.2
                  .cases hx:(Um o&&!Sl C s.sl o v) with
                   | false=>rfl
                   | true=>rw [hwi hx] at h2;cases h2.1
                 .exact Or.inr h2
                have c2:(s.made.all fun j=>((Region.before ops).getD done.length 0).testBit j)=true:=by
                 rw [List.all_eq_true];intro j hj;obtain ⟨p,a,b,c⟩:=h2 _ hj;have:=hB2 j p a b;simp only [c,Bool.not_true,Bool.false_or,Bool.and_eq_true] at this;exact this.1
                have c5:(!(Um o&&!Sl C s.sl o v)||s.rb.all fun x=>match x with | (c,u)=>((Region.before ops).getD done.length 0).testBit c||(X4 (Xn C K (fun t=>if (Zx ops.toList o).contains t then s.sl t else none) s.h o) u&&s.cur u))=true:=by
                 cases hx:(Um o&&!Sl C s.sl o v) with
                 | false=>rfl
                 | true=>
                   simp only [Bool.not_true,Bool.false_or];refine List.all_eq_true.2 fun p hp=>?_
                   obtain ⟨o',a,b,c,f⟩:=h3 p hp;have:=hB2 p.1 o' a b;simp only [c,hwi hx,Bool.not_true,Bool.false_or,Bool.false_and,Bool.and_eq_true,Bool.or_eq_true] at this;simp only [Bool.or_eq_true,Bool.and_eq_true];rcases this.2 with h7 | h7
                   .exact .inl h7
                   .right;rw [h7.1.2,Bool.not_true,Bool.false_or] at Tk;have h8:=List.all_eq_true.1 Tk p.2 (f h7.1.1);rw [Bool.and_eq_true] at h8;exact ⟨by rw [Zfn hag];exact h8.1,Zk0 _ h8.2⟩
                simp only;rw [if_pos (by rw [c1,c2,c5];rfl)]
                have:=ih (done++[o]) {s with sl:=putP s.sl o.dst v,h:=h',st:=(done.length,Um o&&!Sl C s.sl o v)::s.st,wt:=if (Um o&&!Sl C s.sl o v)=true then (done.length,Xn C K (fun t=>if (Zx ops.toList o).contains t then s.sl t else none) s.h o)::s.wt else s.wt} r hd' (fun q hq=>by
                 rcases List.mem_cons.1 hq with rfl | hq
                 .exact ⟨o,hio,by simp,hso,hwi,hno⟩
                 .exact Zhl q hq) Zna Zhk (fun p hp=>by
                 simp only at hp;split at hp
                 .rename_i hx;rcases List.mem_cons.1 hp with rfl | hp
                  .refine ⟨o,hio,by simp,hso,hwi hx,fun V9 u hu=>?_⟩;rw [V9,Bool.not_true,Bool.false_or] at Tk;have h8:=List.all_eq_true.1 Tk u hu;rw [Bool.and_eq_true] at h8;simp only [Zfn hag];exact h8.1
                  .exact Zkm p hp
                 .exact Zkm p hp) hol he
                rwa [hlen] at this
             .cases he
theorem Zpb {pf:Md}{ops:Array Oper}(hS:Stat C pf ops){sl:Yo}{h:PH}{r:Yo×PH}(he:Qp pf h C cf yf K ops.toList ops.toList sl h=some r):Za2 C cf yf K ops sl h=some r:=by
 obtain ⟨s',h1,h2⟩:=Zol hS ops.toList [] {sl,h,st:=[],made:=[],old:=fun u=>(h.get u).map (·.1),rb:=[],wt:=[]} r rfl (by simp) (by simp) (by simp) (by simp) (fun _=>rfl) he;unfold Za2;rw [show (0:Nat)=([]:List Oper).length from rfl,h1,Option.map_some,h2]
end
section
variable {C:Ctx}{K:Loc}{Xg:Bool}{sl:Yo}{h:PH}
theorem Zfi (pf:Md){Q:Ex×Yo×PH->Prop}{id:Nat}{ops:Array Oper}(hS:Stat C pf ops)(hx:wp (Qp pf h C (Yv C) (Tq C) K ops.toList ops.toList sl h) fun p=>Q (.normal,p.1,p.2)):wp (W5 C K Xg (.region id ops true) sl h) Q:=by
 obtain ⟨r,h1,h2⟩:=Xm.1 hx;rw [Z4s,Zpb hS h1];exact h2
end
theorem Wm {C:Ctx}{K:Loc}{Xg:Bool}{sl:Yo}{h:PH}(pf ld:Bool)(fr rd ids fl:List Nat)(ls:Bool){Q:Ex×Yo×PH->Prop}{id:Nat}{ops:Array Oper}(hS:Zmu C {pf:=pf,ld:=ld,fr:=fr,rd:=rd,ids:=[],fl:=fl,ls:=ls} ops=true)
  (hx:wp (Qp {pf:=pf,ld:=ld,fr:=fr,rd:=rd,ids:=ids,fl:=fl,ls:=ls} h C (Yv C) (Tq C) K ops.toList ops.toList sl h) fun p=>Q (.normal,p.1,p.2)):wp (W5 C K Xg (.region id ops true) sl h) Q:=
 Zfi {pf:=pf,ld:=ld,fr:=fr,rd:=rd,ids:=ids,fl:=fl,ls:=ls} ⟨hS⟩ hx
section
variable {C:Ctx}{cf:CF}{yf:YF}{K:Loc}{all:List Oper}{sl:Yo}{h h0:PH}{pf:Md}
@[simp] theorem Zaas {Q:Yo×PH->Prop}:wp (Qp pf h0 C cf yf K all [] sl h) Q=Q (sl,h):=rfl
@[simp] theorem Z60 {o:Oper}{r:List Oper}{Q:Yo×PH->Prop}:wp (Qp pf h0 C cf yf K all (o::r) sl h) Q =
  wp (Vb all sl o) fun w=>ifB w
   (opF (Yd C sl o) (fun v=>ifB (Wt 3 v) (wp (Qp pf h0 C cf yf K all r (putP sl o.dst v) h) Q) False)
     (opM (Vx C all sl o) (fun m=>match m.obj,o.dst with
       | none,_=>wp (Qp pf h0 C cf yf K all r (putP sl o.dst (m.val 0 0)) h) Q
       | some ob,some d=>wp (Qp pf h0 C cf yf K all r (sl.put d (m.val (K.base+d) (h.stamp (K.base+d)))) (h.put (K.base+d) (h.stamp (K.base+d)) ob)) Q
       | some _,none=>False)
     (wp (Zk C cf yf all K sl h o) fun p=>ifB (!pf.free o&&(!(pf.pf&&Zs1 o.op)||Sl C sl o p.1)&&(!pf.inRd o||pf.okB h0 h sl o p.1)&&(!pf.inFl o||pf.ids.all fun u=>X4 (Xn C K sl h o) u&&Zz5 h0 h u)) (wp (Qp pf h0 C cf yf K all r (putP sl o.dst p.1) p.2) Q) False)))
   (wp (Qp pf h0 C cf yf K all r (putP sl o.dst (.tuple [])) h) Q):=by
 simp only [Qp];cases Vb all sl o with
 | none=>rfl
 | some w=>
   cases w with
   | false=>rfl
   | true=>
     simp only [Zn8,Zrv];cases Yd C sl o with
     | some v=>
       simp only [Z15];cases hs:Wt 3 v<;>simp [ifB]
     | none=>
       simp only [Zrf];cases Vx C all sl o with
       | some m=>
         simp only [Zre];cases m.obj with
         | none=>rfl
         | some ob=>cases o.dst<;>rfl
       | none=>
         simp only [Z14];cases Zk C cf yf all K sl h o with
         | none=>rfl
         | some p=>
           simp only [Zn8];cases hs:(!pf.free o&&(!(pf.pf&&Zs1 o.op)||Sl C sl o p.1)&&(!pf.inRd o||pf.okB h0 h sl o p.1)&&(!pf.inFl o||pf.ids.all fun u=>X4 (Xn C K sl h o) u&&Zz5 h0 h u))<;>simp only [Bool.false_eq_true,if_false,if_true,Zrv,Zyw,Z61]
end
attribute [simp] Wt Zs1 Sl Xh Zaa9 Md.free Md.inRd Md.inFl Md.okB Z4z Zz5 Zgb Xn X4
end Go.Pure
end
section
namespace Go.Pure
open Go
open Go.Virt (Ex Ctx Ty TK)
theorem Qi:Virt.maxLenV=1073741824:=rfl
def Acc (S:List Nat)(K:Loc)(h:PH)(g:Nat)(v:PV)(xs:List PV):Prop:=
 (xs=[]/\v=.nils)\/∃ d Zg,xs≠[]/\d∈S/\v=.own (K.base+d) Zg g 0 xs.length/\h.get (K.base+d)=some (Zg,.row g true xs)
theorem Acc.nil {S:List Nat}{K:Loc}{h:PH}{g:Nat}:Acc S K h g .nils []:=Or.inl ⟨rfl,rfl⟩
theorem Acc.inl {S:List Nat}{K:Loc}{h:PH}{g:Nat}{v:PV}{xs:List PV}(hA:Acc S K h g v xs):Xt h v=some (L g true xs):=by
 rcases hA with ⟨rfl,rfl⟩ | ⟨d,Zg,Ys,_,rfl,hg⟩
 .rfl
 .cases xs with
  | nil=>exact absurd rfl Ys
  | cons=>simp [Xt,Rv,PH.elems,PH.row,hg,L]
theorem Acc.inlT {S:List Nat}{K:Loc}{h:PH}{g:Nat}{v:PV}{xs:List PV}(hA:Acc S K h g v xs):inlT h v=Xt h v:=by
 rcases hA with ⟨rfl,rfl⟩ | ⟨d,Zg,Ys,_,rfl,hg⟩<;>rfl
theorem Acc.len {S:List Nat}{K:Loc}{h:PH}{g:Nat}{v:PV}{xs:List PV}(hA:Acc S K h g v xs):Zyt v=some xs.length:=by
 rcases hA with ⟨rfl,rfl⟩ | ⟨d,Zg,Ys,_,rfl,hg⟩<;>rfl
theorem Acc.frame {S:List Nat}{K:Loc}{h h':PH}{g:Nat}{v:PV}{xs:List PV}(hA:Acc S K h g v xs)(hf:∀ d,d∈S->h'.get (K.base+d)=h.get (K.base+d)):Acc S K h' g v xs:=by
 rcases hA with h1 | ⟨d,Zg,Ys,hd,e,hg⟩
 .exact Or.inl h1
 .exact Or.inr ⟨d,Zg,Ys,hd,e,by rw [hf d hd,hg]⟩
theorem Acc.own {S:List Nat}{K:Loc}{h:PH}{g:Nat}{v:PV}{xs:List PV}(hA:Acc S K h g v xs)(Ys:xs≠[]):∃ d Zg,d∈S/\v=.own (K.base+d) Zg g 0 xs.length/\h.get (K.base+d)=some (Zg,.row g true xs):=by
 rcases hA with ⟨e,_⟩ | h1
 .exact absurd e Ys
 .obtain ⟨d,Zg,_,h2,h3,h4⟩:=h1;exact ⟨d,Zg,h2,h3,h4⟩
theorem Acc.app {S:List Nat}{K:Loc}{h:PH}{g:Nat}{v:PV}{xs ys:List PV}{T:Ty}{dd:Nat}(hA:Acc S K h g v xs)(hd:dd∈S)(hK:K.lo=K.base)(h1:xs.length+ys.length<=1073741824)(h2:T.bytes<=65536)(h3:0 < T.size)(h4:ys≠[]):
  ∃ v' h',Xx K h dd g T ys.length ys v=some (v',h')/\Acc S K h' g v' (xs++ys)/\h'.next=h.next/\∀ j,(∀ d,d∈S->j≠K.base+d)->h'.get j=h.get j:=by
 have hl:ys.length≠0:=by
  cases ys with
  | nil=>exact absurd rfl h4
  | cons=>simp
 rcases hA with ⟨rfl,rfl⟩ | ⟨d,Zg,Ys,hdS,rfl,hg⟩
 .refine ⟨_,_,Zg0 (by omega) h2 h3 hl,Or.inr ⟨dd,h.stamp (K.base+dd),by simpa using h4,hd,by simp,by simp⟩,rfl,fun j hj=>?_⟩;simp [hj dd hd]
 .have hr:h.row (K.base+d) Zg g=some (true,xs):=by simp [PH.row,hg]
  refine ⟨_,_,((by rw [Zc7,hr];rfl:Xx K h dd g T ys.length ys (.own (K.base+d) Zg g 0 xs.length)=Z0e K h T g (K.base+d) Zg 0 xs.length ys.length ys (true,xs)).trans (Zxb h1 h2 h3 (by simp [can,hK]) rfl (by simp))),Or.inr ⟨d,Zg+1,by simp [h4],hdS,by simp,by simp⟩,rfl,fun j hj=>?_⟩;simp [hj d hdS]
theorem X1 {h:PH}:∀ {args:List PV},args.flatMap Yl=[]->Yy (Xt h) args=some args:=by
 have Zd3:∀ a,Yl a=[]->Xt h a=some a:=by
  intro a ha
  have hc:∀ cs:List PV,cs.flatMap U7=[]->Yy (Rv h) cs=some cs:=by
   intro cs
   induction cs with
   | nil=>intro _;rfl
   | cons c cs ih=>
     intro hh;rw [List.flatMap_cons,List.append_eq_nil_iff] at hh;simp only [Yy,ih hh.2];cases c<;>simp_all [U7,Rv]
  cases a with
  | agg cs=>simp only [Xt];rw [hc cs ha];rfl
  | own=>simp [Yl,U7] at ha
  | _=>rfl
 intro args
 induction args with
 | nil=>intro _;rfl
 | cons a l ih=>
   intro ho;rw [List.flatMap_cons,List.append_eq_nil_iff] at ho;simp only [Yy,Zd3 a ho.1,ih ho.2]
theorem Acc.call {C:Ctx}{S:List Nat}{K:Loc}{h:PH}{g f:Nat}{v w:PV}{xs:List PV}(hA:Acc S K h g v xs)(hK:K.lo=K.base)(Y6:C.raw f=false)(pre post:List PV)(Zu4:Xr C f (pre++L g true xs::post) w)(hw:Zc0 w=true)
  (h1:(pre++post).flatMap Yl=[]) (h2:(pre++post).flatMap (refs 3)=[]):Yv C K f (pre++v::post) h=some (w,h):=by
 rw [List.flatMap_append,List.append_eq_nil_iff] at h1 h2
 have Zo2:∀ (a b:List PV) (a' b':List PV),Yy (Xt h) a=some a'->Yy (Xt h) b=some b'->Yy (Xt h) (a++b)=some (a'++b'):=by
  intro a
  induction a with
  | nil=>intro b a' b' e1 e2;simp only [Yy,Option.some.injEq] at e1;subst e1;exact e2
  | cons x a ih=>
    intro b a' b' e1 e2;simp only [Yy] at e1;simp only [List.cons_append,Yy];split at e1
    .rename_i y ys hy hys;cases e1;rw [hy,ih b ys b' hys e2];rfl
    .cases e1
 refine Zsw Zu4 hw Y6 (Zo2 _ _ _ _ (X1 h1.1) ?_) (by cases pre<;>rfl) ?_ ?_ ?_
 .simp only [Yy,hA.inl,X1 h1.2]
 .rw [List.flatMap_append,List.flatMap_cons,h1.1,h1.2];simp
 .rw [List.flatMap_append,List.flatMap_cons,h2.1,h2.2];simp
 .rw [List.flatMap_append,List.flatMap_cons,h1.1,h1.2];rcases hA with ⟨_,rfl⟩ | ⟨d,Zg,_,_,rfl,hg⟩
  .simp
  .simp [hg,can,hK]
theorem Z7z {p:Prop}[Decidable p]{A B:Prop}{t:Tag A}{u:Tag B}(h1:p->A)(h2:¬p->B):ifB (decide p) A B t u:=by
 by_cases h:p
 .rw [decide_eq_true h];exact h1 h
 .rw [decide_eq_false h];exact h2 h
theorem Z70 {α:Type}[BEq α][LawfulBEq α]{a b:α}{A B:Prop}{t:Tag A}{u:Tag B}(h1:a=b->A)(h2:(a==b)=false->a≠b->B):ifB (a==b) A B t u:=by
 by_cases h:a=b
 .subst h;rw [BEq.rfl];exact h1 rfl
 .rw [beq_false_of_ne h];exact h2 (beq_false_of_ne h) h
theorem Z2w {p:Prop}[Decidable p]{A B:Prop}{t:Tag A}{u:Tag B}(h:p)(hA:p->A):ifB (decide p) A B t u:=by rw [decide_eq_true h];exact hA h
theorem Z2x {p:Prop}[Decidable p]{A B:Prop}{t:Tag A}{u:Tag B}(h:¬p)(hB:¬p->B):ifB (decide p) A B t u:=by rw [decide_eq_false h];exact hB h
theorem Z2y {a b:Int}{A B:Prop}{t:Tag A}{u:Tag B}(h:a=b)(hA:a=b->A):ifB (a==b) A B t u:=by subst h;rw [BEq.rfl];exact hA rfl
theorem Z2z {a b:Int}{A B:Prop}{t:Tag A}{u:Tag B}(h:a≠b)(hB:(a==b)=false->a≠b->B):ifB (a==b) A B t u:=by rw [beq_false_of_ne h];exact hB (beq_false_of_ne h) h
@[simp] theorem Zail {n i:Nat}{h:PH}:PH.stamp ⟨n,h.get⟩ i=h.stamp i:=rfl
@[simp] theorem Zagh {i j v:Nat}{o:PO}{h:PH}:PH.stamp (h.put i v o) j=if j=i then v+1 else h.stamp j:=by
 simp only [PH.stamp,PH.put];split<;>rename_i hh
 .split at hh
  .rename_i e;cases hh;simp [e]
  .rename_i e;rw [hh];simp [e]
 .split at hh
  .cases hh
  .rename_i e;rw [hh];simp [e]
theorem Zqb {n:Int}(h1 : -9223372036854775808<=n)(h2:n < 9223372036854775808):IntKind.i64.wrap n=n:=wrap_i64 h1 h2
theorem Z04 {n:Int}(h1:0<=n)(h2:n < 256):IntKind.u8.wrap n=n:=wrap_u8 h1 h2
theorem Zah3 {n:Int}(h1:0<=n)(h2:n < 18446744073709551616):IntKind.u64.wrap n=n:=Zmq h1 h2
theorem wrap32 {n:Int}(h1:0<=n)(h2:n < 4294967296):IntKind.u32.wrap n=n:=by
 simp only [IntKind.wrap,IntKind.bits,IntKind.signed,Bool.false_and,Bool.false_eq_true,if_false];omega
theorem toNat_add_nat (a b:Nat):((a:Int)+(b:Int)).toNat=a+b:=by omega
theorem Zpr (a b:Int):a+b - a=b:=by omega
theorem Z2r {a b:Int}:(if a < b then b else a)=max a b:=by omega
theorem Z2p {a b:Int}:(if a < b then a else b)=min a b:=by omega
theorem Z2q {a b:Nat}:(if a < b then (b:Int) else (a:Int))=((max a b:Nat):Int):=by omega
theorem Z2o {a b:Nat}:(if a < b then (a:Int) else (b:Int))=((min a b:Nat):Int):=by omega
theorem Zbl {l:List Nat}(h:∀ c,c∈l->c < 256):Zk.bytesP (l.map fun c:Nat=>PV.int .u8 (c:Int))=some l:=by
 induction l with
 | nil=>rfl
 | cons c l ih=>
   have h1:c < 256:=h c List.mem_cons_self;have h2:=ih fun d hd=>h d (List.mem_cons_of_mem _ hd)
   simp only [List.map_cons,Zk.bytesP,h2,Option.map_some];congr 2;omega
def Stop (P:Prop)(_t:Tag P:=⟨⟩):Prop:=P
theorem Zi7 {P:Prop}{t:Tag P}(h:P):Stop P t:=h
theorem Zi6 {C:Ctx}{K:Loc}{Xg:Bool}{A B:Code}{sl:Yo}{h:PH}{Q:Ex×Yo×PH->Prop}(hx:wp (W5 C K Xg A sl h) fun r=>match r with
  | (.normal,Yp,h')=>Stop (wp (W5 C K Xg B Yp h') Q)
  | r=>Q r):wp (W5 C K Xg (.seq A B) sl h) Q:=by
 rw [wp_seq];exact hx
theorem Z06 {C:Ctx}{K:Loc}{Xg:Bool}{A B:Code}{sl:Yo}{h:PH}{Q:Ex×Yo×PH->Prop}(R:Yo->PH->Prop)(hx:wp (W5 C K Xg A sl h) fun r=>match r with
  | (.normal,Yp,h')=>R Yp h'
  | r=>Q r) (hB:∀ sl h,R sl h->wp (W5 C K Xg B sl h) Q):wp (W5 C K Xg (.seq A B) sl h) Q:=by
 rw [wp_seq];refine wp_mono hx ?_;rintro ⟨x,Yp,h'⟩ hr;cases x with
 | normal=>exact hB _ _ hr
 | exit id=>exact hr
 | ret=>exact hr
end Go.Pure
end
section
namespace Go.Pure
open Go
open Go.Virt (Ex Ctx Ty TK)
theorem Ze:(∀ {n:Int}, -9223372036854775808<=n->n < 9223372036854775808->IntKind.i64.wrap n=n)/\(∀ {n:Int},0<=n->n < 256->IntKind.u8.wrap n=n)/\(∀ {n:Int},0<=n->n < 18446744073709551616->IntKind.u64.wrap n=n)/\(∀ {n:Int},0<=n->n < 4294967296->IntKind.u32.wrap n=n)/\(∀ a b:Nat,((a:Int)+(b:Int)).toNat=a+b)/\(∀ a b:Int,a+b - a=b)/\(∀ {a b:Int},(if a < b then b else a)=max a b)/\(∀ {a b:Int},(if a < b then a else b)=min a b)/\(∀ {a b:Nat},(if a < b then (b:Int) else (a:Int))=((max a b:Nat):Int))/\∀ {a b:Nat},(if a < b then (a:Int) else (b:Int))=((min a b:Nat):Int):=
 ⟨Zqb,Z04,Zah3,wrap32,toNat_add_nat,Zpr,Z2r,Z2p,Z2q,Z2o⟩
section
variable {A B:Prop}{t:Tag A}{u:Tag B}
theorem Z1 {a b:Int}(hA:a=b->A)(h:a=b:=by omega):ifB (a==b) A B t u:=Z2y h hA
theorem Z2 {a b:Int}(hB:(a==b)=false->a≠b->B)(h:a≠b:=by omega):ifB (a==b) A B t u:=Z2z h hB
theorem Z3 {α:Type}[BEq α][LawfulBEq α]{a b:α}(h1:a=b->A)(h2:(a==b)=false->a≠b->B):ifB (a==b) A B t u:=Z70 h1 h2
theorem Z4 {p:Prop}[Decidable p](hA:p->A)(h:p:=by omega):ifB (decide p) A B t u:=Z2w h hA
theorem Z5 {p:Prop}[Decidable p](hB:¬p->B)(h:¬p:=by omega):ifB (decide p) A B t u:=Z2x h hB
theorem Z6 {p:Prop}[Decidable p](h1:p->A)(h2:¬p->B):ifB (decide p) A B t u:=Z7z h1 h2
theorem Z7 {b:Bool}(h1:b=true->A)(h2:b=false->B):ifB b A B t u:=Znc h1 h2
end
section
variable {C:Ctx}{K:Loc}{Xg:Bool}{sl:Yo}{h:PH}{Q:Ex×Yo×PH->Prop}{id:Nat}{ops:Array Oper}
theorem Z8 (hx:wp (Qp {pf:=false,ld:=false,fr:=[]} h C (Yv C) (Tq C) K ops.toList ops.toList sl h) fun p=>Q (.normal,p.1,p.2))(hS:Zmu C {pf:=false,ld:=false,fr:=[]} ops=true:=by decide +kernel):wp (W5 C K Xg (.region id ops true) sl h) Q:=Zfi _ ⟨hS⟩ hx
theorem Z9 (hx:wp (Qp {pf:=true,ld:=false,fr:=[]} h C (Yv C) (Tq C) K ops.toList ops.toList sl h) fun p=>Q (.normal,p.1,p.2))(hS:Zmu C {pf:=true,ld:=false,fr:=[]} ops=true:=by decide +kernel):wp (W5 C K Xg (.region id ops true) sl h) Q:=Zfi _ ⟨hS⟩ hx
theorem Z0 (hx:wp (Qp {pf:=false,ld:=true,fr:=[]} h C (Yv C) (Tq C) K ops.toList ops.toList sl h) fun p=>Q (.normal,p.1,p.2))(hS:Zmu C {pf:=false,ld:=true,fr:=[]} ops=true:=by decide +kernel):wp (W5 C K Xg (.region id ops true) sl h) Q:=Zfi _ ⟨hS⟩ hx
end
end Go.Pure
end
section
namespace Go.Pure
open Go
open Go.Virt (Ex Ctx Ty TK)
theorem Acc.lenK {S:List Nat}{K:Loc}{h:PH}{g e:Nat}{v:PV}{xs:List PV}(hA:Acc S K h g v xs):Pure.lenK (.slice e) v=some (.int .i64 xs.length):=by
 rcases hA with ⟨rfl,rfl⟩ | ⟨d,Zg,Ys,_,rfl,hg⟩<;>rfl
theorem Acc.ownT {S:List Nat}{K:Loc}{h:PH}{g:Nat}{v:PV}{xs:List PV}(hA:Acc S K h g v xs):∀ x,x∈ownT v->K.base<=x:=by
 rcases hA with ⟨rfl,rfl⟩ | ⟨d,Zg,Ys,_,rfl,hg⟩
 .intro x hx;simp [Pure.ownT] at hx
 .intro x hx;simp [Pure.ownT] at hx;omega
theorem Acc.same {S:List Nat}{K:Loc}{h:PH}{g n:Nat}{v:PV}{xs:List PV}(hA:Acc S K h g v xs):Wt n v=true:=by
 rcases hA with ⟨rfl,rfl⟩ | ⟨d,Zg,Ys,_,rfl,hg⟩<;>cases n<;>rfl
theorem Acc.pos {S:List Nat}{K:Loc}{h:PH}{g k:Nat}{v:PV}{α:Type}{f:α->PV}{l:List α}(hA:Acc S K h g v (l.map f))(hk:k < l.length):∃ d Zg,d∈S/\v=.own (K.base+d) Zg g 0 l.length/\h.get (K.base+d)=some (Zg,.row g true (l.map f)):=by
 obtain ⟨d,Zg,h1,h2,h3⟩:=hA.own (by intro e;simp at e;rw [e] at hk;simp at hk);rw [List.length_map] at h2;exact ⟨d,Zg,h1,h2,h3⟩
theorem Acc.app' {S:List Nat}{K:Loc}{h:PH}{g:Nat}{v:PV}{xs ys:List PV}{T:Ty}{dd:Nat}(hA:Acc S K h g v xs)(hd:dd∈S)(hK:K.lo=K.base)(h1:xs.length+ys.length<=1073741824)(h2:T.bytes<=65536)(h3:0 < T.size):
  ∃ v' h',Xx K h dd g T ys.length ys v=some (v',h')/\Acc S K h' g v' (xs++ys)/\h'.next=h.next/\∀ j,(∀ d,d∈S->j≠K.base+d)->h'.get j=h.get j:=by
 by_cases h4:ys=[]
 .subst h4;rcases hA with ⟨rfl,rfl⟩ | ⟨d,Zg,Ys,hdS,rfl,hg⟩
  .refine ⟨.nils,h,?_,Or.inl ⟨rfl,rfl⟩,rfl,fun j hj=>rfl⟩;simp only [Xx,List.length_nil];rw [if_pos ⟨by decide,h2,h3⟩,if_pos trivial]
  .have hr:h.row (K.base+d) Zg g=some (true,xs):=by simp [PH.row,hg]
   refine ⟨_,_,((by rw [Zc7,hr];rfl:Xx K h dd g T ([]:List PV).length [] (.own (K.base+d) Zg g 0 xs.length)=Z0e K h T g (K.base+d) Zg 0 xs.length ([]:List PV).length [] (true,xs)).trans (Zxb h1 h2 h3 (by simp [can,hK]) rfl (by simp))),Or.inr ⟨d,Zg+1,by simpa using Ys,hdS,by simp,by simp⟩,rfl,fun j hj=>?_⟩;simp [hj d hdS]
 .exact hA.app hd hK h1 h2 h3 h4
end Go.Pure
end
section
namespace Go.Pure
open Go
open Go.Virt (Ex Ctx Ty TK)
theorem Ry {p:Nat}:∀ {l:List Nat} {h:PH},(∀ i∈l,i≠p)->(h.freeze l).get p=h.get p
 | [],h,_=>rfl
 | i::r,h,hp=>by
   have h1:=hp i (by simp);have h2:∀ j∈r,j≠p:=fun j hj=>hp j (by simp [hj])
   simp only [PH.freeze];split
   .rw [Ry h2];simp [PH.put,Ne.symm h1]
   .exact Ry h2
theorem Zo {C:Ctx}{K:Loc}{f p Zg off:Nat}{rest:List PV}{h:PH}{o o':PO}{ver':Nat}{fn:Func}{c:Code}{v:PV}(hF:C.F f=some fn)(hb:fn.body=some c)(Y6:C.raw f=false)(ho:rest.flatMap Yl=[])(hr:rest.flatMap (refs 3)=[])
  (Zt:can K p=true) (hlt:p < h.next) (hp:h.get p=some (Zg,o)) (hro:Yb o=[])
  (hx:wp (W5 C {base:=h.next,lo:=h.next,ok:=[p]} true c (Sh 0 (.ptr p Zg off::rest)) {h with next:=h.next+fn.ntmps}) fun r=>(r.1=.normal\/r.1=.ret)/\wp (Uq C r.2.1 r.2.2 fn.results.toList) fun vs=>
    inlT r.2.2 (Wk vs)=some v/\(ownT (Wk vs)).all (fun i=>Nat.ble h.next i)=true/\r.2.2.get p=some (ver',o')) (hv:below h.next 4 v=true) (hbo:Zs h.next o'=true):
  Yv C K f (.ptr p Zg off::rest) h=some (v,h.put p ver' o'):=by
 have hm:Yy (Xt h) (.ptr p Zg off::rest)=some (.ptr p Zg off::rest):=X1 (by simpa [Yl,U7] using ho);obtain ⟨⟨x,Yp,h2⟩,h1,h3,h4⟩:=Xm.1 hx;obtain ⟨vs,h5,h6,h7,h8⟩:=Xm.1 h4;simp only at h6 h7 h8;have hids:(PV.ptr p Zg off::rest).flatMap Yl=[]:=by simpa [Yl,U7] using ho
 have hrf:(PV.ptr p Zg off::rest).flatMap (refs 3)=[p]:=by rw [List.flatMap_cons,hr];rfl
 have hre:reach h 4 [p]=[p]:=by simp [reach,hp,hro]
 have hfz:(h2.freeze (ownT (Wk vs))).get p=some (ver',o'):=by
  rw [Ry,h8];intro i hi;have:=List.all_eq_true.1 h7 i hi;simp at this;omega
 have hs:Y3 h h2 [p] [] (Wk vs)=some (v,h.put p ver' o'):=by
  unfold Y3;rw [h6]
  have hall:(ownT (Wk vs)).all (fun i=>Nat.ble h.next i||[p].any (Nat.beq i))=true:=by
   rw [List.all_eq_true] at h7 ⊢;intro i hi;rw [h7 i hi];rfl
  simp only [hall,hv,List.all_cons,List.all_nil,Bool.and_true,Bool.true_and,PH.belowAt,hfz,hbo,if_true,Ya]
 rw [Vz];unfold callF;have W9:extP C f (.ptr p Zg off::rest)=none:=rfl;rw [W9];simp only [hF,hb,Y6,Bool.false_eq_true,if_false,hm,hids,hrf,hre,List.all_cons,List.all_nil,Bool.and_true,Zt,hp,Option.isSome_some,if_true,PH.freeze];have h1':W5 C {base:=h.next,lo:=h.next,ok:=[p]} true c (Sh 0 (.ptr p Zg off::rest)) {next:=h.next+fn.ntmps,get:=h.get}=some (x,Yp,h2):=h1;rw [h1'];simp only at h5;rcases h3 with h3 | h3<;>simp only at h3<;>subst h3<;>simp only [h5]<;>exact hs
theorem Zq4 {h:PH}{p Zg:Nat}{o:PO}(hp:h.get p=some (Zg,o)):h.put p Zg o=h:=by
 have:(h.put p Zg o).get=h.get:=by
  funext j;simp only [Zt3];split
  .rename_i e;rw [e,hp]
  .rfl
 cases h;simp only [PH.put] at this ⊢;congr 1
theorem Z7f {h:PH}{p v1 v2:Nat}{o1 o2:PO}:(h.put p v1 o1).put p v2 o2=h.put p v2 o2:=by
 simp only [PH.put];congr 1;funext j;split<;>rfl
end Go.Pure
end
section
namespace Go.Pure
open Go
open Go.Virt (Ex Ctx Ty TK)
theorem Zbi {h h3:PH}:∀ {l:List Nat},(∀ i∈l,h3.get i=h.get i)->Ya h3 l h=h
 | [],_=>rfl
 | i::r,hl=>by
   have h1:=hl i (by simp);simp only [Ya];cases hg:h3.get i with
   | none=>exact Zbi fun j hj=>hl j (by simp [hj])
   | some x=>
     obtain ⟨Zg,o⟩:=x;rw [hg] at h1;simp only;rw [Zq4 h1.symm];exact Zbi fun j hj=>hl j (by simp [hj])
theorem Vu {C:Ctx}{K:Loc}{f:Nat}{args:List PV}{h:PH}{ok:List Nat}{fn:Func}{c:Code}{v:PV}(hF:C.F f=some fn)(hb:fn.body=some c)(Y6:C.raw f=false)(Zgl:(C.ext f []).isNone=true)(ho:args.flatMap Yl=[])(hre:reach h 4 (args.flatMap (refs 3))=ok)
  (Zt:ok.all (fun i=>can K i&&(h.get i).isSome)=true) (hlt:∀ i∈ok,i < h.next) (hbo:∀ i∈ok,h.belowAt h.next i=true)
  (hx:wp (W5 C {base:=h.next,lo:=h.next,ok:=ok} true c (Sh 0 args) {h with next:=h.next+fn.ntmps}) fun r=>(r.1=.normal\/r.1=.ret)/\wp (Uq C r.2.1 r.2.2 fn.results.toList) fun vs=>
    inlT r.2.2 (Wk vs)=some v/\(ownT (Wk vs)).all (fun i=>Nat.ble h.next i)=true/\∀ i∈ok,r.2.2.get i=h.get i) (hv:below h.next 4 v=true):
  Yv C K f args h=some (v,h):=by
 have W9:=Za1 (args:=args) Zgl Y6;have hm:Yy (Xt h) args=some args:=X1 ho;obtain ⟨⟨x,Yp,h2⟩,h1,h3,h4⟩:=Xm.1 hx;obtain ⟨vs,h5,h6,h7,h8⟩:=Xm.1 h4;simp only at h6 h7 h8
 have hfz:∀ i∈ok,(h2.freeze (ownT (Wk vs))).get i=h.get i:=by
  intro i hi;rw [Ry,h8 i hi];intro j hj;have:=List.all_eq_true.1 h7 j hj;simp at this;have:=hlt i hi;omega
 have hs:Y3 h h2 ok [] (Wk vs)=some (v,h):=by
  unfold Y3;rw [h6]
  have hall:(ownT (Wk vs)).all (fun i=>Nat.ble h.next i||ok.any (Nat.beq i))=true:=by
   rw [List.all_eq_true] at h7 ⊢;intro i hi;rw [h7 i hi];rfl
  have hbl:ok.all (fun i=>(h2.freeze (ownT (Wk vs))).belowAt h.next i)=true:=by
   rw [List.all_eq_true];intro i hi;simp only [PH.belowAt,hfz i hi];exact hbo i hi
  simp only [hall,hv,hbl,List.all_nil,Bool.and_true,Bool.true_and,if_true,Zbi hfz]
 rw [Vz];unfold callF;simp only [W9,hF,hb,Y6,Bool.false_eq_true,if_false,hm,ho,hre,Zt,List.all_nil,Bool.and_true,if_true,PH.freeze];have h1':W5 C {base:=h.next,lo:=h.next,ok:=ok} true c (Sh 0 args) {next:=h.next+fn.ntmps,get:=h.get}=some (x,Yp,h2):=h1;rw [h1'];simp only at h5;rcases h3 with h3 | h3<;>simp only at h3<;>subst h3<;>simp only [h5]<;>exact hs
theorem Zfj {C:Ctx}{K:Loc}{f:Nat}{args:List PV}{h:PH}{ok:List Nat}{fn:Func}{c:Code}{R:PV->PH->Prop}(hF:C.F f=some fn)(hb:fn.body=some c)(Y6:C.raw f=false)(Zgl:(C.ext f []).isNone=true)(ho:args.flatMap Yl=[])(hre:reach h 4 (args.flatMap (refs 3))=ok)
  (Zt:ok.all (fun i=>can K i&&(h.get i).isSome)=true)
  (hx:wp (W5 C {base:=h.next,lo:=h.next,ok:=ok} true c (Sh 0 args) {h with next:=h.next+fn.ntmps}) fun r=>(r.1=.normal\/r.1=.ret)/\wp (Uq C r.2.1 r.2.2 fn.results.toList) fun vs=>
    ∃ v,inlT r.2.2 (Wk vs)=some v/\ownT (Wk vs)=[]/\below h.next 4 v=false/\Xh 5 v=false/\R v r.2.2):
  ∃ v h',Yv C K f args h=some (v,h')/\R v h':=by
 have W9:=Za1 (args:=args) Zgl Y6;have hm:Yy (Xt h) args=some args:=X1 ho;obtain ⟨⟨x,Yp,h2⟩,h1,h3,h4⟩:=Xm.1 hx;obtain ⟨vs,h5,v,h6,h7,h8,h9,h10⟩:=Xm.1 h4;simp only at h6 h7 h8 h10
 have hs:Y3 h h2 ok [] (Wk vs)=some (v,h2):=by
  unfold Y3;rw [h6];simp only [h7,h8,h9,List.all_nil,if_true,PH.freeze,Bool.false_and,Bool.false_eq_true,if_false,Bool.not_false,Bool.true_or]
 refine ⟨v,h2,?_,h10⟩;rw [Vz];unfold callF;simp only [W9,hF,hb,Y6,Bool.false_eq_true,if_false,hm,ho,hre,Zt,List.all_nil,Bool.and_true,if_true,PH.freeze];have h1':W5 C {base:=h.next,lo:=h.next,ok:=ok} true c (Sh 0 args) {next:=h.next+fn.ntmps,get:=h.get}=some (x,Yp,h2):=h1;rw [h1'];simp only at h5;rcases h3 with h3 | h3<;>simp only at h3<;>subst h3<;>simp only [h5]<;>exact hs
end Go.Pure
end
section
namespace Go.Pure
open Go
open Go.Virt (Ex Ctx Ty TK)
theorem Zn1 {C:Ctx}{K:Loc}{f:Nat}{args Zy:List PV}{h:PH}{v:PV}(hA:Xr C f Zy v)(hvb:∀ m,below m 4 v=true)(Y6:C.raw f=false)(hm:Yy (Xt h) args=some Zy)(Ys:args.isEmpty=false)
  (ho:Zy.flatMap Yl=[]) (hr:Zy.flatMap (refs 3)=[])
  (hids:(args.flatMap Yl).all (fun i=>can K i&&match h.get i with | some (_,.row g _ _)=>Yn g 14 v | _=>false)=true):Yv C K f args h=some (v,h):=by
 have hx:∀ l:List PV,l.isEmpty=false->extP C f l=none:=by
  intro l hl;unfold extP;split
  .cases hl
  .rw [Y6];rfl
  .rfl
 have Zme:Zy.isEmpty=false:=by
  cases args with
  | nil=>cases Ys
  | cons a l=>
    simp only [Yy] at hm;split at hm
    .injection hm with hm;subst hm;rfl
    .cases hm
 have hm':∀ H,Yy (Xt H) Zy=some Zy:=by
  intro H
  have Zd3:∀ a,Yl a=[]->Xt H a=some a:=by
   intro a ha
   have hc:∀ cs:List PV,cs.flatMap U7=[]->Yy (Rv H) cs=some cs:=by
    intro cs
    induction cs with
    | nil=>intro _;rfl
    | cons c cs ih=>
      intro hh;rw [List.flatMap_cons,List.append_eq_nil_iff] at hh;simp only [Yy,ih hh.2];cases c<;>simp_all [U7,Rv]
   cases a with
   | agg cs=>simp only [Xt];rw [hc cs ha];rfl
   | own=>simp [Yl,U7] at ha
   | _=>rfl
  clear hm hr Zme hA
  induction Zy with
  | nil=>rfl
  | cons a l ih=>
    rw [List.flatMap_cons,List.append_eq_nil_iff] at ho;simp only [Yy,Zd3 a ho.1,ih ho.2]
 have h0:=hA K (h.freeze (args.flatMap Yl))
 have Rc:∀ (l:List Nat) (g:PH),(g.freeze l).next=g.next:=by
  intro l
  induction l with
  | nil=>intro g;rfl
  | cons i l ih=>intro g;simp only [PH.freeze];split<;>rw [ih];rfl
 rw [Vz] at h0 ⊢;unfold callF at h0 ⊢;rw [hx _ Zme] at h0;rw [hx _ Ys];cases hF:C.F f with
 | none=>simp only [hF] at h0;cases h0
 | some fn=>
   simp only [hF] at h0 ⊢;cases hb:fn.body with
   | none=>simp only [hb] at h0;cases h0
   | some c=>
     simp only [hb,Y6,Bool.false_eq_true,if_false,hm',ho,hr,reach,List.all_nil,Bool.and_true,if_true] at h0
     have Zt:(args.flatMap Yl).all (can K)=true:=by
      rw [List.all_eq_true] at hids ⊢;intro i hi;have:=hids i hi;simp only [Bool.and_eq_true] at this;exact this.1
     simp only [Y6,Bool.false_eq_true,if_false,hm,hr,reach,List.all_nil,Bool.true_and,Zt,if_true];have e1:(PH.freeze (h.freeze (args.flatMap Yl)) [])=h.freeze (args.flatMap Yl):=rfl;rw [e1,Rc] at h0;cases hx:W5 C {base:=h.next,lo:=h.next,ok:=[]} true c (Sh 0 Zy) {h.freeze (args.flatMap Yl) with next:=h.next+fn.ntmps} with
     | none=>rw [hx] at h0;cases h0
     | some r=>
       obtain ⟨x,Yp,h2⟩:=r;rw [hx] at h0
       have key:∀ vs,Y3 (h.freeze (args.flatMap Yl)) h2 [] [] (Wk vs)=some (v,h.freeze (args.flatMap Yl))->Y3 h h2 [] (args.flatMap Yl) (Wk vs)=some (v,h):=by
        intro vs hs;unfold Y3 at hs ⊢;cases hi:inlT h2 (Wk vs) with
        | none=>rw [hi] at hs;cases hs
        | some v'=>
          rw [hi] at hs;simp only [List.any_nil,Bool.or_false,Rc,List.all_nil,Bool.and_true,Ya] at hs ⊢;by_cases ha:((ownT (Wk vs)).all fun i=>Nat.ble h.next i)=true
          .rw [if_pos ha] at hs ⊢
           have hvv:v'=v:=by
            by_cases hb:below h.next 4 v'=true
            .rw [if_pos hb] at hs;simp only [if_true,Option.some.injEq,Prod.mk.injEq] at hs;exact hs.1
            .rw [if_neg hb] at hs;split at hs
             .simp only [Option.some.injEq,Prod.mk.injEq] at hs;exact hs.1
             .cases hs
           subst hvv;rw [if_pos (hvb _),if_pos];rw [List.all_eq_true] at hids ⊢;intro i hi;have:=hids i hi;simp only [Bool.and_eq_true] at this;simp only [Bool.not_false,Bool.true_and];have h2:=this.2;split at h2
           .rename_i Zg g own xs hg;rw [hg];cases own<;>simp [h2]
           .cases h2
          .rw [if_neg ha] at hs;cases hs
       cases x with
       | exit=>simp only at h0;cases h0
       | normal=>
         simp only at h0 ⊢;cases Wd:Uq C Yp h2 fn.results.toList with
         | none=>rw [Wd] at h0;cases h0
         | some vs=>rw [Wd] at h0;exact key vs h0
       | ret=>
         simp only at h0 ⊢;cases Wd:Uq C Yp h2 fn.results.toList with
         | none=>rw [Wd] at h0;cases h0
         | some vs=>rw [Wd] at h0;exact key vs h0
theorem Acc.callT {C:Ctx}{S:List Nat}{K:Loc}{h:PH}{g f:Nat}{v w:PV}{xs:List PV}(hA:Acc S K h g v xs)(hK:K.lo=K.base)(Y6:C.raw f=false)(pre post:List PV)(Zu4:Xr C f (pre++L g true xs::post) w)(hwb:∀ m,below m 4 w=true)(hw:Yn g 14 w=true)
  (h1:(pre++post).flatMap Yl=[]) (h2:(pre++post).flatMap (refs 3)=[]):Yv C K f (pre++v::post) h=some (w,h):=by
 rw [List.flatMap_append,List.append_eq_nil_iff] at h1 h2
 have Zo2:∀ (a b:List PV) (a' b':List PV),Yy (Xt h) a=some a'->Yy (Xt h) b=some b'->Yy (Xt h) (a++b)=some (a'++b'):=by
  intro a
  induction a with
  | nil=>intro b a' b' e1 e2;simp only [Yy,Option.some.injEq] at e1;subst e1;exact e2
  | cons x a ih=>
    intro b a' b' e1 e2;simp only [Yy] at e1;simp only [List.cons_append,Yy];split at e1
    .rename_i y ys hy hys;cases e1;rw [hy,ih b ys b' hys e2];rfl
    .cases e1
 refine Zn1 Zu4 hwb Y6 (Zo2 _ _ _ _ (X1 h1.1) ?_) (by cases pre<;>rfl) ?_ ?_ ?_
 .simp only [Yy,hA.inl,X1 h1.2]
 .rw [List.flatMap_append,List.flatMap_cons,h1.1,h1.2];simp
 .rw [List.flatMap_append,List.flatMap_cons,h2.1,h2.2];simp
 .rw [List.flatMap_append,List.flatMap_cons,h1.1,h1.2];rcases hA with ⟨_,rfl⟩ | ⟨d,Zg,_,_,rfl,hg⟩
  .simp
  .simp [hg,can,hK,hw]
theorem Zt8 {g g':Nat}{xs:List PV}(hg:g'≠g)(h:∀ x∈xs,Yn g 13 x=true):Yn g 14 (.lst g' xs)=true:=by
 simp only [Yn,Bool.and_eq_true,Bool.not_eq_true',List.all_eq_true];exact ⟨by rw [<- Bool.not_eq_true,Nat.beq_eq];exact hg,h⟩
end Go.Pure
end
section
namespace Go.Pure
open Go
open Go.Virt (Ex Ctx Ty TK)
end Go.Pure
end
section
namespace Go.Pure
open Go
open Go.Virt (Ex Ctx Ty TK)
theorem Zz8 {C:Ctx}{K:Loc}{f:Nat}{args Zy:List PV}{h:PH}{v:PV}(hA:Xr C f Zy v)(hvb:∀ m,below m 4 v=true)(Y6:C.raw f=false)(hm:Yy (Xt h) args=some Zy)(Ys:args.isEmpty=false)
  (ho:Zy.flatMap Yl=[]) (hr:Zy.flatMap (refs 3)=[])
  (hids:(args.flatMap Yl).all (fun i=>can K i&&match h.get i with | some (_,.row _ _ _)=>true | _=>false)=true):Yv C K f args h=some (v,h)\/Yv C K f args h=some (v,h.freeze (args.flatMap Yl)):=by
 have hx:∀ l:List PV,l.isEmpty=false->extP C f l=none:=by
  intro l hl;unfold extP;split
  .cases hl
  .rw [Y6];rfl
  .rfl
 have Zme:Zy.isEmpty=false:=by
  cases args with
  | nil=>cases Ys
  | cons a l=>
    simp only [Yy] at hm;split at hm
    .injection hm with hm;subst hm;rfl
    .cases hm
 have hm':∀ H,Yy (Xt H) Zy=some Zy:=by
  intro H
  have Zd3:∀ a,Yl a=[]->Xt H a=some a:=by
   intro a ha
   have hc:∀ cs:List PV,cs.flatMap U7=[]->Yy (Rv H) cs=some cs:=by
    intro cs
    induction cs with
    | nil=>intro _;rfl
    | cons c cs ih=>
      intro hh;rw [List.flatMap_cons,List.append_eq_nil_iff] at hh;simp only [Yy,ih hh.2];cases c<;>simp_all [U7,Rv]
   cases a with
   | agg cs=>simp only [Xt];rw [hc cs ha];rfl
   | own=>simp [Yl,U7] at ha
   | _=>rfl
  clear hm hr Zme hA
  induction Zy with
  | nil=>rfl
  | cons a l ih=>
    rw [List.flatMap_cons,List.append_eq_nil_iff] at ho;simp only [Yy,Zd3 a ho.1,ih ho.2]
 have h0:=hA K (h.freeze (args.flatMap Yl))
 have Rc:∀ (l:List Nat) (g:PH),(g.freeze l).next=g.next:=by
  intro l
  induction l with
  | nil=>intro g;rfl
  | cons i l ih=>intro g;simp only [PH.freeze];split<;>rw [ih];rfl
 rw [Vz] at h0 ⊢;unfold callF at h0 ⊢;rw [hx _ Zme] at h0;rw [hx _ Ys];cases hF:C.F f with
 | none=>simp only [hF] at h0;cases h0
 | some fn=>
   simp only [hF] at h0 ⊢;cases hb:fn.body with
   | none=>simp only [hb] at h0;cases h0
   | some c=>
     simp only [hb,Y6,Bool.false_eq_true,if_false,hm',ho,hr,reach,List.all_nil,Bool.and_true,if_true] at h0
     have Zt:(args.flatMap Yl).all (can K)=true:=by
      rw [List.all_eq_true] at hids ⊢;intro i hi;have:=hids i hi;simp only [Bool.and_eq_true] at this;exact this.1
     simp only [Y6,Bool.false_eq_true,if_false,hm,hr,reach,List.all_nil,Bool.true_and,Zt,if_true];have e1:(PH.freeze (h.freeze (args.flatMap Yl)) [])=h.freeze (args.flatMap Yl):=rfl;rw [e1,Rc] at h0;cases hx:W5 C {base:=h.next,lo:=h.next,ok:=[]} true c (Sh 0 Zy) {h.freeze (args.flatMap Yl) with next:=h.next+fn.ntmps} with
     | none=>rw [hx] at h0;cases h0
     | some r=>
       obtain ⟨x,Yp,h2⟩:=r;rw [hx] at h0
       have key:∀ vs,Y3 (h.freeze (args.flatMap Yl)) h2 [] [] (Wk vs)=some (v,h.freeze (args.flatMap Yl))->Y3 h h2 [] (args.flatMap Yl) (Wk vs)=some (v,h)\/Y3 h h2 [] (args.flatMap Yl) (Wk vs)=some (v,h.freeze (args.flatMap Yl)):=by
        intro vs hs;unfold Y3 at hs ⊢;cases hi:inlT h2 (Wk vs) with
        | none=>rw [hi] at hs;cases hs
        | some v'=>
          rw [hi] at hs;simp only [List.any_nil,Bool.or_false,Rc,List.all_nil,Bool.and_true,Ya] at hs ⊢;by_cases ha:((ownT (Wk vs)).all fun i=>Nat.ble h.next i)=true
          .rw [if_pos ha] at hs ⊢
           have hvv:v'=v:=by
            by_cases hb:below h.next 4 v'=true
            .rw [if_pos hb] at hs;simp only [if_true,Option.some.injEq,Prod.mk.injEq] at hs;exact hs.1
            .rw [if_neg hb] at hs;split at hs
             .simp only [Option.some.injEq,Prod.mk.injEq] at hs;exact hs.1
             .cases hs
           subst hvv;rw [if_pos (hvb _)];split
           .exact .inl rfl
           .exact .inr rfl
          .rw [if_neg ha] at hs;cases hs
       cases x with
       | exit=>simp only at h0;cases h0
       | normal=>
         simp only at h0 ⊢;cases Wd:Uq C Yp h2 fn.results.toList with
         | none=>rw [Wd] at h0;cases h0
         | some vs=>rw [Wd] at h0;exact key vs h0
       | ret=>
         simp only at h0 ⊢;cases Wd:Uq C Yp h2 fn.results.toList with
         | none=>rw [Wd] at h0;cases h0
         | some vs=>rw [Wd] at h0;exact key vs h0
theorem Acc.callF {C:Ctx}{S:List Nat}{K:Loc}{h:PH}{g f:Nat}{v w:PV}{xs:List PV}(hA:Acc S K h g v xs)(hK:K.lo=K.base)(Y6:C.raw f=false)(pre post:List PV)(Zu4:Xr C f (pre++L g true xs::post) w)(hwb:∀ m,below m 4 w=true)
  (h1:(pre++post).flatMap Yl=[]) (h2:(pre++post).flatMap (refs 3)=[]):∃ h',Yv C K f (pre++v::post) h=some (w,h')/\h'.next=h.next/\∀ j,(∀ d∈S,j≠K.base+d)->h'.get j=h.get j:=by
 rw [List.flatMap_append,List.append_eq_nil_iff] at h1 h2
 have Zo2:∀ (a b:List PV) (a' b':List PV),Yy (Xt h) a=some a'->Yy (Xt h) b=some b'->Yy (Xt h) (a++b)=some (a'++b'):=by
  intro a
  induction a with
  | nil=>intro b a' b' e1 e2;simp only [Yy,Option.some.injEq] at e1;subst e1;exact e2
  | cons x a ih=>
    intro b a' b' e1 e2;simp only [Yy] at e1;simp only [List.cons_append,Yy];split at e1
    .rename_i y ys hy hys;cases e1;rw [hy,ih b ys b' hys e2];rfl
    .cases e1
 have hids:(pre++v::post).flatMap Yl=Yl v:=by
  rw [List.flatMap_append,List.flatMap_cons,h1.1,h1.2];simp
 have hfz:(h.freeze (Yl v)).next=h.next/\∀ j,(∀ d∈S,j≠K.base+d)->(h.freeze (Yl v)).get j=h.get j:=by
  rcases hA with ⟨_,rfl⟩ | ⟨d,Zg,_,hd,rfl,hg⟩
  .exact ⟨rfl,fun _ _=>rfl⟩
  .refine ⟨by simp [hg,PH.put],fun j hj=>?_⟩;simp [hg,PH.put,hj d hd]
 have key:Yv C K f (pre++v::post) h=some (w,h)\/Yv C K f (pre++v::post) h=some (w,h.freeze ((pre++v::post).flatMap Yl)):=by
  refine Zz8 Zu4 hwb Y6 (Zo2 _ _ _ _ (X1 h1.1) ?_) (by cases pre<;>rfl) ?_ ?_ ?_
  .simp only [Yy,hA.inl,X1 h1.2]
  .rw [List.flatMap_append,List.flatMap_cons,h1.1,h1.2];simp
  .rw [List.flatMap_append,List.flatMap_cons,h2.1,h2.2];simp
  .rw [List.flatMap_append,List.flatMap_cons,h1.1,h1.2];rcases hA with ⟨_,rfl⟩ | ⟨d,Zg,_,_,rfl,hg⟩
   .simp
   .simp [hg,can,hK]
 rcases key with key | key
 .exact ⟨h,key,rfl,fun _ _=>rfl⟩
 .rw [hids] at key;exact ⟨_,key,hfz.1,hfz.2⟩
end Go.Pure
end
section
namespace Go.Pure
open Go
open Go.Virt (Ex Ctx Ty TK)
theorem Zn9 {C:Ctx}{K:Loc}{f:Nat}{args:List PV}{h:PH}{fn:Func}{c:Code}{Q:PV×PH->Prop}(W9:extP C f args=none)(hF:C.F f=some fn)(hb:fn.body=some c)(Y6:C.raw f=true)
  (hx:wp (W5 C {base:=h.next,lo:=K.lo,ok:=K.ok} true c (Sh 0 args) {h with next:=h.next+fn.ntmps}) fun r=>(r.1=.normal\/r.1=.ret)/\wp (Uq C r.2.1 r.2.2 fn.results.toList) fun vs=>
    Q (Wk vs,if r.2.2.next=h.next+fn.ntmps/\Zgn r.2.2 h.next r.2.2.next=true then {r.2.2 with next:=h.next} else r.2.2)):wp (Yv C K f args h) Q:=by
 obtain ⟨⟨x,Yp,h2⟩,h1,h3,h4⟩:=Xm.1 hx;obtain ⟨vs,h5,h6⟩:=Xm.1 h4;simp only at h5 h6;rw [Vz];unfold callF;rw [W9];simp only [hF,hb,Y6,if_true];have h1':W5 C {base:=h.next,lo:=K.lo,ok:=K.ok} true c (Sh 0 args) {next:=h.next+fn.ntmps,get:=h.get}=some (x,Yp,h2):=h1;simp only at h3;rcases h3 with h3 | h3
 all_goals
  subst h3;simp only [h1',h5];split at h6
  .rename_i hc;rw [if_pos hc];exact Xm.2 ⟨_,rfl,h6⟩
  .rename_i hc;rw [if_neg hc];exact Xm.2 ⟨_,rfl,h6⟩
theorem Z05 {C:Ctx}{K:Loc}{l Zg:Nat}{args:List PV}{h:PH}{K0:Loc}{Vn:Yo}{ps:List Nat}{as bd:Code}{Q:PV×PH->Prop}(hl:h.get l=some (Zg,.loop K0 Vn ps as bd))(hlen:ps.length=args.length)(T8:Nat.ble K.lo K0.lo=true)(hok:K0.ok.all (can K)=true)
  (hx:wp (W5 C K0 false as (Zbs Vn (ps.zip args)) (h.put l Zg .gone)) fun r1=>r1.1=.normal/\wp (W5 C K0 false bd r1.2.1 r1.2.2) fun r2=>r2.1=.normal/\r2.2.2.get l=some (Zg,.gone)/\Q (.bool true,r2.2.2.put l Zg (.loop K0 Vn ps as bd))):wp (Tq C K l Zg args h) Q:=by
 obtain ⟨⟨x1,Re,h1⟩,e1,rfl,hx2⟩:=Xm.1 hx;obtain ⟨⟨x2,sl2,h2⟩,e2,rfl,hg,hq⟩:=Xm.1 hx2;simp only at e2 hg hq;refine Xm.2 ⟨_,?_,hq⟩;rw [Zxx];unfold yieldF;rw [hl];simp only;rw [if_pos ⟨trivial,hlen,T8,hok⟩,e1];simp only;rw [e2];simp only;rw [hg];simp only [if_true]
theorem Zqc {C:Ctx}{K:Loc}{f:Operand}{ps:Array Nat}{as bd:Code}{sl:Yo}{h:PH}{g:Nat}{first captured:List PV}{Q:Ex×Yo×PH->Prop}(hf:Yr sl f=some (.fn g first captured))(Y6:C.raw g=true)
  (hx:wp (Yv C K g (first++[.yield h.next 0]++captured) {h.put h.next 0 (.loop K sl ps.toList as bd) with next:=h.next+1}) fun r=>∃ K1 s1 p1 a1 b1,r.2.get h.next=some (0,.loop K1 s1 p1 a1 b1)/\Q (.normal,sl,r.2.put h.next 0 .gone)):wp (W5 C K true (.rangeFunc f ps as bd) sl h) Q:=by
 obtain ⟨⟨u,h'⟩,e1,K1,s1,p1,a1,b1,hg,hq⟩:=Xm.1 hx;refine Xm.2 ⟨_,?_,hq⟩;rw [Zzw,hf];simp only [Y6,if_true];rw [show Yv C K g (first++[.yield h.next 0]++captured) {next:=h.next+1,get:=(h.put h.next 0 (.loop K sl ps.toList as bd)).get}=some (u,h') from e1];simp only at hg;simp only [hg]
end Go.Pure
end
section
namespace Go.Pure
open Go
open Go.Virt (Ex Ctx Ty TK)
theorem Zqe {C:Ctx}{K:Loc}{f:Nat}{args:List PV}{h:PH}{p a b va vb:Nat}{oa ob:PO}{fn:Func}{c:Code}{v:PV}(hF:C.F f=some fn)(hb:fn.body=some c)(Y6:C.raw f=false)(Zgl:(C.ext f []).isNone=true)(ho:args.flatMap Yl=[])(hre:reach h 4 (args.flatMap (refs 3))=[p,a,b])
  (Zt:[p,a,b].all (fun i=>can K i&&(h.get i).isSome)=true) (hbp:h.belowAt h.next p=true)
  (hx:wp (W5 C {base:=h.next,lo:=h.next,ok:=[p,a,b]} true c (Sh 0 args) {h with next:=h.next+fn.ntmps}) fun r=>(r.1=.normal\/r.1=.ret)/\wp (Uq C r.2.1 r.2.2 fn.results.toList) fun vs=>
    inlT r.2.2 (Wk vs)=some v/\ownT (Wk vs)=[]/\r.2.2.get p=h.get p/\r.2.2.get a=some (va,oa)/\r.2.2.get b=some (vb,ob)) (hv:below h.next 4 v=true) (hba:Zs h.next oa=true) (hbb:Zs h.next ob=true):
  Yv C K f args h=some (v,(h.put a va oa).put b vb ob):=by
 have W9:=Za1 (args:=args) Zgl Y6;have hm:Yy (Xt h) args=some args:=X1 ho;obtain ⟨⟨x,Yp,h2⟩,h1,h3,h4⟩:=Xm.1 hx;obtain ⟨vs,h5,h6,h7,h8,h9,h10⟩:=Xm.1 h4;simp only at h6 h7 h8 h9 h10
 have hfo:Ya h2 [p,a,b] h=(h.put a va oa).put b vb ob:=by
  cases hp:h2.get p with
  | none=>simp only [Ya,hp,h9,h10]
  | some y=>
    obtain ⟨Zg,o⟩:=y;simp only [Ya,hp,h9,h10];rw [show h.put p Zg o=h from Zq4 (by rw [<- h8];exact hp)]
 have hs:Y3 h h2 [p,a,b] [] (Wk vs)=some (v,(h.put a va oa).put b vb ob):=by
  unfold Y3;rw [h6]
  have hbl:[p,a,b].all (fun i=>h2.belowAt h.next i)=true:=by
   simp only [List.all_cons,List.all_nil,Bool.and_true,PH.belowAt,h9,h10,hba,hbb]
   have:h2.belowAt h.next p=true:=by
    unfold PH.belowAt at hbp ⊢;rw [h8];exact hbp
   unfold PH.belowAt at this;rw [this]
  simp only [h7,List.all_nil,if_true,PH.freeze,hv,hbl,Bool.and_self,hfo]
 rw [Vz];unfold callF;simp only [W9,hF,hb,Y6,Bool.false_eq_true,if_false,hm,ho,hre,Zt,List.all_nil,Bool.and_true,if_true,PH.freeze];have h1':W5 C {base:=h.next,lo:=h.next,ok:=[p,a,b]} true c (Sh 0 args) {next:=h.next+fn.ntmps,get:=h.get}=some (x,Yp,h2):=h1;rw [h1'];simp only at h5;rcases h3 with h3 | h3<;>simp only at h3<;>subst h3<;>simp only [h5]<;>exact hs
theorem Zxz {C:Ctx}{K:Loc}{f:Nat}{x:PV}{rest:List PV}{h:PH}{p a b va vb q vq g n:Nat}{xs:List PV}{oa ob:PO}{fn:Func}{c:Code}{v:PV}(hF:C.F f=some fn)(hb:fn.body=some c)(Y6:C.raw f=false)(Zgl:(C.ext f []).isNone=true)(hox:Yl x=[])(hor:rest.flatMap Yl=[])(hre:reach h 4 ((x::.lst g xs::rest).flatMap (refs 3))=[p,a,b])
  (hq:h.get q=some (vq,.row g true xs)) (hn:n=xs.length) (hcq:can K q=true) (hqp:q≠p) (hqa:q≠a) (hqb:q≠b)
  (Zt:[p,a,b].all (fun i=>can K i&&(h.get i).isSome)=true) (hbp:h.belowAt h.next p=true)
  (hx:wp (W5 C {base:=h.next,lo:=h.next,ok:=[p,a,b]} true c (Sh 0 (x::.lst g xs::rest)) {(h.put q vq (.row g false xs)) with next:=h.next+fn.ntmps}) fun r=>(r.1=.normal\/r.1=.ret)/\wp (Uq C r.2.1 r.2.2 fn.results.toList) fun vs=>
    inlT r.2.2 (Wk vs)=some v/\ownT (Wk vs)=[]/\r.2.2.get p=h.get p/\r.2.2.get a=some (va,oa)/\r.2.2.get b=some (vb,ob)) (hv:below h.next 4 v=true) (hba:Zs h.next oa=true) (hbb:Zs h.next ob=true):
  ∃ h'' o,Yv C K f (x::.own q vq g 0 n::rest) h=some (v,h'')/\h''.get q=some (vq,.row g o xs)/\h''.next=h.next:=by
 have W9:=Za1 (args:=x::.own q vq g 0 n::rest) Zgl Y6;have hmx:Yy (Xt h) [x]=some [x]:=X1 (by simpa using hox);have hmr:Yy (Xt h) rest=some rest:=X1 hor
 have hix:Xt h x=some x:=by
  simp only [Yy] at hmx;cases e:Xt h x with
  | none=>rw [e] at hmx;cases hmx
  | some y=>rw [e] at hmx;simp at hmx;rw [hmx]
 have hm:Yy (Xt h) (x::.own q vq g 0 n::rest)=some (x::.lst g xs::rest):=by
  simp [hix,hmr,hq,hn]
 have hids:(x::PV.own q vq g 0 n::rest).flatMap Yl=[q]:=by
  rw [List.flatMap_cons,List.flatMap_cons,hox,hor];simp
 obtain ⟨⟨y,Yp,h2⟩,h1,h3,h4⟩:=Xm.1 hx;obtain ⟨vs,h5,h6,h7,h8,h9,h10⟩:=Xm.1 h4;simp only at h6 h7 h8 h9 h10
 have hgo:∀ hb:PH,hb.next=h.next->hb.get q=some (vq,.row g true xs)\/hb.get q=some (vq,.row g false xs)->∃ o,(Ya h2 [p,a,b] hb).get q=some (vq,.row g o xs)/\(Ya h2 [p,a,b] hb).next=h.next:=by
  intro hb hbn hbq;have Zho:∀ (z:PH) i w o,q≠i->(z.put i w o).get q=z.get q/\(z.put i w o).next=z.next:=fun z i w o hi=>⟨by simp [hi],rfl⟩
  have key:(Ya h2 [p,a,b] hb).get q=hb.get q/\(Ya h2 [p,a,b] hb).next=hb.next:=by
   cases hp:h2.get p with
   | none=>
     simp only [Ya,hp,h9,h10];rw [(Zho _ b vb ob hqb).1,(Zho _ a va oa hqa).1];exact ⟨rfl,rfl⟩
   | some z=>
     obtain ⟨Zg,o⟩:=z;simp only [Ya,hp,h9,h10];rw [(Zho _ b vb ob hqb).1,(Zho _ a va oa hqa).1,(Zho _ p Zg o hqp).1];exact ⟨rfl,rfl⟩
  rw [key.1,key.2,hbn];rcases hbq with e | e<;>exact ⟨_,e,rfl⟩
 have hfz:h.freeze [q]=h.put q vq (.row g false xs):=by simp [hq]
 have hs:∃ h'' o,Y3 h h2 [p,a,b] [q] (Wk vs)=some (v,h'')/\h''.get q=some (vq,.row g o xs)/\h''.next=h.next:=by
  unfold Y3;rw [h6]
  have hbl:[p,a,b].all (fun i=>h2.belowAt h.next i)=true:=by
   simp only [List.all_cons,List.all_nil,Bool.and_true,PH.belowAt,h9,h10,hba,hbb]
   have:h2.belowAt h.next p=true:=by
    unfold PH.belowAt at hbp ⊢;rw [h8];exact hbp
   unfold PH.belowAt at this;rw [this]
  simp only [h7,List.all_nil,if_true,hv,Bool.true_and];have hbl':[p,a,b].all (fun i=>(h2.freeze []).belowAt h.next i)=true:=hbl;rw [if_pos hbl'];split
  .obtain ⟨o,e1,e2⟩:=hgo h rfl (.inl hq);exact ⟨_,o,rfl,e1,e2⟩
  .obtain ⟨o,e1,e2⟩:=hgo (h.freeze [q]) (by rw [hfz];rfl) (.inr (by rw [hfz];simp));exact ⟨_,o,rfl,e1,e2⟩
 obtain ⟨h'',o,e0,e1,e2⟩:=hs;refine ⟨h'',o,?_,e1,e2⟩;rw [Vz];unfold callF;have hcq':[q].all (can K)=true:=by simp only [List.all_cons,List.all_nil,hcq,Bool.and_self]
 simp only [W9,hF,hb,Y6,Bool.false_eq_true,if_false,hm,hids,hre,Zt,hcq',Bool.and_self,if_true,hfz];have h1':W5 C {base:=h.next,lo:=h.next,ok:=[p,a,b]} true c (Sh 0 (x::.lst g xs::rest)) {next:=h.next+fn.ntmps,get:=(h.put q vq (.row g false xs)).get}=some (y,Yp,h2):=h1;rw [h1'];simp only at h5;rcases h3 with h3 | h3<;>simp only at h3<;>subst h3<;>simp only [h5]<;>exact e0
end Go.Pure
end
