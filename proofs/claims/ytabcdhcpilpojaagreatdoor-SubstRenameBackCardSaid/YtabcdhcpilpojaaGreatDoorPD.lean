/- Plain runs by rewriting. -/
import Derived.Test.YtabcdhcpilpojaaGreatDoorPE
set_option linter.unusedSimpArgs false
set_option linter.unusedVariables false
section
namespace Go.Pure
open Go
open Go.Virt (Ex Ctx Ty TK maxLenV Zw)
structure Tag {α:Type} (a:α):Type where
def wp {α:Type} (x:Option α) (Q:α->Prop) (_t:Tag Q:=⟨⟩):Prop:=match x with | some a=>Q a | none=>False
@[simp] theorem Znj {α:Type} {a:α} {Q:α->Prop} {t:Tag Q}:wp (some a) Q t=Q a:=rfl
@[simp] theorem Z5m {α:Type} {Q:α->Prop} {t:Tag Q}:wp (none:Option α) Q t=False:=rfl
theorem wp_mono {α:Type} {x:Option α} {Q R:α->Prop} (h:wp x Q) (hq:∀ a,Q a->R a):wp x R:=by
 cases x with
 | none=>exact h
 | some a=>exact hq a h
theorem Xq {α:Type} {x:Option α} {Q:α->Prop}:wp x Q↔∃ a,x=some a/\Q a:=by
 cases x with
 | none=>simp
 | some a=>simp
def bO {α β:Type} (x:Option α) (f:α->Option β) (_t:Tag f:=⟨⟩):Option β:=match x with | some a=>f a | none=>none
@[simp] theorem Xf {α β:Type} {a:α} {f:α->Option β} {t:Tag f}:bO (some a) f t=f a:=rfl
@[simp] theorem Zv7 {α β:Type} {f:α->Option β} {t:Tag f}:bO none f t=none:=rfl
@[simp] theorem Zaqw {α β:Type} {x:Option α} {f:α->Option β} {t:Tag f} {Q:β->Prop} {u:Tag Q}:wp (bO x f t) Q u=wp x fun a=>wp (f a) Q:=by cases x<;>rfl
@[simp] theorem wp_map {α β:Type} {x:Option α} {f:α->β} {Q:β->Prop} {u:Tag Q}:wp (x.map f) Q u=wp x fun a=>Q (f a):=by cases x<;>rfl
@[simp] theorem wp_bind {α β:Type} {x:Option α} {f:α->Option β} {Q:β->Prop} {u:Tag Q}:wp (x.bind f) Q u=wp x fun a=>wp (f a) Q:=by cases x<;>rfl
def ifB (b:Bool) (A B:Prop) (_t:Tag A:=⟨⟩) (_u:Tag B:=⟨⟩):Prop:=if b=true then A else B
@[simp] theorem Zq6 {A B:Prop} {t:Tag A} {u:Tag B}:ifB true A B t u=A:=rfl
@[simp] theorem Zxr {A B:Prop} {t:Tag A} {u:Tag B}:ifB false A B t u=B:=rfl
theorem Zmm {b:Bool} {A B:Prop} {t:Tag A} {u:Tag B} (h1:b=true->A) (h2:b=false->B):ifB b A B t u:=by
 cases b with
 | true=>exact h1 rfl
 | false=>exact h2 rfl
@[simp] theorem Zaln {b:Bool} {A B:Prop} {t:Tag A} {u:Tag B}:ifB (!b) A B t u=ifB b B A u t:=by cases b<;>rfl
@[simp] theorem put_get (sl:Yn) (d t:Nat) (v:PV):(sl.put d v) t=if t=d then some v else sl t:=rfl
@[simp] theorem Zagg (args:List PV) (t:Nat):Sb 0 args t=args[t]?:=by simp [Sb]
@[simp] theorem Zafb (sl Yo:Yn) (t:Nat):Zbl sl Yo t=bO (sl t) fun _=>Yo t:=by unfold Zbl bO;cases sl t<;>rfl
@[simp] theorem Zs6 (h:PH) (i Zg:Nat) (o:PO) (j:Nat):(h.put i Zg o).get j=if j=i then some (Zg,o) else h.get j:=rfl
@[simp] theorem Z9m (h:PH) (i Zg:Nat) (o:PO):(h.put i Zg o).next=h.next:=rfl
@[simp] theorem Zaew {sl:Yn} {n:Nat} {v:PV}:putP sl (some n) v=sl.put n v:=rfl
@[simp] theorem Zaex {sl:Yn} {v:PV}:putP sl none v=sl:=rfl
@[simp] theorem Zahe {sl:Yn} {t:Nat}:Yq sl (.tmp t)=sl t:=rfl
@[simp] theorem Zae4 {sl:Yn} {f:Nat}:Yq sl (.func f)=some (.fn f [] []):=rfl
@[simp] theorem Zahg {sl:Yn} {k:IntKind} {n:Int}:Yq sl (.const (.int k n))=some (.int k n):=rfl
@[simp] theorem Zae5 {sl:Yn} {b:Bool}:Yq sl (.const (.bool b))=some (.bool b):=rfl
@[simp] theorem Zahf {sl:Yn} {b:ByteArray}:Yq sl (.const (.string b))=some (.str (b.data.toList.map UInt8.toNat)):=rfl
@[simp] theorem Zaez {sl:Yn}:Yq sl (.const (.slice none 0 0))=some .nils:=rfl
@[simp] theorem Zae0 {sl:Yn}:Yq sl (.const (.pointer none))=some .nilp:=rfl
@[simp] theorem Zae1 {sl:Yn}:Yq sl (.const (.map none))=some .nilm:=rfl
@[simp] theorem Zae3 {sl:Yn}:Yq sl (.const .nilFunc)=some .nilf:=rfl
@[simp] theorem Zae2 {sl:Yn}:Yq sl (.const .nilIface)=some .nili:=rfl
@[simp] theorem Zahh {sl:Yn} {cs:Array Value}:Yq sl (.const (.agg cs))=(Zs.go 2 cs.toList).map .agg:=rfl
@[simp] theorem Zaqg {n:Nat}:Zs.go n []=some []:=by simp only [Zs.go]
@[simp] theorem Zamm {n:Nat} {v:Value} {r:List Value}:Zs.go n (v::r)=bO (Zs n v) fun p=>bO (Zs.go n r) fun ps=>some (p::ps):=by
 simp only [Zs.go]
 cases Zs n v<;>cases Zs.go n r<;>rfl
@[simp] theorem Zam4 {n:Nat} {k:IntKind} {i:Int}:Zs n (.int k i)=some (.int k i):=by cases n<;>rfl
@[simp] theorem Zali {n:Nat} {b:Bool}:Zs n (.bool b)=some (.bool b):=by cases n<;>rfl
@[simp] theorem Zam3 {n:Nat} {b:ByteArray}:Zs n (.string b)=some (.str (b.data.toList.map UInt8.toNat)):=by cases n<;>rfl
@[simp] theorem Zald {n:Nat}:Zs n (.slice none 0 0)=some .nils:=by cases n<;>rfl
@[simp] theorem Zale {n:Nat}:Zs n (.pointer none)=some .nilp:=by cases n<;>rfl
@[simp] theorem Zalf {n:Nat}:Zs n (.map none)=some .nilm:=by cases n<;>rfl
@[simp] theorem Zalh {n:Nat}:Zs n .nilFunc=some .nilf:=by cases n<;>rfl
@[simp] theorem Zalg {n:Nat}:Zs n .nilIface=some .nili:=by cases n<;>rfl
@[simp] theorem Zabe {l:List Value}:Qs l=Zs.go 0 l:=rfl
@[simp] theorem Zg2 {sl:Yn}:Wk sl []=some []:=rfl
@[simp] theorem R6 {sl:Yn} {x:Operand} {r:List Operand}:Wk sl (x::r)=bO (Yq sl x) fun v=>bO (Wk sl r) fun vs=>some (v::vs):=by
 simp only [Wk]
 cases Yq sl x<;>cases Wk sl r<;>rfl
@[simp] theorem Zabf {sl:Yn}:Ub sl []=some []:=rfl
@[simp] theorem Zhu {sl:Yn} {i:Nat} {x:Operand} {r:List (Nat×Operand)}:Ub sl ((i,x)::r)=bO (Yq sl x) fun v=>bO (Ub sl r) fun vs=>some ((i,v)::vs):=by
 simp only [Ub]
 cases Yq sl x<;>cases Ub sl r<;>rfl
section
variable {C:Ctx} {K:Loc} {Xc:Bool} {sl:Yn} {h:PH} {Q:Ex×Yn×PH->Prop}
@[simp] theorem wp_seq {a b:Code}:wp (W2 C K Xc (.seq a b) sl h) Q=wp (W2 C K Xc a sl h) fun r=>match r with
  | (.normal,sl,h)=>wp (W2 C K Xc b sl h) Q
  | r=>Q r:=by
 rw [Z7k]
 cases W2 C K Xc a sl h with
 | none=>rfl
 | some r=>
   obtain ⟨x,Yo,h'⟩:=r
   cases x<;>rfl
@[simp] theorem wp_cond {c:Operand} {a b:Code}:wp (W2 C K Xc (.cond c a b) sl h) Q=wp (Yq sl c) fun v=>match v with
  | .bool x=>ifB x (wp (W2 C K Xc a sl h) Q) (wp (W2 C K Xc b sl h) Q)
  | _=>False:=by
 rw [Z3g]
 cases Yq sl c with
 | none=>rfl
 | some v=>
   cases v with
   | bool x=>cases x<;>rfl
   | _=>rfl
@[simp] theorem wp_block {id:Nat} {b:Code}:wp (W2 C K Xc (.block id b) sl h) Q=wp (W2 C K Xc b sl h) fun r=>match r with
  | (.exit id',sl,h)=>if id'=id then Q (.normal,sl,h) else Q (.exit id',sl,h)
  | r=>Q r:=by
 rw [Zyt]
 cases W2 C K Xc b sl h with
 | none=>rfl
 | some r=>
   obtain ⟨x,Yo,h'⟩:=r
   cases x with
   | exit id'=>simp only [Z30,Znj];split<;>rfl
   | _=>rfl
theorem wp_loop {b:Code}:wp (W2 C K Xc (.loop b) sl h) Q=wp (W2 C K Xc b sl h) fun r=>match r with
  | (.normal,Yo,h')=>wp (W2 C K Xc (.loop b) (Zbl sl Yo) h') Q
  | r=>Q r:=by
 rw [Z3d]
 cases W2 C K Xc b sl h with
 | none=>rfl
 | some r=>
   obtain ⟨x,Yo,h'⟩:=r
   cases x<;>rfl
@[simp] theorem wp_skip {t0:Tag Q}:wp (W2 C K Xc .skip sl h) Q t0=Q (.normal,sl,h):=by rw [Z3c];rfl
@[simp] theorem wp_exit {id:Nat}:wp (W2 C K Xc (.exit id) sl h) Q=Q (.exit id,sl,h):=by rw [Z3e];rfl
@[simp] theorem wp_ret {t0:Tag Q}:wp (W2 C K Xc .ret sl h) Q t0=Q (.ret,sl,h):=by rw [Z7l];rfl
@[simp] theorem wp_region {id:Nat} {ops:Array Oper}:wp (W2 C K Xc (.region id ops false) sl h) Q=wp (Qg C (Yu C) (Tl C) K ops.toList ops.toList sl h) fun p=>Q (.normal,p.1,p.2):=by
 rw [Zue,wp_map]
end
section
variable {C:Ctx} {cf:CF} {yf:YF} {K:Loc} {all:List Oper} {sl:Yn} {h:PH} {d:Option Nat} {t:TypeId} {pos:String} {af:Array Edge} {gd:Option (Nat×Bool)}
@[simp] theorem Zaay {Q:Yn×PH->Prop}:wp (Qg C cf yf K all [] sl h) Q=Q (sl,h):=rfl
@[simp] theorem Z89 {o:Oper} {r:List Oper} {Q:Yn×PH->Prop}:wp (Qg C cf yf K all (o::r) sl h) Q =
  wp (W9 all sl o) fun w=>ifB w (wp (opP C cf yf all K sl h o) fun p=>wp (Qg C cf yf K all r (putP sl o.dst p.1) p.2) Q) (wp (Qg C cf yf K all r (putP sl o.dst (.tuple [])) h) Q):=by
 simp only [Qg]
 cases W9 all sl o with
 | none=>rfl
 | some w=>
   cases w with
   | true=>cases opP C cf yf all K sl h o<;>rfl
   | false=>rfl
@[simp] theorem Z9c {op:Op}:W9 all sl ⟨d,op,t,pos,af,none⟩=some true:=rfl
@[simp] theorem Z9b {op:Op} {j:Nat} {want:Bool}:W9 all sl ⟨d,op,t,pos,af,some (j,want)⟩=(match (all[j]?).bind (·.dst) with
  | some d=>bO (sl d) fun v=>match v with | .bool b=>some (b==want) | _=>some false
  | none=>some false):=by
 simp only [W9]
 cases hb:(all[j]?).bind (·.dst) with
 | none=>rfl
 | some d=>
   simp only
   cases hs:sl d with
   | none=>rfl
   | some v=>cases v<;>rfl
end
attribute [simp low] Yb.eq_1 Vu.eq_1 Zj.eq_1
section
variable {C:Ctx} {op:BinOp} {t:Nat}
@[simp] theorem Zaky {k k':IntKind} {a b:Int}:Zaw C op t (.int k a) (.int k' b)=Sc op k k' a b:=rfl
@[simp] theorem Zakx {a b:List Nat}:Zaw C op t (.str a) (.str b)=Zlf op a b:=rfl
@[simp] theorem Z5g {a b:Bool}:Zaw C .eql t (.bool a) (.bool b)=(eqP C t (.bool a) (.bool b)).map .bool:=rfl
@[simp] theorem Z5d {a b:Bool}:Zaw C .neq t (.bool a) (.bool b)=(eqP C t (.bool a) (.bool b)).map fun b=>.bool (!b):=rfl
@[simp] theorem Z5f {y:PV}:Zaw C .eql t .nilp y=(eqP C t .nilp y).map .bool:=rfl
@[simp] theorem Z5c {y:PV}:Zaw C .neq t .nilp y=(eqP C t .nilp y).map fun b=>.bool (!b):=rfl
@[simp] theorem Z7y {i v o:Nat} {y:PV}:Zaw C .eql t (.ptr i v o) y=(eqP C t (.ptr i v o) y).map .bool:=rfl
@[simp] theorem Z7v {i v o:Nat} {y:PV}:Zaw C .neq t (.ptr i v o) y=(eqP C t (.ptr i v o) y).map fun b=>.bool (!b):=rfl
@[simp] theorem Z5e {cs:List PV} {y:PV}:Zaw C .eql t (.rptr cs) y=(eqP C t (.rptr cs) y).map .bool:=rfl
@[simp] theorem Z5a {cs:List PV} {y:PV}:Zaw C .neq t (.rptr cs) y=(eqP C t (.rptr cs) y).map fun b=>.bool (!b):=rfl
@[simp] theorem Zlv {y:PV}:Zaw C .eql t .nils y=(eqP C t .nils y).map .bool:=rfl
@[simp] theorem Z5b {y:PV}:Zaw C .neq t .nils y=(eqP C t .nils y).map fun b=>.bool (!b):=rfl
@[simp] theorem Zos {g:Nat} {xs:List PV} {y:PV}:Zaw C .eql t (.lst g xs) y=(eqP C t (.lst g xs) y).map .bool:=rfl
@[simp] theorem Z7x {g:Nat} {xs:List PV} {y:PV}:Zaw C .neq t (.lst g xs) y=(eqP C t (.lst g xs) y).map fun b=>.bool (!b):=rfl
@[simp] theorem Z7z {i v g o n:Nat} {y:PV}:Zaw C .eql t (.own i v g o n) y=(eqP C t (.own i v g o n) y).map .bool:=rfl
@[simp] theorem Z7w {i v g o n:Nat} {y:PV}:Zaw C .neq t (.own i v g o n) y=(eqP C t (.own i v g o n) y).map fun b=>.bool (!b):=rfl
end
attribute [simp] Mk.obj Mk.val toP Go.Virt.TK.agg Vd V4 Za6 Vs Zn1 Zie unP
attribute [simp] cellsOf.eq_1 cellsOf.eq_2 Wg.eq_1 Wg.eq_2 Wg.eq_3 Zxo.eq_1 Zxo.eq_2 Zxo.eq_3 Zxo.eq_4 Zxo.eq_5
@[simp] theorem Zaha {cs:List PV} {off n:Nat}:Xh cs off n=if off+n<=cs.length then some ((cs.drop off).take n) else none:=rfl
@[simp] theorem Zagh {ty:Ty}:Ql ty=(Qs ty.zero).bind (toP ty.k.agg):=rfl
def opF (x:Option PV) (Q:PV->Prop) (R:Prop) (_t:Tag Q:=⟨⟩) (_u:Tag R:=⟨⟩):Prop:=match x with | some v=>Q v | none=>R
@[simp] theorem Z0v {v:PV} {Q:PV->Prop} {R:Prop} {t:Tag Q} {u:Tag R}:opF (some v) Q R t u=Q v:=rfl
@[simp] theorem Zqp {Q:PV->Prop} {R:Prop} {t:Tag Q} {u:Tag R}:opF none Q R t u=R:=rfl
def opM (x:Option Mk) (Q:Mk->Prop) (R:Prop) (_t:Tag Q:=⟨⟩) (_u:Tag R:=⟨⟩):Prop:=match x with | some v=>Q v | none=>R
@[simp] theorem Zqo {v:Mk} {Q:Mk->Prop} {R:Prop} {t:Tag Q} {u:Tag R}:opM (some v) Q R t u=Q v:=rfl
@[simp] theorem Z0u {Q:Mk->Prop} {R:Prop} {t:Tag Q} {u:Tag R}:opM none Q R t u=R:=rfl
section
variable {C:Ctx} {cf:CF} {yf:YF} {K:Loc} {all:List Oper} {sl:Yn} {h:PH} {o:Oper}
@[simp] theorem Zaqv {Q:PV×PH->Prop}:wp (opP C cf yf all K sl h o) Q=opF (Yb C sl o) (fun v=>Q (v,h)) (opM (Vu C all sl o)
   (fun m=>match m.obj,o.dst with
     | none,_=>Q (m.val 0 0,h)
     | some ob,some d=>Q (m.val (K.base+d) (h.stamp (K.base+d)),h.put (K.base+d) (h.stamp (K.base+d)) ob)
     | some _,none=>False)
   (wp (Zj C cf yf all K sl h o) Q)):=by
 unfold opP
 cases Yb C sl o with
 | some v=>rfl
 | none=>
   cases Vu C all sl o with
   | none=>rfl
   | some m=>
     simp only [Zqp,Zqo]
     cases m.obj with
     | none=>rfl
     | some ob=>cases o.dst<;>rfl
end
section
variable {C:Ctx} {sl:Yn} {h:PH}
@[simp] theorem Zag8:Uk C sl h []=some []:=rfl
@[simp] theorem Zag7 {t:Nat} {r:List ResultVar}:Uk C sl h (.tmp t::r)=bO (sl t) fun v=>bO (Uk C sl h r) fun vs=>some (v::vs):=by
 simp only [Uk]
 cases sl t<;>cases Uk C sl h r<;>rfl
attribute [simp] inlT.eq_1 inlT.eq_2 Xo.eq_1 Xo.eq_2 Rl.eq_1 Rl.eq_2 ownT.eq_1 ownT.eq_2 Yi.eq_1 Yi.eq_2 U1.eq_1 U1.eq_2 Wh Yw refs below extP plain Zm5 PH.elems PH.row PH.freeze can Ztm Zj.bytesP
@[simp] theorem Zae6 {α β:Type} {f:α->Option β} {x:α} {r:List α}:Yw f (x::r)=bO (f x) fun y=>bO (Yw f r) fun ys=>some (y::ys):=by
 simp only [Yw]
 cases f x<;>cases Yw f r<;>rfl
end
section
variable {sl:Yn}
attribute [simp] Tt
end
@[simp] theorem Zabt {t:Nat}:Virt.litNil (.tmp t)=false:=rfl
@[simp] theorem Z4r {t:Nat}:Virt.litNil (.global t)=false:=rfl
@[simp] theorem Z9p {t:Nat}:Virt.litNil (.func t)=false:=rfl
@[simp] theorem Z9q {b:Bool}:Virt.litNil (.const (.bool b))=false:=rfl
@[simp] theorem Zaby {k:IntKind} {n:Int}:Virt.litNil (.const (.int k n))=false:=rfl
@[simp] theorem Zabu {b:ByteArray}:Virt.litNil (.const (.string b))=false:=rfl
@[simp] theorem Zabv {a:Option Addr}:Virt.litNil (.const (.pointer a))=false:=rfl
@[simp] theorem Z6i {a:Option Addr} {n m:Nat}:Virt.litNil (.const (.slice a n m))=false:=rfl
@[simp] theorem Zabx {a:Option Nat}:Virt.litNil (.const (.map a))=false:=rfl
@[simp] theorem Z09:Virt.litNil (.const .nilFunc)=false:=rfl
@[simp] theorem Zabw:Virt.litNil (.const .nilIface)=true:=rfl
attribute [simp] Zqu Virt.ifaceK
theorem Zas {C:Ctx} {f:Nat} {args:List PV} (W7:(C.ext f []).isNone=true) (Y5:C.raw f=false):extP C f args=none:=by
 unfold extP
 split
 .cases e:C.ext f [] with
  | none=>rfl
  | some v=>rw [e] at W7;cases W7
 .rw [Y5];rfl
 .rfl
theorem Zh {C:Ctx} {K:Loc} {f:Nat} {args:List PV} {h:PH} {fn:Func} {c:Code} {v:PV} (Zf7:(C.ext f []).isNone=true) (hF:C.F f=some fn) (hb:fn.body=some c) (Y5:C.raw f=false) (ho:args.flatMap Yi=[]) (hr:args.flatMap (refs 3)=[])
  (hx:wp (W2 C {base:=h.next,lo:=h.next,ok:=[]} true c (Sb 0 args) {h with next:=h.next+fn.ntmps}) fun r=>(r.1=.normal\/r.1=.ret)/\wp (Uk C r.2.1 r.2.2 fn.results.toList) fun vs=>
    inlT r.2.2 (Wh vs)=some v/\(ownT (Wh vs)).all (fun i=>Nat.ble h.next i)=true) (hv:below h.next 4 v=true):Yu C K f args h=some (v,h):=by
 have W7:=Zas (args:=args) Zf7 Y5
 have hm:Yw (Xo h) args=some args:=by
  have Zdn:∀ a,Yi a=[]->Xo h a=some a:=by
   intro a ha
   have hc:∀ cs:List PV,cs.flatMap U1=[]->Yw (Rl h) cs=some cs:=by
    intro cs
    induction cs with
    | nil=>intro _;rfl
    | cons c cs ih=>
      intro hh
      rw [List.flatMap_cons,List.append_eq_nil_iff] at hh
      simp only [Yw,ih hh.2]
      cases c<;>simp_all [U1,Rl]
   cases a with
   | agg cs=>simp only [Xo];rw [hc cs ha];rfl
   | own=>simp [Yi,U1] at ha
   | _=>rfl
  clear W7 hx hr
  induction args with
  | nil=>rfl
  | cons a l ih=>
    rw [List.flatMap_cons,List.append_eq_nil_iff] at ho
    simp only [Yw,Zdn a ho.1,ih ho.2]
 obtain ⟨⟨x,Yo,h2⟩,h1,h3,h4⟩:=Xq.1 hx
 obtain ⟨vs,h5,h6,h7⟩:=Xq.1 h4
 have hs:Y2 h h2 [] [] (Wh vs)=some (v,h):=by
  unfold Y2
  simp only at h6
  rw [h6]
  simp only [List.any_nil,Bool.or_false,h7,hv,List.all_nil,Bool.and_true,if_true,Zz]
 rw [Vw]
 unfold callF
 rw [W7]
 simp only [hF,hb,Y5,Bool.false_eq_true,if_false,hm,ho,hr,reach,List.all_nil,Bool.and_true,if_true,PH.freeze]
 have h1':W2 C {base:=h.next,lo:=h.next,ok:=[]} true c (Sb 0 args) {next:=h.next+fn.ntmps,get:=h.get}=some (x,Yo,h2):=h1
 rw [h1']
 simp only at h5
 rcases h3 with h3 | h3<;>simp only at h3<;>subst h3<;>simp only [h5]<;>exact hs
end Go.Pure
end
section
namespace Go.Pure
open Go
open Go.Virt (Ex Ctx Ty TK)
theorem Zpp {C:Ctx} {K:Loc} {Xc:Bool} {b:Code} {Q:Ex×Yn×PH->Prop} (I:Nat->Yn->PH->Prop)
  (step:∀ n sl h,I n sl h->wp (W2 C K Xc b sl h) fun r=>match r with | (.normal,Yo,h')=>∃ m,m < n/\I m (Zbl sl Yo) h' | r=>Q r):
  ∀ n sl h,I n sl h->wp (W2 C K Xc (.loop b) sl h) Q:=by
 intro n
 induction n using Nat.strongRecOn with
 | _ n ih=>
   intro sl h hi
   rw [wp_loop]
   refine wp_mono (step n sl h hi) ?_
   rintro ⟨x,Yo,h'⟩ hq
   cases x with
   | normal=>obtain ⟨m,hm,hI⟩:=hq;exact ih m hm _ _ hI
   | exit id=>exact hq
   | ret=>exact hq
structure Hide (p:Prop):Prop where
 get:p
theorem wrap_i64 {n:Int} (h1 : -9223372036854775808<=n) (h2:n < 9223372036854775808):IntKind.i64.wrap n=n:=by
 simp only [IntKind.wrap,IntKind.bits,IntKind.signed,Bool.true_and,decide_eq_true_eq,ge_iff_le]
 split<;>omega
theorem wrap_u8 {n:Int} (h1:0<=n) (h2:n < 256):IntKind.u8.wrap n=n:=by
 simp only [IntKind.wrap,IntKind.bits,IntKind.signed,Bool.false_and,Bool.false_eq_true,if_false]
 omega
theorem wrap_u64 {n:Int}:0<=IntKind.u64.wrap n/\IntKind.u64.wrap n < 18446744073709551616:=by
 simp only [IntKind.wrap,IntKind.bits,IntKind.signed,Bool.false_and,Bool.false_eq_true,if_false]
 omega
theorem Zly {n:Int} (h1:0<=n) (h2:n < 18446744073709551616):IntKind.u64.wrap n=n:=by
 simp only [IntKind.wrap,IntKind.bits,IntKind.signed,Bool.false_and,Bool.false_eq_true,if_false]
 omega
def Zm3:PV->Bool
 | .bool _ | .int _ _ | .str _ | .nilp | .nils | .nilm | .nilf | .nili=>true
 | _=>false
abbrev Xy (C:Ctx) (f:Nat) (args:List PV) (v:PV):Prop:=∀ K H,Yu C K f args H=some (v,H)
theorem Zua {v:PV} (h:Zm3 v=true) (m n:Nat):below m n v=true:=by
 cases v<;>simp_all [Zm3]<;>cases n<;>rfl
theorem Zt9 {v:PV} (h:Zm3 v=true) (m:Nat) (n:Nat):Ym m n v=true:=by
 cases v<;>simp_all [Zm3]<;>cases n<;>rfl
theorem Z3p {C:Ctx} {K:Loc} {f:Nat} {args Zx:List PV} {h:PH} {v:PV} (hA:Xy C f Zx v) (hv:Zm3 v=true) (Y5:C.raw f=false) (hm:Yw (Xo h) args=some Zx) (Ys:args.isEmpty=false)
  (ho:Zx.flatMap Yi=[]) (hr:Zx.flatMap (refs 3)=[])
  (hids:(args.flatMap Yi).all (fun i=>can K i&&match h.get i with | some (_,.row _ _ _)=>true | _=>false)=true):Yu C K f args h=some (v,h):=by
 have hx:∀ l:List PV,l.isEmpty=false->extP C f l=none:=by
  intro l hl
  unfold extP
  split
  .cases hl
  .rw [Y5];rfl
  .rfl
 have Zlo:Zx.isEmpty=false:=by
  cases args with
  | nil=>cases Ys
  | cons a l=>
    simp only [Yw] at hm
    split at hm
    .injection hm with hm;subst hm;rfl
    .cases hm
 have hm':∀ H,Yw (Xo H) Zx=some Zx:=by
  intro H
  have Zdn:∀ a,Yi a=[]->Xo H a=some a:=by
   intro a ha
   have hc:∀ cs:List PV,cs.flatMap U1=[]->Yw (Rl H) cs=some cs:=by
    intro cs
    induction cs with
    | nil=>intro _;rfl
    | cons c cs ih=>
      intro hh
      rw [List.flatMap_cons,List.append_eq_nil_iff] at hh
      simp only [Yw,ih hh.2]
      cases c<;>simp_all [U1,Rl]
   cases a with
   | agg cs=>simp only [Xo];rw [hc cs ha];rfl
   | own=>simp [Yi,U1] at ha
   | _=>rfl
  clear hm hr Zlo hA
  induction Zx with
  | nil=>rfl
  | cons a l ih=>
    rw [List.flatMap_cons,List.append_eq_nil_iff] at ho
    simp only [Yw,Zdn a ho.1,ih ho.2]
 have h0:=hA K (h.freeze (args.flatMap Yi))
 have S5:∀ (l:List Nat) (g:PH),(g.freeze l).next=g.next:=by
  intro l
  induction l with
  | nil=>intro g;rfl
  | cons i l ih=>intro g;simp only [PH.freeze];split<;>rw [ih];rfl
 rw [Vw] at h0 ⊢
 unfold callF at h0 ⊢
 rw [hx _ Zlo] at h0
 rw [hx _ Ys]
 cases hF:C.F f with
 | none=>simp only [hF] at h0;cases h0
 | some fn=>
   simp only [hF] at h0 ⊢
   cases hb:fn.body with
   | none=>simp only [hb] at h0;cases h0
   | some c=>
     simp only [hb,Y5,Bool.false_eq_true,if_false,hm',ho,hr,reach,List.all_nil,Bool.and_true,if_true] at h0
     have Zv:(args.flatMap Yi).all (can K)=true:=by
      rw [List.all_eq_true] at hids ⊢
      intro i hi
      have:=hids i hi
      simp only [Bool.and_eq_true] at this
      exact this.1
     simp only [Y5,Bool.false_eq_true,if_false,hm,hr,reach,List.all_nil,Bool.true_and,Zv,if_true]
     have e1:(PH.freeze (h.freeze (args.flatMap Yi)) [])=h.freeze (args.flatMap Yi):=rfl
     rw [e1,S5] at h0
     cases hx:W2 C {base:=h.next,lo:=h.next,ok:=[]} true c (Sb 0 Zx) {h.freeze (args.flatMap Yi) with next:=h.next+fn.ntmps} with
     | none=>rw [hx] at h0;cases h0
     | some r=>
       obtain ⟨x,Yo,h2⟩:=r
       rw [hx] at h0
       have key:∀ vs,Y2 (h.freeze (args.flatMap Yi)) h2 [] [] (Wh vs)=some (v,h.freeze (args.flatMap Yi))->Y2 h h2 [] (args.flatMap Yi) (Wh vs)=some (v,h):=by
        intro vs hs
        unfold Y2 at hs ⊢
        cases hi:inlT h2 (Wh vs) with
        | none=>rw [hi] at hs;cases hs
        | some v'=>
          rw [hi] at hs
          simp only [List.any_nil,Bool.or_false,S5,List.all_nil,Bool.and_true,Zz] at hs ⊢
          by_cases ha:((ownT (Wh vs)).all fun i=>Nat.ble h.next i)=true
          .rw [if_pos ha] at hs ⊢
           have hvv:v'=v:=by
            by_cases hb:below h.next 4 v'=true
            .rw [if_pos hb] at hs
             simp only [if_true,Option.some.injEq,Prod.mk.injEq] at hs
             exact hs.1
            .rw [if_neg hb] at hs
             split at hs
             .simp only [Option.some.injEq,Prod.mk.injEq] at hs;exact hs.1
             .cases hs
           subst hvv
           rw [if_pos (Zua hv _ _),if_pos]
           rw [List.all_eq_true] at hids ⊢
           intro i hi
           have:=hids i hi
           simp only [Bool.and_eq_true] at this
           simp only [Bool.not_false,Bool.true_and]
           have h2:=this.2
           split at h2
           .rename_i Zg g own xs hg
            rw [hg]
            cases own<;>simp [Zt9 hv]
           .cases h2
          .rw [if_neg ha] at hs;cases hs
       cases x with
       | exit=>simp only at h0;cases h0
       | normal=>
         simp only at h0 ⊢
         cases Wa:Uk C Yo h2 fn.results.toList with
         | none=>rw [Wa] at h0;cases h0
         | some vs=>rw [Wa] at h0;exact key vs h0
       | ret=>
         simp only at h0 ⊢
         cases Wa:Uk C Yo h2 fn.results.toList with
         | none=>rw [Wa] at h0;cases h0
         | some vs=>rw [Wa] at h0;exact key vs h0
end Go.Pure
end
section
namespace Go.Pure
open Go
open Go.Virt (Ex Ctx Ty TK)
def Qa:Code->List Nat
 | .region _ ops _=>ops.toList.filterMap (·.dst)
 | .seq a b=>Qa a++Qa b
 | .cond _ a b=>Qa a++Qa b
 | .block _ b=>Qa b
 | .loop b=>Qa b
 | _=>[]
theorem Ua {sl:Yn} {d:Option Nat} {v:PV} {t:Nat} (h:d≠some t):putP sl d v t=sl t:=by
 cases d with
 | none=>rfl
 | some d=>
   show (if t=d then some v else sl t)=sl t
   rw [if_neg]
   rintro rfl
   exact h rfl
theorem Zj1 {sl Yo:Yn} {t:Nat} (h:Yo t=sl t):Zbl sl Yo t=sl t:=by
 unfold Zbl
 cases hs:sl t with
 | none=>rfl
 | some v=>simp only;rw [h,hs]
section
variable {C:Ctx} {cf:CF} {yf:YF} {K:Loc}
theorem Zei {all:List Oper} {t:Nat}:∀ {l:List Oper} {sl:Yn} {h:PH} {r:Yn×PH},Qg C cf yf K all l sl h=some r->t∉l.filterMap (·.dst)->r.1 t=sl t
 | [],sl,h,r,he,ht=>by simp only [Qg,Option.some.injEq] at he;subst he;rfl
 | o::l,sl,h,r,he,ht=>by
   have h1:o.dst≠some t:=by
    intro e
    exact ht (List.mem_filterMap.2 ⟨o,List.mem_cons_self,e⟩)
   have h2:t∉l.filterMap (·.dst):=by
    intro e
    obtain ⟨o',hm,e'⟩:=List.mem_filterMap.1 e
    exact ht (List.mem_filterMap.2 ⟨o',List.mem_cons_of_mem _ hm,e'⟩)
   simp only [Qg] at he
   split at he
   .split at he
    .rw [Zei he h2,Ua h1]
    .cases he
   .rw [Zei he h2,Ua h1]
   .cases he
theorem Zp5 {all:List Oper} {masks:Array Nat} {o:Oper} {i:Nat} {s s':PD} {t:Nat} (he:Zbh C cf yf K all masks o i s=some s') (ht:o.dst≠some t):s'.sl t=s.sl t:=by
 unfold Zbh at he
 dsimp only at he
 split at he
 .cases he
 .simp only [Option.some.injEq] at he;subst he;exact Ua ht
 .split at he
  .split at he
   .simp only [Option.some.injEq] at he;subst he;exact Ua ht
   .cases he
  .split at he
   .split at he
    .simp only [Option.some.injEq] at he;subst he;exact Ua ht
    .rename_i d _ hd
     simp only [Option.some.injEq] at he
     subst he
     rw [hd] at ht
     exact Ua (d:=some d) ht
    .cases he
   .split at he
    .unfold Zu7 at he
     split at he
     .split at he
      .simp only [Option.some.injEq] at he;subst he;exact Ua ht
      .cases he
     .split at he
      .simp only [Option.some.injEq] at he;subst he;exact Ua ht
      .cases he
    .cases he
theorem Zht {all:List Oper} {masks:Array Nat} {t:Nat}:∀ {l:List Oper} {i:Nat} {s s':PD},S7 C cf yf K all masks l i s=some s'->t∉l.filterMap (·.dst)->s'.sl t=s.sl t
 | [],i,s,s',he,ht=>by simp only [S7,Option.some.injEq] at he;subst he;rfl
 | o::l,i,s,s',he,ht=>by
   have h1:o.dst≠some t:=by
    intro e
    exact ht (List.mem_filterMap.2 ⟨o,List.mem_cons_self,e⟩)
   have h2:t∉l.filterMap (·.dst):=by
    intro e
    obtain ⟨o',hm,e'⟩:=List.mem_filterMap.1 e
    exact ht (List.mem_filterMap.2 ⟨o',List.mem_cons_of_mem _ hm,e'⟩)
   simp only [S7] at he
   split at he
   .rename_i s1 hs1
    rw [Zht he h2,Zp5 hs1 h1]
   .cases he
end
theorem Wm {C:Ctx} {t:Nat}:∀ (n:Nat) {K:Loc} {Xc:Bool} {c:Code} {sl:Yn} {h:PH} {x:Ex} {Yo:Yn} {h':PH},exec C n K Xc c sl h=some (x,Yo,h')->t∉Qa c->Yo t=sl t
 | 0,K,Xc,c,sl,h,x,Yo,h',he,ht=>by simp only [exec] at he;cases he
 | n+1,K,Xc,c,sl,h,x,Yo,h',he,ht=>by
   cases c with
   | skip=>simp only [exec,Option.some.injEq,Prod.mk.injEq] at he;rw [<- he.2.1]
   | region id ops draw=>
     cases draw with
     | true=>
       simp only [exec,if_true,Option.map_eq_some_iff,Zat] at he
       obtain ⟨⟨s1,h1⟩,⟨s,hs,e1⟩,e2⟩:=he
       simp only [Prod.mk.injEq] at e1 e2
       rw [<- e2.2.1,<- e1.1]
       exact Zht hs ht
     | false=>
       simp only [exec,Bool.false_eq_true,if_false,Option.map_eq_some_iff] at he
       obtain ⟨⟨s1,h1⟩,hs,e2⟩:=he
       simp only [Prod.mk.injEq] at e2
       rw [<- e2.2.1]
       exact Zei hs ht
   | seq a b=>
     simp only [Qa,List.mem_append,not_or] at ht
     simp only [exec] at he
     split at he
     .rename_i Rc h1 ha
      rw [Wm n he ht.2,Wm n ha ht.1]
     .rename_i Ys
      exact Wm n he ht.1
   | cond c a b=>
     simp only [Qa,List.mem_append,not_or] at ht
     simp only [exec] at he
     split at he
     .exact Wm n he ht.1
     .exact Wm n he ht.2
     .cases he
   | block id b=>
     simp only [Qa] at ht
     simp only [exec] at he
     split at he
     .rename_i id' Rc h1 hb
      have:=Wm n hb ht
      split at he
      .simp only [Option.some.injEq,Prod.mk.injEq] at he;rw [<- he.2.1];exact this
      .simp only [Option.some.injEq,Prod.mk.injEq] at he;rw [<- he.2.1];exact this
     .exact Wm n he ht
   | loop b=>
     simp only [Qa] at ht
     simp only [exec] at he
     split at he
     .rename_i Rc h1 hb
      rw [Wm n he (by simpa only [Qa] using ht)]
      exact Zj1 (Wm n hb ht)
     .exact Wm n he ht
   | exit id=>simp only [exec,Option.some.injEq,Prod.mk.injEq] at he;rw [<- he.2.1]
   | ret=>simp only [exec,Option.some.injEq,Prod.mk.injEq] at he;rw [<- he.2.1]
   | rangeFunc f ps assign body=>
     simp only [exec] at he
     split at he
     .split at he
      .split at he
       .split at he
        .split at he
         .simp only [Option.some.injEq,Prod.mk.injEq] at he;rw [<- he.2.1]
         .cases he
        .cases he
       .cases he
      .cases he
     .cases he
   | scope b=>simp only [exec] at he;cases he
   | label l=>simp only [exec] at he;cases he
   | goto l=>simp only [exec] at he;cases he
   | refuse w=>simp only [exec] at he;cases he
theorem Zys {C:Ctx} {t:Nat} {K:Loc} {Xc:Bool} {c:Code} {sl:Yn} {h:PH} {x:Ex} {Yo:Yn} {h':PH} (he:W2 C K Xc c sl h=some (x,Yo,h')) (ht:t∉Qa c):Yo t=sl t:=by
 obtain ⟨n,hn⟩:=Xa.1 he
 exact Wm n hn ht
def Zse (sl Vl:Yn):List Nat->Prop
 | []=>True
 | t::r=>sl t=Vl t/\Zse sl Vl r
@[simp] theorem Zag5 {sl Vl:Yn}:Zse sl Vl []=True:=rfl
@[simp] theorem Zaeu {sl Vl:Yn} {t:Nat} {r:List Nat}:Zse sl Vl (t::r)=(sl t=Vl t/\Zse sl Vl r):=rfl
theorem Znr {sl Vl:Yn}:∀ {F:List Nat},(∀ t,t∈F->sl t=Vl t)->Zse sl Vl F
 | [],_=>trivial
 | t::r,h=>⟨h t List.mem_cons_self,Znr fun u hu=>h u (List.mem_cons_of_mem _ hu)⟩
theorem Zp7 {sl Vl:Yn}:∀ {F:List Nat},Zse sl Vl F->∀ t,t∈F->sl t=Vl t
 | [],_,t,ht=>by cases ht
 | u::r,h,t,ht=>by
   rcases List.mem_cons.1 ht with rfl | ht
   .exact h.1
   .exact Zp7 h.2 t ht
theorem Ya {C:Ctx} {K:Loc} {Xc:Bool} {b:Code} {Q:Ex×Yn×PH->Prop} {Vl:Yn} {h0:PH} (F:List Nat)
  (I:Nat->Yn->PH->Prop) (n0:Nat) (hF:F.all (fun t=>!(Qa b).contains t)=true) (h00:I n0 Vl h0)
  (step:∀ n sl h,Zse sl Vl F->I n sl h->wp (W2 C K Xc b sl h) fun r=>match r with | (.normal,Yo,h')=>∃ m,m < n/\I m (Zbl sl Yo) h' | r=>Q r):
  wp (W2 C K Xc (.loop b) Vl h0) Q:=by
 refine Zpp (fun n sl h=>Zse sl Vl F/\I n sl h) ?_ n0 Vl h0 ⟨Znr fun _ _=>rfl,h00⟩
 rintro n sl h ⟨hf,hi⟩
 have hs:=step n sl h hf hi
 obtain ⟨⟨x,Yo,h'⟩,he,hq⟩:=Xq.1 hs
 refine Xq.2 ⟨_,he,?_⟩
 have hb:∀ t,t∈F->t∉Qa b:=fun t ht=>by
  have:=List.all_eq_true.1 hF t ht
  simpa using this
 cases x with
 | normal=>
   obtain ⟨m,hm,hI⟩:=hq
   refine ⟨m,hm,Znr fun t ht=>?_,hI⟩
   rw [Zj1 (Zys he (hb t ht)),Zp7 hf t ht]
 | exit id=>exact hq
 | ret=>exact hq
end Go.Pure
end
section
namespace Go.Pure
open Go
open Go.Virt (Ex Ctx Ty TK)
def L (g:Nat) (b:Bool) (xs:List PV):PV:=if b&&xs.isEmpty then .nils else .lst g xs
theorem Zd {g:Nat}:L g true []=.nils:=rfl
theorem Ro {g:Nat} {xs:List PV}:L g false xs=.lst g xs:=rfl
theorem Zc {g:Nat} {b:Bool} {x:PV} {xs:List PV}:L g b (x::xs)=.lst g (x::xs):=by simp [L]
theorem Zsf (g:Nat) (b:Bool) (xs:List PV):(L g b xs=.nils/\b=true/\xs=[])\/(L g b xs=.lst g xs/\(b&&xs.isEmpty)=false):=by
 unfold L
 cases h:(b&&xs.isEmpty)
 .exact Or.inr ⟨rfl,rfl⟩
 .simp at h
  exact Or.inl ⟨rfl,h.1,h.2⟩
section
variable {g:Nat} {b:Bool} {xs:List PV}
@[simp high] theorem Zagb:cellsOf (L g b xs)=[L g b xs]:=by unfold L;split<;>rfl
@[simp high] theorem Zamp:Wg (L g b xs)=true:=by unfold L;split<;>rfl
@[simp high] theorem Zanh {h:PH}:Rl h (L g b xs)=some (L g b xs):=by unfold L;split<;>rfl
@[simp high] theorem Zanf {h:PH}:Xo h (L g b xs)=some (L g b xs):=by unfold L;split<;>rfl
@[simp high] theorem Zang {h:PH}:inlT h (L g b xs)=some (L g b xs):=by unfold L;split<;>rfl
@[simp high] theorem Zam7:U1 (L g b xs)=[]:=by unfold L;split<;>rfl
@[simp high] theorem Zam5:Yi (L g b xs)=[]:=by unfold L;split<;>rfl
@[simp high] theorem Zam6:ownT (L g b xs)=[]:=by unfold L;split<;>rfl
@[simp high] theorem Zam1 {n:Nat}:refs n (L g b xs)=[]:=by unfold L;split<;>cases n<;>rfl
@[simp high] theorem Zamq {m n:Nat}:below m n (L g b xs)=true:=by unfold L;split<;>cases n<;>rfl
@[simp high] theorem Zalc {n:Nat}:plain n (L g b xs)=true:=by unfold L;split<;>cases n<;>rfl
@[simp high] theorem Zala {n:Nat}:Wq n (L g b xs)=true:=by unfold L;split<;>cases n<;>rfl
@[simp high] theorem Zamn {h:PH}:h.elems g (L g b xs)=some xs:=by
 unfold L;split
 .rename_i h;simp at h;simp [PH.elems,h.2]
 .simp [PH.elems]
end
attribute [simp] eqP Zlj.eq_1 Zlj.eq_2 Zlj.eq_3 Zlj.eq_4 Znx Zte Zm6
def lenK (k:TK) (v:PV):Option PV:=match k,v with
 | .str,.str s=>some (.int .i64 s.length)
 | .slice _,.nils=>some (.int .i64 0)
 | .slice _,.lst _ xs=>some (.int .i64 xs.length)
 | .slice _,.own _ _ _ _ n=>some (.int .i64 n)
 | .map _ _,.nilm=>some (.int .i64 0)
 | _,_=>none
def Zn3 (C:Ctx) (k:TK) (v i:PV):Option PV:=match i with
 | .int _ i=>match k,v with
   | .slice e,.lst g xs=>
     match C.T e with
     | some te=>if e=g/\0<=i/\i < xs.length then (xs[i.toNat]?).map fun x=>.rptr (cellsOf x) else none
     | none=>none
   | .array n e,.ptr b v o=>
     match C.T e with
     | some te=>if 0<=i/\i < n then some (.ptr b v (o+i.toNat*te.size)) else none
     | none=>none
   | .array n e,.rptr cs=>
     match C.T e with
     | some te=>if 0<=i/\i < n/\i.toNat*te.size+te.size<=cs.length then some (.rptr (cs.drop (i.toNat*te.size))) else none
     | none=>none
   | _,_=>none
 | _=>none
def Z6n (C:Ctx) (h:PH) (k:TK) (v i:PV):Option (PV×PH):=match v,i with
 | .own b Zg g off len,.int _ i=>match k with
   | .slice e=>match C.T e,h.row b Zg g with
     | some te,some (_,xs)=>if e=g/\0<=i/\i < len/\off+len<=xs.length then some (.eptr b Zg g (off+i.toNat) 0,h) else none
     | _,_=>none
   | _=>none
 | _,_=>none
def Z1r (C:Ctx) (k:TK) (v i:PV):Option PV:=match i with
 | .int _ i=>match k,v with
   | .array n e,.agg cs=>
     match C.T e with
     | some te=>if 0<=i/\i < n then (Xh cs (i.toNat*te.size) te.size).bind (toP te.k.agg) else none
     | none=>none
   | .str,.str s=>if 0<=i then (s[i.toNat]?).map fun (b:Nat)=>.int .u8 (b:Int) else none
   | _,_=>none
 | _=>none
def Znp (C:Ctx) (k:TK) (v:PV) (lo hi:Option PV):Option PV:=match k,v with
 | .str,.str s=>(Xb s.length lo hi).map fun (l,u)=>.str ((s.drop l).take (u - l))
 | .slice e,.nils=>match C.T e,Xb 0 lo hi with
   | some _,some _=>some .nils
   | _,_=>none
 | .slice e,.lst g xs=>match C.T e,Xb xs.length lo hi with
   | some te,some (l,u)=>if e=g then some (.lst g ((xs.drop l).take (u - l))) else none
   | _,_=>none
 | _,_=>none
def Z5w (C:Ctx) (h:PH) (k:TK) (v:PV) (lo hi:Option PV):Option (PV×PH):=match v with
 | .own i Zg g off len=>match k with
   | .slice e=>match C.T e,Xb len lo hi,h.row i Zg g with
     | some te,some (l,u),some _=>if e=g then some (.own i Zg g (off+l) (u - l),h) else none
     | _,_,_=>none
   | _=>none
 | _=>none
def Zvd (T:Ty) (v:PV):Option PV:=match v with
 | .rptr cs=>(Xh cs 0 T.size).bind (toP T.k.agg)
 | _=>none
def Zq3 (h:PH) (T:Ty) (v:PV):Option (PV×PH):=match v with
 | .ptr i Zg off=>match h.get i with
   | some (v,.cells cs)=>if v=Zg then ((Xh cs off T.size).bind (toP T.k.agg)).map (·,h) else none
   | _=>none
 | .eptr i Zg g ix off=>match h.row i Zg g with
   | some (_,xs)=>match xs[ix]? with
     | some x=>((Xh (cellsOf x) off T.size).bind (toP T.k.agg)).map (·,h)
     | none=>none
   | none=>none
 | _=>none
def Zjb (K:Loc) (h:PH) (T:Ty) (a v:PV):Option (PV×PH):=match a with
 | .ptr i Zg off=>
   if (cellsOf v).length=T.size/\(cellsOf v).all Wg=true/\can K i=true then
    match h.get i with
    | some (w,.cells cs)=>if w=Zg then (Ye cs off (cellsOf v)).map fun cs=>(.tuple [],h.put i Zg (.cells cs)) else none
    | _=>none
   else none
 | .eptr i Zg g ix off=>match Xo h v with
   | none=>none
   | some v'=>
     if (cellsOf v').length=T.size/\(cellsOf v').all Wg=true/\(cellsOf v').all (plain 3)=true/\can K i=true/\(Yi v).all (can K)=true then
      match (h.freeze (Yi v)).row i Zg g with
      | some (true,xs)=>match xs[ix]? with
        | some x=>(setCells x off (cellsOf v')).map fun x=>(.tuple [],(h.freeze (Yi v)).put i Zg (.row g true (xs.set ix x)))
        | none=>none
      | _=>none
     else none
 | _=>none
def mksK (C:Ctx) (k:TK) (n m:PV):Option Mk:=match n,m with
 | .int _ n,.int _ m=>match k with
   | .slice e=>match C.T e with
     | some te=>if 0<=n/\n<=m/\m<=Virt.maxLenV/\te.bytes<=2^16 then
        match Ql te with
        | some z=>if (cellsOf z).length=te.size/\(cellsOf z).all Wg=true/\plain 4 z=true then some (.slice e n.toNat (.row e true (List.replicate n.toNat z))) else none
        | none=>none
       else none
     | none=>none
   | _=>none
 | _,_=>none
def Zy7 (C:Ctx) (K:Loc) (h:PH) (d:Nat) (k k':TK) (s x:PV):Option (PV×PH):=match k with
 | .slice e=>match C.T e with
   | some ty=>match k' with
     | .int _=>match s,x with
       | .nils,.int _ n=>
         if 0<=n/\n<=Virt.maxLenV/\ty.bytes<=2^16/\0 < ty.size then
          if n=0 then some (.nils,h) else
          match Ql ty with
          | some z=>if (cellsOf z).length=ty.size/\(cellsOf z).all Wg=true/\plain 4 z=true then some (.own (K.base+d) (h.stamp (K.base+d)) e 0 n.toNat,h.put (K.base+d) (h.stamp (K.base+d)) (.row e true (List.replicate n.toNat z))) else none
          | none=>none
         else none
       | _,_=>none
     | _=>match x with
       | .str b=>if ty.size=1 then Xv K h d e ty b.length (b.map fun (b:Nat)=>.int .u8 (b:Int)) s else none
       | _=>match h.elems e x with
         | some ys=>Xv K h d e ty ys.length ys s
         | none=>none
   | none=>none
 | _=>none
def Zyz (k k':TK) (v:PV):Option PV:=match k,k',v with
 | _,.int k,.int _ n=>some (.int k (k.wrap n))
 | _,.str,.str s=>some (.str s)
 | _,_,_=>none
def Zyy (C:Ctx) (K:Loc) (h:PH) (d:Option Nat) (k k':TK) (v:PV):Option (PV×PH):=match k,k',v with
 | .str,.slice e,.str s=>
   match C.T e,d with
   | some te,some d=>match te.k with
     | .int .u8=>if s.length<=Virt.maxLenV/\te.size=1 then some (.own (K.base+d) (h.stamp (K.base+d)) e 0 s.length,h.put (K.base+d) (h.stamp (K.base+d)) (.row e true (s.map fun (b:Nat)=>.int .u8 (b:Int)))) else none
     | _=>none
   | _,_=>none
 | .slice e,.str,v=>
   match C.T e with
   | some te=>match te.k with
     | .int .u8=>if te.size=1 then ((h.elems e v).bind Zj.bytesP).map fun b=>(.str b,h) else none
     | _=>none
   | none=>none
 | _,_,_=>none
section
variable {C:Ctx} {cf:CF} {yf:YF} {K:Loc} {all:List Oper} {sl:Yn} {h:PH} {d:Option Nat} {ty:TypeId} {pos:String} {af:Array Edge} {gd:Option (Nat×Bool)} {x y ix:Operand} {t t':TypeId}
@[simp high] theorem Zakq {ats:Array TypeId}:Yb C sl ⟨d,.call ⟨.builtin .len,#[x],ats⟩,ty,pos,af,gd⟩=bO (Yq sl x) fun v=>bO ((ats[0]?).bind C.T) fun T=>lenK T.k v:=by
 simp only [Yb,R6,Zg2]
 cases Yq sl x with
 | none=>rfl
 | some v=>
   simp only [Xf]
   cases (ats[0]?).bind C.T with
   | none=>rfl
   | some T=>rfl
@[simp high] theorem Zcm:Yb C sl ⟨d,.indexAddr t x ix,ty,pos,af,gd⟩=bO (C.T t) fun T=>bO (Yq sl x) fun v=>bO (Yq sl ix) fun i=>Zn3 C T.k v i:=by
 simp only [Yb]
 cases C.T t<;>cases Yq sl x<;>cases hi:Yq sl ix<;>try rfl
 rename_i i
 cases i<;>rfl
@[simp high] theorem Sz:Zj C cf yf all K sl h ⟨d,.indexAddr t x ix,ty,pos,af,gd⟩=bO (C.T t) fun T=>bO (Yq sl x) fun v=>bO (Yq sl ix) fun i=>Z6n C h T.k v i:=by
 simp only [Zj]
 cases C.T t<;>cases Yq sl x<;>cases Yq sl ix<;>try rfl
 .rename_i v;cases v<;>rfl
 .rename_i v i;cases v<;>cases i<;>rfl
@[simp high] theorem Zkj:Yb C sl ⟨d,.index t x ix,ty,pos,af,gd⟩=bO (C.T t) fun T=>bO (Yq sl x) fun v=>bO (Yq sl ix) fun i=>Z1r C T.k v i:=by
 simp only [Yb]
 cases C.T t<;>cases Yq sl x<;>cases hi:Yq sl ix<;>try rfl
 rename_i i
 cases i<;>rfl
@[simp high] theorem Zki {lo hi:Option Operand}:Yb C sl ⟨d,.slice t x lo hi none,ty,pos,af,gd⟩=bO (C.T t) fun T=>bO (Yq sl x) fun v=>bO (Tt sl lo) fun l=>bO (Tt sl hi) fun u=>Znp C T.k v l u:=by
 simp only [Yb]
 cases C.T t<;>cases Yq sl x<;>try rfl
 simp only [Xf]
 cases Tt sl lo<;>cases Tt sl hi<;>try rfl
@[simp high] theorem Zbw {lo hi:Option Operand}:Zj C cf yf all K sl h ⟨d,.slice t x lo hi none,ty,pos,af,gd⟩=bO (C.T t) fun T=>bO (Yq sl x) fun v=>bO (Tt sl lo) fun l=>bO (Tt sl hi) fun u=>Z5w C h T.k v l u:=by
 simp only [Zj]
 cases C.T t<;>cases Yq sl x<;>try rfl
 rename_i T v
 simp only [Xf]
 cases v<;>cases Tt sl lo<;>cases Tt sl hi<;>rfl
@[simp high] theorem Zm1:Yb C sl ⟨d,.load t x,ty,pos,af,gd⟩=bO (C.T t) fun T=>bO (Yq sl x) fun v=>Zvd T v:=by
 simp only [Yb]
 cases C.T t<;>cases Yq sl x<;>try rfl
 rename_i T v
 cases v<;>rfl
@[simp high] theorem Zjd:Zj C cf yf all K sl h ⟨d,.load t x,ty,pos,af,gd⟩=bO (C.T t) fun T=>bO (Yq sl x) fun v=>Zq3 h T v:=by
 simp only [Zj]
 cases C.T t<;>cases Yq sl x<;>try rfl
 rename_i T v
 cases v<;>rfl
@[simp high] theorem Zhr:Zj C cf yf all K sl h ⟨d,.store t x y,ty,pos,af,gd⟩=bO (C.T t) fun T=>bO (Yq sl x) fun a=>bO (Yq sl y) fun v=>Zjb K h T a v:=by
 simp only [Zj]
 cases C.T t<;>cases Yq sl x<;>cases Yq sl y<;>try rfl
 .rename_i a;cases a<;>rfl
 .rename_i T a v
  cases a<;>rfl
@[simp high] theorem Zcb {l c:Operand}:Vu C all sl ⟨d,.makeSlice t l c,ty,pos,af,gd⟩=bO (C.T t) fun T=>bO (Yq sl l) fun n=>bO (Yq sl c) fun m=>mksK C T.k n m:=by
 simp only [Vu]
 cases C.T t<;>cases Yq sl l<;>cases Yq sl c<;>try rfl
 .rename_i n;cases n<;>rfl
 .rename_i T n m
  cases n<;>cases m<;>rfl
@[simp high] theorem Z5u {ats:Array TypeId} {dd:Nat}:Zj C cf yf all K sl h ⟨some dd,.call ⟨.builtin .append,#[x,y],ats⟩,ty,pos,af,gd⟩=bO (Yq sl x) fun s=>bO (Yq sl y) fun v=>bO ((ats[0]?).bind C.T) fun T=>bO ((ats[1]?).bind C.T) fun T'=>Zy7 C K h dd T.k T'.k s v:=by
 simp only [Zj,R6,Zg2]
 cases Yq sl x with
 | none=>rfl
 | some s=>
   simp only [Xf,R6,Zg2]
   cases Yq sl y with
   | none=>rfl
   | some v=>
     simp only [Xf]
     cases (ats[0]?).bind C.T with
     | none=>rfl
     | some T=>
       cases (ats[1]?).bind C.T with
       | none=>rfl
       | some T'=>
         simp only [Xf,Zy7]
         cases hk:T.k<;>rfl
@[simp high] theorem Zga:Yb C sl ⟨d,.convert t t' x,ty,pos,af,gd⟩=bO (C.T t) fun T=>bO (C.T t') fun T'=>bO (Yq sl x) fun v=>Zyz T.k T'.k v:=by
 simp only [Yb]
 cases C.T t<;>cases C.T t'<;>cases Yq sl x<;>rfl
@[simp high] theorem Q3:Zj C cf yf all K sl h ⟨d,.convert t t' x,ty,pos,af,gd⟩=bO (C.T t) fun T=>bO (C.T t') fun T'=>bO (Yq sl x) fun v=>Zyy C K h d T.k T'.k v:=by
 simp only [Zj]
 cases C.T t<;>cases C.T t'<;>cases Yq sl x<;>rfl
end
section
variable {C:Ctx} {K:Loc} {h:PH} {g e:Nat} {b:Bool} {xs:List PV} {k:IntKind} {i:Int}
@[simp] theorem Zahm {s:List Nat}:lenK .str (.str s)=some (.int .i64 s.length):=rfl
@[simp] theorem Zae9:lenK (.slice e) .nils=some (.int .i64 0):=rfl
@[simp] theorem Zahp:lenK (.slice e) (.lst g xs)=some (.int .i64 xs.length):=rfl
@[simp] theorem Zahn {i v o n:Nat}:lenK (.slice e) (.own i v g o n)=some (.int .i64 n):=rfl
@[simp] theorem Zam9:lenK (.slice e) (L g b xs)=some (.int .i64 xs.length):=by
 rcases Zsf g b xs with ⟨e,_,rfl⟩ | ⟨e,_⟩<;>rw [e]<;>rfl
@[simp] theorem Zafa {a c:Nat}:lenK (.map a c) .nilm=some (.int .i64 0):=rfl
@[simp] theorem Zaho {a c j v:Nat}:lenK (.map a c) (.map j v)=none:=rfl
@[simp] theorem Z1s (hg:(C.T g).isSome=true) (h0:0<=i) (h1:i < xs.length):Zn3 C (.slice g) (.lst g xs) (.int k i)=some (.rptr (cellsOf (xs[i.toNat]'(by omega)))):=by
 obtain ⟨T,hT⟩:=Option.isSome_iff_exists.1 hg
 have hl:i.toNat < xs.length:=by omega
 simp only [Zn3,hT,h0,h1,and_self,if_true,List.getElem?_eq_getElem hl,Option.map_some]
@[simp] theorem Zanj (hg:(C.T g).isSome=true) (h0:0<=i) (h1:i < xs.length):Zn3 C (.slice g) (L g b xs) (.int k i)=some (.rptr (cellsOf (xs[i.toNat]'(by omega)))):=by
 rcases Zsf g b xs with ⟨e,_,rfl⟩ | ⟨e,_⟩
 .simp at h1;omega
 .rw [e];exact Z1s hg h0 h1
@[simp] theorem Zah7 {j v o n:Nat} {x:PV}:Zn3 C (.slice e) (.own j v g o n) x=none:=by cases x<;>rfl
@[simp] theorem Zah6 {n a v o:Nat}:Zn3 C (.array n e) (.ptr a v o) (.int k i)=bO (C.T e) fun te=>if 0<=i/\i < n then some (.ptr a v (o+i.toNat*te.size)) else none:=by
 simp only [Zn3];cases C.T e<;>rfl
@[simp] theorem Zafc {n:Nat} {cs:List PV}:Zn3 C (.array n e) (.rptr cs) (.int k i)=bO (C.T e) fun te=>if 0<=i/\i < n/\i.toNat*te.size+te.size<=cs.length then some (.rptr (cs.drop (i.toNat*te.size))) else none:=by
 simp only [Zn3];cases C.T e<;>rfl
def Zvf (h:PH) (a Zg g off len:Nat) (i:Int) (n:Nat):Option (PV×PH):=if 0<=i/\i < len/\off+len<=n then some (.eptr a Zg g (off+i.toNat) 0,h) else none
@[simp] theorem Zah5 {a Zg off len n:Nat} (h0:0<=i) (h1:i < len) (h2:off+len<=n):Zvf h a Zg g off len i n=some (.eptr a Zg g (off+i.toNat) 0,h):=by
 rw [Zvf,if_pos ⟨h0,h1,h2⟩]
@[simp] theorem Zah4 {a Zg off len:Nat} (hg:(C.T g).isSome=true):Z6n C h (.slice g) (.own a Zg g off len) (.int k i)=bO (h.row a Zg g) fun p=>Zvf h a Zg g off len i p.2.length:=by
 obtain ⟨T,hT⟩:=Option.isSome_iff_exists.1 hg
 simp only [Z6n,hT]
 cases h.row a Zg g with
 | none=>rfl
 | some p=>simp only [Xf,Zvf,true_and]
@[simp] theorem Zah3 {s:List Nat} (h0:0<=i) (h1:i < s.length):Z1r C .str (.str s) (.int k i)=some (.int .u8 ((s[i.toNat]'(by omega):Nat):Int)):=by
 have hl:i.toNat < s.length:=by omega
 simp only [Z1r,h0,if_true,List.getElem?_eq_getElem hl,Option.map_some]
@[simp] theorem Zab4 {n:Nat} {cs:List PV}:Z1r C (.array n e) (.agg cs) (.int k i)=bO (C.T e) fun te=>if 0<=i/\i < n then (Xh cs (i.toNat*te.size) te.size).bind (toP te.k.agg) else none:=by
 simp only [Z1r];cases C.T e<;>rfl
@[simp] theorem Zag3 {s:List Nat} {lo hi:Option PV}:Znp C .str (.str s) lo hi=bO (Xb s.length lo hi) fun p=>some (.str ((s.drop p.1).take (p.2 - p.1))):=by
 simp only [Znp];cases Xb s.length lo hi<;>rfl
@[simp] theorem Zw4 {lo hi:Option PV} (hg:(C.T e).isSome=true):Znp C (.slice e) .nils lo hi=bO (Xb 0 lo hi) fun p=>some .nils:=by
 obtain ⟨T,hT⟩:=Option.isSome_iff_exists.1 hg
 simp only [Znp,hT];cases Xb 0 lo hi<;>rfl
@[simp] theorem Z0g {lo hi:Option PV} (hg:(C.T g).isSome=true):Znp C (.slice g) (.lst g xs) lo hi=bO (Xb xs.length lo hi) fun p=>some (.lst g ((xs.drop p.1).take (p.2 - p.1))):=by
 obtain ⟨T,hT⟩:=Option.isSome_iff_exists.1 hg
 simp only [Znp,hT]
 cases Xb xs.length lo hi with
 | none=>rfl
 | some p=>simp only [if_true,Xf]
@[simp] theorem Zamy {lo hi:Option PV} (hg:(C.T g).isSome=true):Znp C (.slice g) (L g b xs) lo hi=bO (Xb xs.length lo hi) fun p=>some (L g (b&&xs.isEmpty) ((xs.drop p.1).take (p.2 - p.1))):=by
 rcases Zsf g b xs with ⟨e,rfl,rfl⟩ | ⟨e,e2⟩
 .rw [e,Zw4 hg]
  simp only [List.length_nil,List.drop_nil,List.take_nil]
  cases Xb 0 lo hi<;>simp [L]
 .rw [e,Z0g hg,e2];rfl
@[simp] theorem Zag4 {j v o n:Nat} {lo hi:Option PV}:Znp C (.slice e) (.own j v g o n) lo hi=none:=rfl
@[simp] theorem Zag2 {j v o n:Nat} {lo hi:Option PV} (hg:(C.T g).isSome=true):Z5w C h (.slice g) (.own j v g o n) lo hi=bO (Xb n lo hi) fun p=>bO (h.row j v g) fun _=>some (.own j v g (o+p.1) (p.2 - p.1),h):=by
 obtain ⟨T,hT⟩:=Option.isSome_iff_exists.1 hg
 simp only [Z5w,hT]
 cases Xb n lo hi<;>cases h.row j v g<;>simp
@[simp] theorem Zabq {T:Ty} {cs:List PV}:Zvd T (.rptr cs)=(Xh cs 0 T.size).bind (toP T.k.agg):=rfl
@[simp] theorem Zae8 {T:Ty} {i v o:Nat}:Zvd T (.ptr i v o)=none:=rfl
@[simp] theorem Zabr {T:Ty} {i v g ix o:Nat}:Zvd T (.eptr i v g ix o)=none:=rfl
def Z07 (h:PH) (T:Ty) (Zg off:Nat) (p:Nat×PO):Option (PV×PH):=match p with
 | (v,.cells cs)=>if v=Zg then ((Xh cs off T.size).bind (toP T.k.agg)).map (·,h) else none
 | _=>none
@[simp] theorem Z9n {T:Ty} {Zg off:Nat} {cs:List PV}:Z07 h T Zg off (Zg,.cells cs)=((Xh cs off T.size).bind (toP T.k.agg)).map (·,h):=by simp [Z07]
@[simp] theorem Zae7 {T:Ty} {i Zg off:Nat}:Zq3 h T (.ptr i Zg off)=bO (h.get i) fun p=>Z07 h T Zg off p:=by
 simp only [Zq3]
 cases h.get i with
 | none=>rfl
 | some p=>
   obtain ⟨v,o⟩:=p
   cases o<;>rfl
def Z08 (h:PH) (T:Ty) (ix off:Nat) (xs:List PV):Option (PV×PH):=match xs[ix]? with
 | some x=>((Xh (cellsOf x) off T.size).bind (toP T.k.agg)).map (·,h)
 | none=>none
@[simp] theorem Zahk {T:Ty} {ix off:Nat} (h1:ix < xs.length):Z08 h T ix off xs=((Xh (cellsOf (xs[ix]'h1)) off T.size).bind (toP T.k.agg)).map (·,h):=by
 simp only [Z08,List.getElem?_eq_getElem h1]
@[simp] theorem Zabp {T:Ty} {i Zg ix off:Nat}:Zq3 h T (.eptr i Zg g ix off)=bO (h.row i Zg g) fun p=>Z08 h T ix off p.2:=by
 simp only [Zq3]
 cases h.row i Zg g<;>rfl
def Zsv (h:PH) (i Zg off:Nat) (v:PV) (p:Nat×PO):Option (PV×PH):=match p with
 | (w,.cells cs)=>if w=Zg then (Ye cs off (cellsOf v)).map fun cs=>(.tuple [],h.put i Zg (.cells cs)) else none
 | _=>none
@[simp] theorem Z5t {i Zg off:Nat} {v:PV} {cs:List PV}:Zsv h i Zg off v (Zg,.cells cs)=(Ye cs off (cellsOf v)).map fun cs=>(.tuple [],h.put i Zg (.cells cs)):=by simp [Zsv]
@[simp] theorem Zaa7 {T:Ty} {i Zg off:Nat} {v:PV} (h1:(cellsOf v).length=T.size) (h2:(cellsOf v).all Wg=true) (h3:can K i=true):Zjb K h T (.ptr i Zg off) v=bO (h.get i) fun p=>Zsv h i Zg off v p:=by
 simp only [Zjb]
 rw [if_pos ⟨h1,h2,h3⟩]
 cases h.get i with
 | none=>rfl
 | some p=>
   obtain ⟨v,o⟩:=p
   cases o<;>rfl
def Zsw (h:PH) (i Zg g ix off:Nat) (v:PV) (p:Bool×List PV):Option (PV×PH):=match p with
 | (true,xs)=>match xs[ix]? with
   | some x=>(setCells x off (cellsOf v)).map fun x=>(.tuple [],h.put i Zg (.row g true (xs.set ix x)))
   | none=>none
 | _=>none
@[simp] theorem Zaes {i Zg ix off:Nat} {v:PV} (h1:ix < xs.length):Zsw h i Zg g ix off v (true,xs)=(setCells (xs[ix]'h1) off (cellsOf v)).map fun x=>(.tuple [],h.put i Zg (.row g true (xs.set ix x))):=by
 simp only [Zsw,List.getElem?_eq_getElem h1]
@[simp] theorem Z9h {T:Ty} {i Zg ix off:Nat} {v:PV} (h0:Yi v=[]) (h1:(cellsOf v).length=T.size) (h2:(cellsOf v).all Wg=true) (h4:(cellsOf v).all (plain 3)=true) (h3:can K i=true):Zjb K h T (.eptr i Zg g ix off) v=bO (h.row i Zg g) fun p=>Zsw h i Zg g ix off v p:=by
 have hi:Xo h v=some v:=by
  have hc:∀ cs:List PV,cs.flatMap U1=[]->Yw (Rl h) cs=some cs:=by
   intro cs
   induction cs with
   | nil=>intro _;rfl
   | cons c cs ih=>
     intro hh
     rw [List.flatMap_cons,List.append_eq_nil_iff] at hh
     simp only [Yw,ih hh.2]
     cases c<;>simp_all [U1,Rl]
  cases v with
  | agg cs=>simp only [Xo];rw [hc cs h0];rfl
  | own=>simp [Yi,U1] at h0
  | _=>rfl
 simp only [Zjb,hi,h0,List.all_nil,PH.freeze]
 rw [if_pos ⟨h1,h2,h4,h3,trivial⟩]
 cases h.row i Zg g with
 | none=>rfl
 | some p=>
   obtain ⟨own,xs⟩:=p
   cases own<;>rfl
def Z02 (e:Nat) (te:Ty) (n m:Int) (z:PV):Option Mk:=if 0<=n/\n<=m/\m<=Virt.maxLenV/\te.bytes<=2^16/\(cellsOf z).length=te.size/\(cellsOf z).all Wg=true/\plain 4 z=true then some (.slice e n.toNat (.row e true (List.replicate n.toNat z))) else none
@[simp] theorem Zall {te:Ty} {n m:Int} {z:PV} (h0:0<=n) (h1:n<=m) (h2:m<=1073741824):
  Z02 e te n m z=if te.bytes<=65536/\(cellsOf z).length=te.size/\(cellsOf z).all Wg=true/\plain 4 z=true then some (.slice e n.toNat (.row e true (List.replicate n.toNat z))) else none:=by
 have h2':m<=(Virt.maxLenV:Int):=h2
 by_cases h:te.bytes<=65536/\(cellsOf z).length=te.size/\(cellsOf z).all Wg=true/\plain 4 z=true
 .rw [if_pos h,Z02,if_pos ⟨h0,h1,h2',h⟩]
 .rw [if_neg h,Z02,if_neg (fun hh=>h hh.2.2.2)]
@[simp] theorem Zabi {n m:Int} {k':IntKind}:mksK C (.slice e) (.int k n) (.int k' m)=bO (C.T e) fun te=>bO (Ql te) fun z=>Z02 e te n m z:=by
 simp only [mksK]
 cases C.T e with
 | none=>rfl
 | some te=>
   simp only [Xf]
   cases Ql te with
   | none=>simp only [Zv7];split<;>rfl
   | some z=>
     simp only [Xf,Z02]
     by_cases hc:0<=n/\n<=m/\m<=(Virt.maxLenV:Int)/\te.bytes<=2^16
     .rw [if_pos hc]
      by_cases hc2:(cellsOf z).length=te.size/\(cellsOf z).all Wg=true/\plain 4 z=true
      .rw [if_pos hc2,if_pos ⟨hc.1,hc.2.1,hc.2.2.1,hc.2.2.2,hc2⟩]
      .rw [if_neg hc2,if_neg (fun hh=>hc2 hh.2.2.2.2)]
     .rw [if_neg hc,if_neg (fun hh=>hc ⟨hh.1,hh.2.1,hh.2.2.1,hh.2.2.2.1⟩)]
@[simp] theorem Zad7 {d:Nat} {k':TK} {s x:PV} (hk:∀ j,k'≠.int j) (hx:∀ b,x≠.str b):Zy7 C K h d (.slice e) k' s x=bO (C.T e) fun ty=>bO (h.elems e x) fun ys=>Xv K h d e ty ys.length ys s:=by
 simp only [Zy7]
 cases C.T e with
 | none=>rfl
 | some ty=>
   simp only [Xf]
   cases k' with
   | int j=>exact absurd rfl (hk j)
   | _=>
     cases x with
     | str b=>exact absurd rfl (hx b)
     | _=>first | rfl | (generalize PH.elems _ _ _=z;cases z<;>rfl)
@[simp] theorem Zak3 {d:Nat} {s:PV} {b:List Nat}:Zy7 C K h d (.slice e) .str s (.str b)=bO (C.T e) fun ty=>if ty.size=1 then Xv K h d e ty b.length (b.map fun (b:Nat)=>.int .u8 (b:Int)) s else none:=by
 simp only [Zy7]
 cases C.T e<;>rfl
@[simp] theorem Zage {s:List Nat}:(L g b xs=.str s)=False:=by
 rcases Zsf g b xs with ⟨e,_⟩ | ⟨e,_⟩<;>rw [e]<;>simp
def Zy8 (K:Loc) (h:PH) (T:Ty) (g i Zg off len n:Nat) (ys:List PV) (p:Bool×List PV):Option (PV×PH):=
 if len+n<=Virt.maxLenV/\T.bytes<=2^16/\0 < T.size/\can K i=true/\p.1=true/\off+len<=p.2.length then some (.own i (Zg+1) g 0 (len+n),h.put i (Zg+1) (.row g true ((p.2.drop off).take len++ys))) else none
@[simp] theorem Zv9 {T:Ty} {i Zg off len n:Nat} {ys:List PV} {p:Bool×List PV} (h1:len+n<=1073741824) (h2:T.bytes<=65536) (h3:0 < T.size) (h4:can K i=true) (h5:p.1=true) (h6:off+len<=p.2.length):
  Zy8 K h T g i Zg off len n ys p=some (.own i (Zg+1) g 0 (len+n),h.put i (Zg+1) (.row g true ((p.2.drop off).take len++ys))):=by
 have h1':len+n<=Virt.maxLenV:=h1
 rw [Zy8,if_pos ⟨h1',h2,h3,h4,h5,h6⟩]
theorem Zcu {T:Ty} {i Zg off len n d:Nat} {ys:List PV}:Xv K h d g T n ys (.own i Zg g off len)=bO (h.row i Zg g) fun p=>Zy8 K h T g i Zg off len n ys p:=by
 simp only [Xv,true_and]
 cases h.row i Zg g with
 | none=>simp only [Zv7];split<;>rfl
 | some p=>
   obtain ⟨own,zs⟩:=p
   simp only [Xf,Zy8]
   by_cases hc:len+n<=Virt.maxLenV/\T.bytes<=2^16/\0 < T.size/\can K i=true
   .rw [if_pos hc]
    cases own with
    | false=>
      rw [if_neg (fun hh=>by have:=hh.2.2.2.2.1;cases this)]
    | true=>
      by_cases hd:off+len<=zs.length
      .simp only [hd,if_true];rw [if_pos ⟨hc.1,hc.2.1,hc.2.2.1,hc.2.2.2,trivial,trivial⟩]
      .simp only [hd,if_false];rw [if_neg (fun hh=>by have:=hh.2.2.2.2.2;exact this)]
   .rw [if_neg hc,if_neg (fun hh=>hc ⟨hh.1,hh.2.1,hh.2.2.1,hh.2.2.2.1⟩)]
theorem Zgm {T:Ty} {n d:Nat} {ys:List PV} (h1:n<=1073741824) (h2:T.bytes<=65536) (h3:0 < T.size) (h4:n≠0):
  Xv K h d g T n ys .nils=some (.own (K.base+d) (h.stamp (K.base+d)) g 0 n,h.put (K.base+d) (h.stamp (K.base+d)) (.row g true ys)):=by
 have h1':n<=Virt.maxLenV:=h1
 simp only [Xv]
 rw [if_pos ⟨h1',h2,h3⟩,if_neg h4]
attribute [simp] Zcu Zgm
@[simp] theorem Zakw {k:TK} {j j':IntKind} {n:Int}:Zyz k (.int j) (.int j' n)=some (.int j (j.wrap n)):=by cases k<;>rfl
@[simp] theorem Zakv {k:TK} {s:List Nat}:Zyz k .str (.str s)=some (.str s):=by cases k<;>rfl
@[simp] theorem Zady {s:List Nat}:Zyz .str (.slice e) (.str s)=none:=rfl
@[simp] theorem Zadx {v:PV} (hv:∀ s,v≠.str s):Zyz (.slice e) .str v=none:=by
 cases v<;>first | rfl | exact absurd rfl (hv _)
@[simp] theorem Zaga {e':Nat} {v:PV}:Zyz (.slice e) (.slice e') v=none:=by cases v<;>rfl
@[simp] theorem Zadw {d:Nat} {s:List Nat}:Zyy C K h (some d) .str (.slice e) (.str s)=bO (C.T e) fun te=>match te.k with
  | .int .u8=>if s.length<=Virt.maxLenV/\te.size=1 then some (.own (K.base+d) (h.stamp (K.base+d)) e 0 s.length,h.put (K.base+d) (h.stamp (K.base+d)) (.row e true (s.map fun (b:Nat)=>.int .u8 (b:Int)))) else none
  | _=>none:=by
 simp only [Zyy]
 cases C.T e<;>rfl
@[simp] theorem Zadv {d:Option Nat} {v:PV}:Zyy C K h d (.slice e) .str v=bO (C.T e) fun te=>match te.k with
  | .int .u8=>if te.size=1 then bO (h.elems e v) fun xs=>bO (Zj.bytesP xs) fun b=>some (.str b,h) else none
  | _=>none:=by
 simp only [Zyy]
 cases C.T e with
 | none=>rfl
 | some te=>
   simp only [Xf]
   split
   .split
    .cases h.elems e v with
     | none=>rfl
     | some xs=>simp only [Option.bind_some,Xf];cases Zj.bytesP xs<;>rfl
    .rfl
   .rfl
@[simp high] theorem Zagc {C:Ctx} {t:Nat}:Zaw C .eql t (L g b xs) .nils=bO (C.T t) fun T=>match T.k with | .slice _=>some (.bool (b&&xs.isEmpty)) | _=>none:=by
 cases hT:C.T t with
 | none=>rcases Zsf g b xs with ⟨e,rfl,rfl⟩ | ⟨e,e2⟩<;>rw [e]<;>simp [hT]
 | some T=>
   simp only [Xf]
   rcases Zsf g b xs with ⟨e,rfl,rfl⟩ | ⟨e,e2⟩
   .rw [e];simp only [Zlv,eqP,hT];cases T.k<;>rfl
   .rw [e,e2];simp only [Zos,eqP,hT];cases T.k<;>rfl
end
@[simp high] theorem Zaa9 {g:Nat} {b:Bool} {xs:List PV} {v:PV}:setCells (L g b xs) 0 [v]=some v:=by
 rcases Zsf g b xs with ⟨e,_⟩ | ⟨e,_⟩<;>rw [e]<;>rfl
attribute [simp] setCells.eq_1 setCells.eq_2 Ye
def resC (h:PH) (T:Ty) (v:PV) (vs:List PV):Option (List PV):=match v with
 | .ptr i Zg off=>match h.get i with
   | some (w,.cells cs)=>if w=Zg then ((Xh cs off T.size).bind (toP T.k.agg)).map (·::vs) else none
   | _=>none
 | _=>none
@[simp] theorem Zaev {C:Ctx} {sl:Yn} {h:PH} {a t:Nat} {r:List ResultVar}:Uk C sl h (.cell a t::r)=bO (sl a) fun v=>bO (C.T t) fun T=>bO (Uk C sl h r) fun vs=>resC h T v vs:=by
 simp only [Uk]
 cases sl a with
 | none=>rfl
 | some v=>
   cases C.T t with
   | none=>cases v<;>rfl
   | some T=>
     cases Uk C sl h r with
     | none=>cases v<;>rfl
     | some vs=>cases v<;>rfl
def resD (T:Ty) (Zg off:Nat) (vs:List PV) (p:Nat×PO):Option (List PV):=match p with
 | (w,.cells cs)=>if w=Zg then ((Xh cs off T.size).bind (toP T.k.agg)).map (·::vs) else none
 | _=>none
@[simp] theorem Zabb {T:Ty} {Zg off:Nat} {vs cs:List PV}:resD T Zg off vs (Zg,.cells cs)=((Xh cs off T.size).bind (toP T.k.agg)).map (·::vs):=by simp [resD]
@[simp] theorem Zag9 {h:PH} {T:Ty} {i Zg off:Nat} {vs:List PV}:resC h T (.ptr i Zg off) vs=bO (h.get i) fun p=>resD T Zg off vs p:=by
 simp only [resC]
 cases h.get i with
 | none=>rfl
 | some p=>
   obtain ⟨w,o⟩:=p
   cases o<;>rfl
@[simp] theorem Zaf8 {pl:Nat->Option (Nat×Nat)} {cells:List PV}:Zd4 pl cells []=some cells:=rfl
@[simp] theorem Zadt {pl:Nat->Option (Nat×Nat)} {cells:List PV} {i:Nat} {v:PV} {r:List (Nat×PV)}:Zd4 pl cells ((i,v)::r) =
  bO (pl i) fun p=>if (cellsOf v).length=p.2/\p.1+p.2<=cells.length/\(cellsOf v).all Wg=true then bO (Ye cells p.1 (cellsOf v)) fun Wc=>Zd4 pl Wc r else none:=by
 simp only [Zd4]
 cases pl i with
 | none=>rfl
 | some p=>
   obtain ⟨o,s⟩:=p
   simp only [Xf]
   split
   .cases Ye cells o (cellsOf v)<;>rfl
   .rfl
section
variable {k:IntKind} {a b:Int}
@[simp] theorem Zah1:Sc .add k k a b=some (.int k (k.wrap (a+b))):=by simp [Sc]
@[simp] theorem Zahq:Sc .sub k k a b=some (.int k (k.wrap (a - b))):=by simp [Sc]
@[simp] theorem Zahv:Sc .mul k k a b=some (.int k (k.wrap (a*b))):=by simp [Sc]
@[simp] theorem Zaht:Sc .quo k k a b=if b=0 then none else some (.int k (k.wrap (a.tdiv b))):=by simp [Sc]
@[simp] theorem Zahs:Sc .rem k k a b=if b=0 then none else some (.int k (a.tmod b)):=by simp [Sc]
@[simp] theorem Zah0:Sc .eql k k a b=some (.bool (a==b)):=by simp [Sc]
@[simp] theorem Zahu:Sc .neq k k a b=some (.bool (!(a==b))):=by simp [Sc,bne]
@[simp] theorem Zahw:Sc .lss k k a b=some (.bool (a < b)):=by simp [Sc]
@[simp] theorem Zahx:Sc .leq k k a b=some (.bool (a<=b)):=by simp [Sc]
@[simp] theorem Zahy:Sc .gtr k k a b=some (.bool (b < a)):=by simp [Sc]
@[simp] theorem Zahz:Sc .geq k k a b=some (.bool (b<=a)):=by simp [Sc]
@[simp] theorem Zahr {k':IntKind} (h:0<=b):Sc .shl k k' a b=some (.int k (k.wrap (a*2^min b.toNat k.bits))):=by
 simp only [Sc];rw [if_neg (by omega)]
end
@[simp high] theorem Zagz {a b:List Nat} (h:a.length+b.length<=4611686018427387904):Zlf .add a b=some (.str (a++b)):=by simp [Zlf,h]
@[simp] theorem Zagy {a b:List Nat}:Zlf .eql a b=some (.bool (a==b)):=rfl
@[simp] theorem Zagv {a b:List Nat}:Zlf .neq a b=some (.bool (!(a==b))):=rfl
@[simp] theorem Zagw {a b:List Nat}:Zlf .lss a b=some (.bool (ltL a b)):=rfl
@[simp] theorem Zagx {a b:List Nat}:Zlf .gtr a b=some (.bool (!(ltL a b||a==b))):=rfl
section
variable {k k':IntKind} {i j:Int} {n:Nat}
@[simp high] theorem Zad2 (h0:0<=i) (h:i<=n):Xb n (some (.int k i)) none=some (i.toNat,n):=by
 have:i.toNat<=n:=by omega
 simp [Xb,Zie,h0,this]
@[simp high] theorem Zad1 (h0:0<=j) (h:j<=n):Xb n none (some (.int k j))=some (0,j.toNat):=by
 have:j.toNat<=n:=by omega
 simp [Xb,Zie,h0,this]
@[simp high] theorem Zad3 (h0:0<=i) (h1:i<=j) (h:j<=n):Xb n (some (.int k i)) (some (.int k' j))=some (i.toNat,j.toNat):=by
 have h2:j.toNat<=n:=by omega
 have h3:i.toNat<=j.toNat:=by omega
 have h4:0<=j:=by omega
 simp [Xb,Zie,h0,h2,h3,h4]
end
end Go.Pure
end
section
namespace Go.Pure
open Go
open Go.Virt (Ex Ctx Ty TK Zw)
def Ws (sl Yo:Yn) (l:List Operand):Prop:=∀ x,x∈l->Yq sl x=Yq Yo x
theorem Ws.opds {sl Yo:Yn}:∀ {l:List Operand},Ws sl Yo l->Wk sl l=Wk Yo l
 | [],_=>rfl
 | x::r,h=>by
   have h1:=h x List.mem_cons_self
   have h2:=Ws.opds (l:=r) fun y hy=>h y (List.mem_cons_of_mem _ hy)
   rw [R6,R6,h1,h2]
theorem Ws.parts {sl Yo:Yn}:∀ {l:List (Nat×Operand)},Ws sl Yo (l.map (·.2))->Ub sl l=Ub Yo l
 | [],_=>rfl
 | (i,x)::r,h=>by
   have h1:=h x (by simp)
   have h2:=Ws.parts (l:=r) fun y hy=>h y (by simp at hy ⊢;exact Or.inr hy)
   rw [Zhu,Zhu,h1,h2]
theorem Ws.opt {sl Yo:Yn} {o:Option Operand} (h:Ws sl Yo o.toList):Tt sl o=Tt Yo o:=by
 cases o with
 | none=>rfl
 | some x=>simp only [Tt];rw [h x (by simp)]
theorem Ws.mono {sl Yo:Yn} {l l':List Operand} (h:Ws sl Yo l) (hm:∀ x,x∈l'->x∈l):Ws sl Yo l':=fun x hx=>h x (hm x hx)
section
variable {C:Ctx} {cf:CF} {yf:YF} {K:Loc} {all:List Oper} {sl Yo:Yn} {h:PH}
theorem Zrq {o:Oper} (ha:Ws sl Yo o.op.operands.toList):Yb C sl o=Yb C Yo o:=by
 obtain ⟨d,op,ty,pos,af,gd⟩:=o
 cases op with
 | move x=>simp only [Yb];rw [ha x (by simp [Op.operands])]
 | assign x=>simp only [Yb];rw [ha x (by simp [Op.operands])]
 | pick c a b=>simp only [Yb];rw [ha c (by simp [Op.operands]),ha a (by simp [Op.operands]),ha b (by simp [Op.operands])]
 | build t ps=>
   have:Ub sl ps.toList=Ub Yo ps.toList:=Ws.parts (ha.mono fun x hx=>by simpa [Op.operands] using hx)
   simp only [Yb,this]
 | load t a=>rw [Zm1,Zm1,ha a (by simp [Op.operands])]
 | nilCheck x=>simp only [Yb];rw [ha x (by simp [Op.operands])]
 | binOp op t x y yt=>simp only [Yb];rw [ha x (by simp [Op.operands]),ha y (by simp [Op.operands])]
 | unOp op t x=>simp only [Yb];rw [ha x (by simp [Op.operands])]
 | convert s t x=>rw [Zga,Zga,ha x (by simp [Op.operands])]
 | makeInterface t x=>simp only [Yb];rw [ha x (by simp [Op.operands])]
 | makeFunc f a b=>
   have h1:Wk sl a.toList=Wk Yo a.toList:=Ws.opds (ha.mono fun x hx=>by simp [Op.operands];exact Or.inl (by simpa using hx))
   have h2:Wk sl b.toList=Wk Yo b.toList:=Ws.opds (ha.mono fun x hx=>by simp [Op.operands];exact Or.inr (by simpa using hx))
   simp only [Yb,h1,h2]
 | slice t x lo hi mx=>
   have h1:=ha x (by simp [Op.operands])
   have h2:Tt sl lo=Tt Yo lo:=Ws.opt (ha.mono fun y hy=>by simp [Op.operands];right;left;simpa using hy)
   have h3:Tt sl hi=Tt Yo hi:=Ws.opt (ha.mono fun y hy=>by simp [Op.operands];right;right;left;simpa using hy)
   cases mx with
   | none=>rw [Zki,Zki,h1,h2,h3]
   | some m=>simp only [Yb]
 | fieldAddr s x f=>simp only [Yb];rw [ha x (by simp [Op.operands])]
 | field s x f=>simp only [Yb];rw [ha x (by simp [Op.operands])]
 | indexAddr t x i=>rw [Zcm,Zcm,ha x (by simp [Op.operands]),ha i (by simp [Op.operands])]
 | index t x i=>rw [Zkj,Zkj,ha x (by simp [Op.operands]),ha i (by simp [Op.operands])]
 | lookup t x i ok=>simp only [Yb];rw [ha x (by simp [Op.operands]),ha i (by simp [Op.operands])]
 | extract t i=>simp only [Yb];rw [ha t (by simp [Op.operands])]
 | call c=>
   have:Wk sl c.args.toList=Wk Yo c.args.toList:=Ws.opds (ha.mono fun x hx=>by simp [Op.operands,Call.operands];exact Or.inr (by simpa using hx))
   simp only [Yb,this]
 | _=>rfl
theorem Zq1 {o:Oper} (ha:Ws sl Yo o.op.operands.toList):Vu C all sl o=Vu C all Yo o:=by
 obtain ⟨d,op,ty,pos,af,gd⟩:=o
 cases op with
 | box t x=>simp only [Vu];rw [ha x (by simp [Op.operands])]
 | buildSlice t n ps=>
   have:Ub sl ps.toList=Ub Yo ps.toList:=Ws.parts (ha.mono fun x hx=>by simpa [Op.operands] using hx)
   simp only [Vu,this]
 | makeSlice t l c=>rw [Zcb,Zcb,ha l (by simp [Op.operands]),ha c (by simp [Op.operands])]
 | makeMap t r=>cases r<;>rfl
 | _=>rfl
theorem Znm {o:Oper} (ha:Ws sl Yo o.op.operands.toList):Zj C cf yf all K sl h o=Zj C cf yf all K Yo h o:=by
 obtain ⟨d,op,ty,pos,af,gd⟩:=o
 cases op with
 | load t a=>rw [Zjd,Zjd,ha a (by simp [Op.operands])]
 | store t a x=>rw [Zhr,Zhr,ha a (by simp [Op.operands]),ha x (by simp [Op.operands])]
 | convert s t x=>rw [Q3,Q3,ha x (by simp [Op.operands])]
 | slice t x lo hi mx=>
   have h1:=ha x (by simp [Op.operands])
   have h2:Tt sl lo=Tt Yo lo:=Ws.opt (ha.mono fun y hy=>by simp [Op.operands];right;left;simpa using hy)
   have h3:Tt sl hi=Tt Yo hi:=Ws.opt (ha.mono fun y hy=>by simp [Op.operands];right;right;left;simpa using hy)
   cases mx with
   | none=>rw [Zbw,Zbw,h1,h2,h3]
   | some m=>simp only [Zj]
 | indexAddr t x i=>rw [Sz,Sz,ha x (by simp [Op.operands]),ha i (by simp [Op.operands])]
 | lookup t x i ok=>simp only [Zj];rw [ha x (by simp [Op.operands]),ha i (by simp [Op.operands])]
 | mapUpdate t m k x=>simp only [Zj];rw [ha m (by simp [Op.operands]),ha k (by simp [Op.operands]),ha x (by simp [Op.operands])]
 | insert t m k x=>simp only [Zj];rw [ha m (by simp [Op.operands]),ha k (by simp [Op.operands]),ha x (by simp [Op.operands])]
 | call c=>
   have h1:Wk sl c.args.toList=Wk Yo c.args.toList:=Ws.opds (ha.mono fun x hx=>by simp [Op.operands,Call.operands];exact Or.inr (by simpa using hx))
   obtain ⟨cal,args,ats⟩:=c
   cases cal with
   | value f=>
     have h2:=ha f (by simp [Op.operands,Call.operands])
     simp only [Zj,h1,h2]
   | invoke r m=>simp only [Zj,h1]
   | builtin b=>simp only [Zj,h1]
 | _=>rfl
end
def Zl2 (C:Ctx):Op->Bool
 | .load _ _ | .store _ _ _ | .lookup _ _ _ _ | .mapUpdate _ _ _ _ | .insert _ _ _ _=>true
 | .slice t _ _ _ _ | .indexAddr t _ _=>match C.T t with
   | some a=>match a.k with | .slice _=>true | _=>false
   | none=>false
 | .convert s t _=>match C.T s,C.T t with
   | some a,some b=>match a.k,b.k with
     | .str,.slice _=>true
     | .slice _,.str=>true
     | _,_=>false
   | _,_=>false
 | .call c=>match c.callee with
   | .value _=>true
   | .builtin b=>match b with
     | .append | .delete=>true
     | .len=>match (c.argTypes[0]?).bind C.T with
       | some a=>match a.k with | .map _ _=>true | _=>false
       | none=>false
     | _=>false
   | _=>false
 | _=>false
def Zmg:Op->Bool
 | .alloc _ | .box _ _ | .buildSlice _ _ _ | .makeSlice _ _ _ | .makeMap _ _=>true
 | _=>false
def Zr7:Op->Bool
 | .call c=>match c.callee with | .value _=>true | _=>false
 | _=>false
def Z9o:Op->Bool
 | .load _ _ | .indexAddr _ _ _=>true
 | _=>false
structure Md where
 pf:Bool
 ld:Bool
 fr:List Nat
 rd:List Nat:=[]
 ids:List Nat:=[]
 fl:List Nat:=[]
 ls:Bool:=false
def Md.inRd (m:Md) (o:Oper):Bool:=match o.dst with | some d=>m.rd.contains d | none=>false
def Md.inFl (m:Md) (o:Oper):Bool:=match o.dst with | some d=>m.fl.contains d | none=>false
def Zy0 (h0 h:PH) (u:Nat):Bool:=match h.get u,h0.get u with
 | some (v,_),some (w,_)=>Nat.beq v w
 | _,_=>false
def Z3n (h:PH) (u:Nat):Bool:=match h.get u with | some (_,.cells _)=>true | some (_,.row _ true _)=>true | _=>false
def Md.okB (m:Md) (h0 h:PH) (sl:Yn) (o:Oper) (v:PV):Bool:=match Zfw sl o with
 | some (u,Zg)=>m.ids.contains u&&(match h0.get u with | some (w,_)=>Nat.beq w Zg | none=>false)&&(Xd 4 v||(m.ls&&Z3n h u))&&Wq 3 v
 | none=>false
def Md.free (m:Md) (o:Oper):Bool:=(m.ld&&Z9o o.op)||(match o.dst with | some d=>m.fr.contains d | none=>false)
def Wv (pf:Md) (o:Oper):Bool:=Ug o&&!(pf.pf&&Zr7 o.op)
def Ry (C:Ctx) (pf:Md) (o:Oper):Bool:=Zl2 C o.op&&!pf.free o
def Zag0 (C:Ctx) (pf:Md) (ops:Array Oper):Bool:=
 let masks:=Region.before ops
 ops.toList.zipIdx.all fun (o,i)=>!Ry C pf o||ops.toList.zipIdx.all fun (p,j)=>!Nat.blt j i||((!Zmg p.op||(masks.getD i 0).testBit j||pf.inRd o)&&(!Ry C pf p||(!Wv pf o&&!Wv pf p)||(masks.getD i 0).testBit j||(pf.inRd o&&pf.inFl p)||(pf.inRd p&&pf.inFl o&&!Wv pf p)))
def Z9i (C:Ctx) (pf:Md) (ops:Array Oper):Bool:=!pf.ls||ops.toList.zipIdx.all fun (o,i)=>!pf.inRd o||ops.toList.zipIdx.all fun (p,j)=>!Nat.blt j i||!Ry C pf p||!Wv pf p||pf.inFl p
def Zl3 (C:Ctx) (pf:Md) (ops:Array Oper):Bool:=Zag0 C pf ops&&Z9i C pf ops
structure Stat (C:Ctx) (pf:Md) (ops:Array Oper):Prop where
 ok:Zl3 C pf ops=true
def Qf (pf:Md) (h0:PH) (C:Ctx) (cf:CF) (yf:YF) (K:Loc) (all:List Oper):List Oper->Yn->PH->Option (Yn×PH)
 | [],sl,h=>some (sl,h)
 | o::r,sl,h=>
   match W9 all sl o with
   | some true=>match Yb C sl o with
     | some v=>if Wq 3 v=true then Qf pf h0 C cf yf K all r (putP sl o.dst v) h else none
     | none=>match Vu C all sl o with
       | some m=>match m.obj,o.dst with
         | none,_=>Qf pf h0 C cf yf K all r (putP sl o.dst (m.val 0 0)) h
         | some ob,some d=>Qf pf h0 C cf yf K all r (sl.put d (m.val (K.base+d) (h.stamp (K.base+d)))) (h.put (K.base+d) (h.stamp (K.base+d)) ob)
         | some _,none=>none
       | none=>match Zj C cf yf all K sl h o with
         | some (v,h')=>if (!pf.free o&&(!(pf.pf&&Zr7 o.op)||Sf C sl o v)&&(!pf.inRd o||pf.okB h0 h sl o v)&&(!pf.inFl o||pf.ids.all fun u=>X2 (Xj C K sl h o) u&&Zy0 h0 h u))=true then Qf pf h0 C cf yf K all r (putP sl o.dst v) h' else none
         | none=>none
   | some false=>Qf pf h0 C cf yf K all r (putP sl o.dst (.tuple [])) h
   | none=>none
section
variable {C:Ctx} {cf:CF} {yf:YF} {K:Loc}
theorem Zqg {sl Yo:Yn} {o:Oper} {v:PV} (ha:Ws sl Yo o.op.operands.toList):Sf C sl o v=Sf C Yo o v:=by
 obtain ⟨d,op,ty,pos,af,gd⟩:=o
 cases op with
 | call c=>
   obtain ⟨cal,args,ats⟩:=c
   have h1:Wk sl args.toList=Wk Yo args.toList:=Ws.opds (ha.mono fun x hx=>by simp [Op.operands,Call.operands];exact Or.inr (by simpa using hx))
   cases cal with
   | value f=>
     have h2:=ha f (by simp [Op.operands,Call.operands])
     simp only [Sf,h1,h2]
   | _=>rfl
 | _=>rfl
theorem Zq2 {sl Yo:Yn} {o:Oper} (ha:Ws sl Yo o.op.operands.toList):Zfw sl o=Zfw Yo o:=by
 obtain ⟨d,op,ty,pos,af,gd⟩:=o
 cases op with
 | load t a=>simp only [Zfw];rw [ha a (by simp [Op.operands])]
 | _=>rfl
theorem Ze9 {sl Yo:Yn} {h:PH} {o:Oper} (ha:Ws sl Yo o.op.operands.toList):Xj C K sl h o=Xj C K Yo h o:=by
 obtain ⟨d,op,ty,pos,af,gd⟩:=o
 cases op with
 | store t a x=>simp only [Xj];rw [ha a (by simp [Op.operands]),ha x (by simp [Op.operands])]
 | call c=>
   obtain ⟨cal,args,ats⟩:=c
   have h1:Wk sl args.toList=Wk Yo args.toList:=Ws.opds (ha.mono fun x hx=>by simp [Op.operands,Call.operands];exact Or.inr (by simpa using hx))
   cases cal with
   | value f=>
     have h2:=ha f (by simp [Op.operands,Call.operands])
     simp only [Xj,h1,h2]
   | builtin b=>
     cases b with
     | append=>
       simp only [Xj]
       cases hl:args.toList with
       | nil=>rfl
       | cons x r=>
         have hm:x∈args.toList:=by rw [hl];simp
         have hx:=ha x (by simp [Op.operands,Call.operands];simpa using hm)
         cases d with
         | none=>rfl
         | some d=>simp only [hx]
     | _=>rfl
   | _=>rfl
 | _=>rfl
theorem Zq0 {all:List Oper} {sl:Yn} {o:Oper} {m:Mk} (h:Vu C all sl o=some m):Zmg o.op=true:=by
 obtain ⟨d,op,ty,pos,af,gd⟩:=o
 cases op<;>first | rfl | (simp only [Vu] at h;cases h)
theorem Znl {all:List Oper} {sl:Yn} {h:PH} {o:Oper} {r:PV×PH} (he:Zj C cf yf all K sl h o=some r):Zl2 C o.op=true:=by
 obtain ⟨d,op,ty,pos,af,gd⟩:=o
 cases op with
 | convert s t x=>
   rw [Q3] at he
   simp only [Zl2]
   cases hs:C.T s with
   | none=>rw [hs] at he;cases he
   | some a=>
     cases ht:C.T t with
     | none=>rw [hs,ht] at he;cases he
     | some b=>
       simp only [hs,ht,Xf] at he ⊢
       cases hx:Yq sl x with
       | none=>rw [hx] at he;cases he
       | some v=>
         rw [hx] at he
         simp only [Xf,Zyy] at he
         split at he
         .rename_i h1 h2;simp only [h1,h2]
         .rename_i h1 h2;simp only [h1,h2]
         .cases he
 | call c=>
   obtain ⟨cal,args,ats⟩:=c
   simp only [Zj] at he
   split at he
   .cases he
   .cases cal with
    | value f=>rfl
    | invoke r m=>cases he
    | builtin b=>
      cases b with
      | append=>rfl
      | delete=>rfl
      | len=>
        simp only [Zl2]
        simp only at he
        split at he
        .rename_i hb hx
         cases hT:(ats[0]?).bind C.T with
         | none=>rw [hT] at he;cases he
         | some T=>
           rw [hT] at he
           simp only at he ⊢
           cases hk:T.k<;>first | rfl | (rw [hk] at he;cases he)
        .rename_i hb hx;cases hb
        .rename_i hb hx;cases hb
        .cases he
      | _=>simp only at he;cases he
 | slice t x lo hi mx=>
   cases mx with
   | some m=>simp only [Zj] at he;cases he
   | none=>
     rw [Zbw] at he
     simp only [Zl2]
     cases hT:C.T t with
     | none=>rw [hT] at he;cases he
     | some T=>
       rw [hT] at he
       simp only [Xf] at he ⊢
       cases hx:Yq sl x with
       | none=>rw [hx] at he;cases he
       | some v=>
         rw [hx] at he
         simp only [Xf] at he
         cases h1:Tt sl lo with
         | none=>rw [h1] at he;cases he
         | some l=>
           rw [h1] at he
           simp only [Xf] at he
           cases h2:Tt sl hi with
           | none=>rw [h2] at he;cases he
           | some u=>
             rw [h2] at he
             simp only [Xf,Z5w] at he
             cases v<;>first | (cases he;done) | skip
             cases hk:T.k<;>first | rfl | (rw [hk] at he;cases he)
 | indexAddr t x i=>
   rw [Sz] at he
   simp only [Zl2]
   cases hT:C.T t with
   | none=>rw [hT] at he;cases he
   | some T=>
     rw [hT] at he
     simp only [Xf] at he ⊢
     cases hx:Yq sl x with
     | none=>rw [hx] at he;cases he
     | some v=>
       rw [hx] at he
       simp only [Xf] at he
       cases hi:Yq sl i with
       | none=>rw [hi] at he;cases he
       | some w=>
         rw [hi] at he
         simp only [Xf,Z6n] at he
         cases v<;>first | (cases he;done) | skip
         cases w<;>first | (cases he;done) | skip
         cases hk:T.k<;>first | rfl | (rw [hk] at he;cases he)
 | _=>first | rfl | (simp only [Zj] at he;cases he)
theorem Znv {pf:Md} {h0:PH} {ops:Array Oper} (hS:Stat C pf ops):∀ (l done:List Oper) (s:PD) (r:Yn×PH),ops.toList=done++l ->
  (∀ p,p∈s.st->∃ o,ops.toList[p.1]?=some o/\p.1 < done.length/\Ry C pf o=true/\(p.2=true->Wv pf o=true)/\pf.inRd o=false)->(∀ j,j∈s.made->∃ o,ops.toList[j]?=some o/\j < done.length/\Zmg o.op=true) ->
  (∀ p,p∈s.rb->∃ o,ops.toList[p.1]?=some o/\p.1 < done.length/\Ry C pf o=true/\(pf.inRd o=true->p.2∈pf.ids))->(∀ p,p∈s.wt->∃ o,ops.toList[p.1]?=some o/\p.1 < done.length/\Ry C pf o=true/\Wv pf o=true/\(pf.inFl o=true->∀ u,u∈pf.ids->X2 p.2 u=true))->(∀ u,s.old u=(h0.get u).map (·.1)) ->
  Qf pf h0 C cf yf K ops.toList l s.sl s.h=some r->∃ s',S7 C cf yf K ops.toList (Region.before ops) l done.length s=some s'/\(s'.sl,s'.h)=r:=by
 intro l
 induction l with
 | nil=>
   intro done s r hd h1 h2 h3 h4 hol he
   simp only [Qf,Option.some.injEq] at he
   exact ⟨s,rfl,he⟩
 | cons o l ih=>
   intro done s r hd h1 h2 h3 h4 hol he
   have hd':ops.toList=(done++[o])++l:=by rw [hd];simp
   have hlen:(done++[o]).length=done.length+1:=by simp
   have hio:ops.toList[done.length]?=some o:=by rw [hd];simp
   have hpk:∀ t,t∈Zw ops.toList o->(fun t=>if (Zw ops.toList o).contains t then s.sl t else none) t=s.sl t:=by
    intro t ht
    have:(Zw ops.toList o).contains t=true:=by simpa using ht
    simp only [this,if_true]
   have hag:Ws (fun t=>if (Zw ops.toList o).contains t then s.sl t else none) s.sl o.op.operands.toList:=by
    intro x hx
    cases x with
    | tmp t=>
      refine hpk t ?_
      unfold Zw
      refine List.mem_append_left _ (List.mem_filterMap.2 ⟨.tmp t,hx,rfl⟩)
    | _=>rfl
   have hw:W9 ops.toList (fun t=>if (Zw ops.toList o).contains t then s.sl t else none) o=W9 ops.toList s.sl o:=by
    unfold W9
    cases hg:o.guard with
    | none=>rfl
    | some p=>
      obtain ⟨j,want⟩:=p
      simp only
      cases hj:(ops.toList[j]?).bind (·.dst) with
      | none=>rfl
      | some d=>
        simp only
        have:d∈Zw ops.toList o:=by
         unfold Zw
         refine List.mem_append_right _ ?_
         rw [hg]
         simp only [hj,Option.toList,List.mem_singleton]
        have:=hpk d this
        simp only at this
        rw [this]
   have Zaq7:∀ p,p∈s.st->∃ o,ops.toList[p.1]?=some o/\p.1 < (done++[o]).length/\Ry C pf o=true/\(p.2=true->Wv pf o=true)/\pf.inRd o=false:=fun p hp=>by
    obtain ⟨o',a,b,c⟩:=h1 p hp
    exact ⟨o',a,by simp;omega,c⟩
   have Zmk:∀ j,j∈s.made->∃ o',ops.toList[j]?=some o'/\j < (done++[o]).length/\Zmg o'.op=true:=fun j hj=>by
    obtain ⟨o',a,b,c⟩:=h2 j hj
    exact ⟨o',a,by simp;omega,c⟩
   have Zg6:∀ p,p∈s.st->∃ o',ops.toList[p.1]?=some o'/\p.1 < (done++[o]).length/\Ry C pf o'=true/\(p.2=true->Wv pf o'=true)/\pf.inRd o'=false:=fun p hp=>by
    obtain ⟨o',a,b,c⟩:=h1 p hp
    exact ⟨o',a,by simp;omega,c⟩
   have Zaq6:∀ p,p∈s.rb->∃ o,ops.toList[p.1]?=some o/\p.1 < (done++[o]).length/\Ry C pf o=true/\(pf.inRd o=true->p.2∈pf.ids):=fun p hp=>by
    obtain ⟨o',a,b,c⟩:=h3 p hp
    exact ⟨o',a,by simp;omega,c⟩
   have Zj0:∀ p,p∈s.wt->∃ o',ops.toList[p.1]?=some o'/\p.1 < (done++[o]).length/\Ry C pf o'=true/\Wv pf o'=true/\(pf.inFl o'=true->∀ u,u∈pf.ids->X2 p.2 u=true):=fun p hp=>by
    obtain ⟨o',a,b,c⟩:=h4 p hp
    exact ⟨o',a,by simp;omega,c⟩
   have Zg5:∀ p,p∈s.rb->∃ o',ops.toList[p.1]?=some o'/\p.1 < (done++[o]).length/\Ry C pf o'=true/\(pf.inRd o'=true->p.2∈pf.ids):=fun p hp=>by
    obtain ⟨o',a,b,c⟩:=h3 p hp
    exact ⟨o',a,by simp;omega,c⟩
   simp only [Qf] at he
   simp only [S7,Zbh,hw,Zrq hag,Zq1 hag,Znm hag]
   cases hwt:W9 ops.toList s.sl o with
   | none=>rw [hwt] at he;cases he
   | some w=>
     rw [hwt] at he
     cases w with
     | false=>
       simp only at he ⊢
       have:=ih (done++[o]) {s with sl:=putP s.sl o.dst (.tuple [])} r hd' Zg6 Zmk Zg5 Zj0 hol he
       rwa [hlen] at this
     | true=>
       simp only at he ⊢
       cases hf:Yb C s.sl o with
       | some v=>
         rw [hf] at he
         simp only at he ⊢
         split at he
         .rename_i hsm
          rw [if_pos hsm]
          have:=ih (done++[o]) {s with sl:=putP s.sl o.dst v} r hd' Zg6 Zmk Zg5 Zj0 hol he
          rwa [hlen] at this
         .cases he
       | none=>
         rw [hf] at he
         simp only at he ⊢
         cases hm:Vu C ops.toList s.sl o with
         | some m=>
           rw [hm] at he
           simp only at he ⊢
           cases Uz:m.obj with
           | none=>
             rw [Uz] at he
             simp only at he ⊢
             have:=ih (done++[o]) {s with sl:=putP s.sl o.dst (m.val 0 0)} r hd' Zg6 Zmk Zg5 Zj0 hol he
             rwa [hlen] at this
           | some ob=>
             rw [Uz] at he
             cases Sd:o.dst with
             | none=>rw [Sd] at he;cases he
             | some d=>
               rw [Sd] at he
               simp only at he ⊢
               have:=ih (done++[o]) {s with sl:=s.sl.put d (m.val (K.base+d) (s.h.stamp (K.base+d))),h:=s.h.put (K.base+d) (s.h.stamp (K.base+d)) ob,made:=done.length::s.made} r hd' Zg6 (fun j hj=>by
                rcases List.mem_cons.1 hj with rfl | hj
                .exact ⟨o,hio,by simp,Zq0 hm⟩
                .exact Zmk j hj) Zg5 Zj0 hol he
               rwa [hlen] at this
         | none=>
           rw [hm] at he
           simp only at he ⊢
           cases Xi:Zj C cf yf ops.toList K s.sl s.h o with
           | none=>rw [Xi] at he;cases he
           | some p=>
             obtain ⟨v,h'⟩:=p
             rw [Xi] at he
             simp only at he ⊢
             split at he
             .rename_i hpc
              rw [Bool.and_eq_true,Bool.and_eq_true,Bool.and_eq_true] at hpc
              obtain ⟨⟨⟨hpf,hpc⟩,hrd⟩,Te⟩:=hpc
              have hwi:(Ug o&&!Sf C s.sl o v)=true->Wv pf o=true:=by
               intro hh
               rw [Bool.and_eq_true,Bool.not_eq_true'] at hh
               unfold Wv
               rw [hh.1,Bool.true_and]
               rw [hh.2,Bool.or_false] at hpc
               exact hpc
              have hso:Ry C pf o=true:=by unfold Ry;rw [Znl Xi,hpf];rfl
              have hok:=hS.ok
              unfold Zl3 at hok
              rw [Bool.and_eq_true] at hok
              have hB:=List.all_eq_true.1 hok.1 (o,done.length) (by
               rw [List.mem_zipIdx_iff_getElem?];simpa using hio)
              simp only [hso,Bool.not_true,Bool.false_or] at hB
              have hB':∀ j p,ops.toList[j]?=some p->j < done.length->((!Zmg p.op||((Region.before ops).getD done.length 0).testBit j||pf.inRd o)&&(!Ry C pf p||(!Wv pf o&&!Wv pf p)||((Region.before ops).getD done.length 0).testBit j||(pf.inRd o&&pf.inFl p)||(pf.inRd p&&pf.inFl o&&!Wv pf p)))=true:=fun j p hj hlt=>by
               have:=List.all_eq_true.1 hB (p,j) (by rw [List.mem_zipIdx_iff_getElem?];simpa using hj)
               have hb:Nat.blt j done.length=true:=by simpa using hlt
               simp only [hb,Bool.not_true,Bool.false_or] at this
               exact this
              have hwd:S9 C (fun t=>if (Zw ops.toList o).contains t then s.sl t else none) o v=(Ug o&&!Sf C s.sl o v):=by
               simp only [S9,Zqg hag]
              have hold:∀ u,s.old u=(h0.get u).map (·.1):=hol
              have hrd1:pf.inRd o=true->∃ u,u∈pf.ids/\Zkx s (fun t=>if (Zw ops.toList o).contains t then s.sl t else none) o v=some u:=fun Us=>by
               rw [Us,Bool.not_true,Bool.false_or] at hrd
               unfold Md.okB at hrd
               unfold Zkx
               rw [Zq2 hag]
               cases hlk:Zfw s.sl o with
               | none=>rw [hlk] at hrd;cases hrd
               | some q=>
                 obtain ⟨u,Zg⟩:=q
                 rw [hlk] at hrd
                 simp only [Bool.and_eq_true] at hrd
                 obtain ⟨⟨⟨a1,a2⟩,a3⟩,a4⟩:=hrd
                 have hu1:u∈pf.ids:=by simpa using a1
                 refine ⟨u,hu1,?_⟩
                 have a3':(Xd 4 v||s.clear u)=true:=by
                  rw [Bool.or_eq_true] at a3 ⊢
                  refine a3.imp id fun a3=>?_
                  rw [Bool.and_eq_true] at a3
                  unfold PD.clear
                  rw [Bool.and_eq_true]
                  refine ⟨List.all_eq_true.2 ?_,a3.2⟩
                  rintro ⟨j,t⟩ hj
                  obtain ⟨o',b1,b2,b3,b4,b5⟩:=h4 _ hj
                  refine b5 ?_ u hu1
                  have h9:=hok.2
                  unfold Z9i at h9
                  rw [a3.1,Bool.not_true,Bool.false_or] at h9
                  have h9:=List.all_eq_true.1 h9 (o,done.length) (by rw [List.mem_zipIdx_iff_getElem?];simpa using hio)
                  simp only [Us,Bool.not_true,Bool.false_or] at h9
                  have h9:=List.all_eq_true.1 h9 (o',j) (by rw [List.mem_zipIdx_iff_getElem?];simpa using b1)
                  have hb:Nat.blt j done.length=true:=by simpa using b2
                  simpa only [hb,b3,b4,Bool.not_true,Bool.false_or] using h9
                 simp only [hold]
                 cases hx:h0.get u with
                 | none=>rw [hx] at a2;cases a2
                 | some x=>
                   rw [hx] at a2
                   simp only [Option.map_some]
                   rw [if_pos (by simp only [a2,a3',a4,Bool.and_self])]
              have Zkb:∀ u,Zy0 h0 s.h u=true->s.cur u=true:=fun u hu=>by
               unfold Zy0 at hu
               unfold PD.cur
               rw [hold]
               cases hx:s.h.get u with
               | none=>rw [hx] at hu;cases hu
               | some x=>
                 cases hy:h0.get u with
                 | none=>rw [hx,hy] at hu;cases hu
                 | some y=>rw [hx,hy] at hu;exact hu
              unfold Zu7
              simp only [hwd]
              cases hbl:Zkx s (fun t=>if (Zw ops.toList o).contains t then s.sl t else none) o v with
              | some u=>
                have hru:pf.inRd o=true->u∈pf.ids:=fun Us=>by
                 obtain ⟨u',a1,a2⟩:=hrd1 Us
                 rw [hbl] at a2
                 cases a2
                 exact a1
                simp only
                rw [if_pos (List.all_eq_true.2 fun p hp=>by
                 obtain ⟨o',a,b,c,e,f⟩:=h4 p hp
                 have:=hB' p.1 o' a b
                 simp only [c,e,Bool.not_true,Bool.false_or,Bool.and_false,Bool.and_eq_true,Bool.or_eq_true] at this
                 simp only [Bool.or_eq_true]
                 rcases this.2 with (h7 | h7) | h7
                 .exact .inl h7
                 .exact .inr (f h7.2 u (hru h7.1))
                 .cases h7)]
                have:=ih (done++[o]) {s with sl:=putP s.sl o.dst v,h:=h',rb:=(done.length,u)::s.rb} r hd' Zg6 Zmk (fun p hp=>by
                 rcases List.mem_cons.1 hp with rfl | hp
                 .exact ⟨o,hio,by simp,hso,hru⟩
                 .exact Zg5 p hp) Zj0 hol he
                rwa [hlen] at this
              | none=>
                have hno:pf.inRd o=false:=by
                 cases Us:pf.inRd o with
                 | false=>rfl
                 | true=>
                   obtain ⟨u',a1,a2⟩:=hrd1 Us
                   rw [hbl] at a2
                   cases a2
                have hB2:∀ j p,ops.toList[j]?=some p->j < done.length->((!Zmg p.op||((Region.before ops).getD done.length 0).testBit j)&&(!Ry C pf p||(!Wv pf o&&!Wv pf p)||((Region.before ops).getD done.length 0).testBit j||(pf.inRd p&&pf.inFl o&&!Wv pf p)))=true:=fun j p hj hlt=>by
                 have:=hB' j p hj hlt
                 rwa [hno,Bool.or_false,Bool.false_and,Bool.or_false] at this
                have c1:(s.st.all fun x=>match x with | (j,w)=>(!w&&!(Ug o&&!Sf C s.sl o v))||((Region.before ops).getD done.length 0).testBit j)=true:=by
                 rw [List.all_eq_true]
                 rintro ⟨j,w⟩ hj
                 obtain ⟨p,a,b,c,e,f⟩:=h1 _ hj
                 have:=hB2 j p a b
                 simp only at e c f
                 simp only [c,f,Bool.not_true,Bool.false_or,Bool.and_eq_true,Bool.false_and,Bool.or_false] at this
                 simp only
                 have h2:=this.2
                 rw [Bool.or_eq_true] at h2 ⊢
                 rcases h2 with h2 | h2
                 .left
                  rw [Bool.and_eq_true,Bool.not_eq_true',Bool.not_eq_true'] at h2 ⊢
                  constructor
                  .cases w with
                   | false=>rfl
                   | true=>rw [e rfl] at h2;cases h2.2
                  .cases hx:(Ug o&&!Sf C s.sl o v) with
                   | false=>rfl
                   | true=>rw [hwi hx] at h2;cases h2.1
                 .exact Or.inr h2
                have c2:(s.made.all fun j=>((Region.before ops).getD done.length 0).testBit j)=true:=by
                 rw [List.all_eq_true]
                 intro j hj
                 obtain ⟨p,a,b,c⟩:=h2 _ hj
                 have:=hB2 j p a b
                 simp only [c,Bool.not_true,Bool.false_or,Bool.and_eq_true] at this
                 exact this.1
                have c5:(!(Ug o&&!Sf C s.sl o v)||s.rb.all fun x=>match x with | (c,u)=>((Region.before ops).getD done.length 0).testBit c||(X2 (Xj C K (fun t=>if (Zw ops.toList o).contains t then s.sl t else none) s.h o) u&&s.cur u))=true:=by
                 cases hx:(Ug o&&!Sf C s.sl o v) with
                 | false=>rfl
                 | true=>
                   simp only [Bool.not_true,Bool.false_or]
                   refine List.all_eq_true.2 fun p hp=>?_
                   obtain ⟨o',a,b,c,f⟩:=h3 p hp
                   have:=hB2 p.1 o' a b
                   simp only [c,hwi hx,Bool.not_true,Bool.false_or,Bool.false_and,Bool.and_eq_true,Bool.or_eq_true] at this
                   simp only [Bool.or_eq_true,Bool.and_eq_true]
                   rcases this.2 with h7 | h7
                   .exact .inl h7
                   .right
                    rw [h7.1.2,Bool.not_true,Bool.false_or] at Te
                    have h8:=List.all_eq_true.1 Te p.2 (f h7.1.1)
                    rw [Bool.and_eq_true] at h8
                    exact ⟨by rw [Ze9 hag];exact h8.1,Zkb _ h8.2⟩
                simp only
                rw [if_pos (by rw [c1,c2,c5];rfl)]
                have:=ih (done++[o]) {s with sl:=putP s.sl o.dst v,h:=h',st:=(done.length,Ug o&&!Sf C s.sl o v)::s.st,wt:=if (Ug o&&!Sf C s.sl o v)=true then (done.length,Xj C K (fun t=>if (Zw ops.toList o).contains t then s.sl t else none) s.h o)::s.wt else s.wt} r hd' (fun q hq=>by
                 rcases List.mem_cons.1 hq with rfl | hq
                 .exact ⟨o,hio,by simp,hso,hwi,hno⟩
                 .exact Zg6 q hq) Zmk Zg5 (fun p hp=>by
                 simp only at hp
                 split at hp
                 .rename_i hx
                  rcases List.mem_cons.1 hp with rfl | hp
                  .refine ⟨o,hio,by simp,hso,hwi hx,fun Us u hu=>?_⟩
                   rw [Us,Bool.not_true,Bool.false_or] at Te
                   have h8:=List.all_eq_true.1 Te u hu
                   rw [Bool.and_eq_true] at h8
                   simp only [Ze9 hag]
                   exact h8.1
                  .exact Zj0 p hp
                 .exact Zj0 p hp) hol he
                rwa [hlen] at this
             .cases he
theorem Zon {pf:Md} {ops:Array Oper} (hS:Stat C pf ops) {sl:Yn} {h:PH} {r:Yn×PH} (he:Qf pf h C cf yf K ops.toList ops.toList sl h=some r):Zat C cf yf K ops sl h=some r:=by
 obtain ⟨s',h1,h2⟩:=Znv hS ops.toList [] {sl,h,st:=[],made:=[],old:=fun u=>(h.get u).map (·.1),rb:=[],wt:=[]} r rfl (by simp) (by simp) (by simp) (by simp) (fun _=>rfl) he
 unfold Zat
 rw [show (0:Nat)=([]:List Oper).length from rfl,h1,Option.map_some,h2]
end
section
variable {C:Ctx} {K:Loc} {Xc:Bool} {sl:Yn} {h:PH}
theorem Ze3 (pf:Md) {Q:Ex×Yn×PH->Prop} {id:Nat} {ops:Array Oper} (hS:Stat C pf ops) (hx:wp (Qf pf h C (Yu C) (Tl C) K ops.toList ops.toList sl h) fun p=>Q (.normal,p.1,p.2)):wp (W2 C K Xc (.region id ops true) sl h) Q:=by
 obtain ⟨r,h1,h2⟩:=Xq.1 hx
 rw [Z3f,Zon hS h1]
 exact h2
end
theorem Wj {C:Ctx} {K:Loc} {Xc:Bool} {sl:Yn} {h:PH} (pf ld:Bool) (fr rd ids fl:List Nat) (ls:Bool) {Q:Ex×Yn×PH->Prop} {id:Nat} {ops:Array Oper} (hS:Zl3 C {pf:=pf,ld:=ld,fr:=fr,rd:=rd,ids:=[],fl:=fl,ls:=ls} ops=true)
  (hx:wp (Qf {pf:=pf,ld:=ld,fr:=fr,rd:=rd,ids:=ids,fl:=fl,ls:=ls} h C (Yu C) (Tl C) K ops.toList ops.toList sl h) fun p=>Q (.normal,p.1,p.2)):wp (W2 C K Xc (.region id ops true) sl h) Q:=
 Ze3 {pf:=pf,ld:=ld,fr:=fr,rd:=rd,ids:=ids,fl:=fl,ls:=ls} ⟨hS⟩ hx
section
variable {C:Ctx} {cf:CF} {yf:YF} {K:Loc} {all:List Oper} {sl:Yn} {h h0:PH} {pf:Md}
@[simp] theorem Z9a {Q:Yn×PH->Prop}:wp (Qf pf h0 C cf yf K all [] sl h) Q=Q (sl,h):=rfl
@[simp] theorem Z5l {o:Oper} {r:List Oper} {Q:Yn×PH->Prop}:wp (Qf pf h0 C cf yf K all (o::r) sl h) Q =
  wp (W9 all sl o) fun w=>ifB w
   (opF (Yb C sl o) (fun v=>ifB (Wq 3 v) (wp (Qf pf h0 C cf yf K all r (putP sl o.dst v) h) Q) False)
     (opM (Vu C all sl o) (fun m=>match m.obj,o.dst with
       | none,_=>wp (Qf pf h0 C cf yf K all r (putP sl o.dst (m.val 0 0)) h) Q
       | some ob,some d=>wp (Qf pf h0 C cf yf K all r (sl.put d (m.val (K.base+d) (h.stamp (K.base+d)))) (h.put (K.base+d) (h.stamp (K.base+d)) ob)) Q
       | some _,none=>False)
     (wp (Zj C cf yf all K sl h o) fun p=>ifB (!pf.free o&&(!(pf.pf&&Zr7 o.op)||Sf C sl o p.1)&&(!pf.inRd o||pf.okB h0 h sl o p.1)&&(!pf.inFl o||pf.ids.all fun u=>X2 (Xj C K sl h o) u&&Zy0 h0 h u)) (wp (Qf pf h0 C cf yf K all r (putP sl o.dst p.1) p.2) Q) False)))
   (wp (Qf pf h0 C cf yf K all r (putP sl o.dst (.tuple [])) h) Q):=by
 simp only [Qf]
 cases W9 all sl o with
 | none=>rfl
 | some w=>
   cases w with
   | false=>rfl
   | true=>
     simp only [Znj,Zq6]
     cases Yb C sl o with
     | some v=>
       simp only [Z0v]
       cases hs:Wq 3 v<;>simp [ifB]
     | none=>
       simp only [Zqp]
       cases Vu C all sl o with
       | some m=>
         simp only [Zqo]
         cases m.obj with
         | none=>rfl
         | some ob=>cases o.dst<;>rfl
       | none=>
         simp only [Z0u]
         cases Zj C cf yf all K sl h o with
         | none=>rfl
         | some p=>
           simp only [Znj]
           cases hs:(!pf.free o&&(!(pf.pf&&Zr7 o.op)||Sf C sl o p.1)&&(!pf.inRd o||pf.okB h0 h sl o p.1)&&(!pf.inFl o||pf.ids.all fun u=>X2 (Xj C K sl h o) u&&Zy0 h0 h u))<;>simp only [Bool.false_eq_true,if_false,if_true,Zq6,Zxr,Z5m]
end
attribute [simp] Wq Zr7 Sf Xd Z9o Md.free Md.inRd Md.inFl Md.okB Z3n Zy0 Zfw Xj X2
end Go.Pure
end
section
namespace Go.Pure
open Go
open Go.Virt (Ex Ctx Ty TK)
theorem R7:Virt.maxLenV=1073741824:=rfl
def Acc (S:List Nat) (K:Loc) (h:PH) (g:Nat) (v:PV) (xs:List PV):Prop:=
 (xs=[]/\v=.nils)\/∃ d Zg,xs≠[]/\d∈S/\v=.own (K.base+d) Zg g 0 xs.length/\h.get (K.base+d)=some (Zg,.row g true xs)
theorem Acc.nil {S:List Nat} {K:Loc} {h:PH} {g:Nat}:Acc S K h g .nils []:=Or.inl ⟨rfl,rfl⟩
theorem Acc.inl {S:List Nat} {K:Loc} {h:PH} {g:Nat} {v:PV} {xs:List PV} (hA:Acc S K h g v xs):Xo h v=some (L g true xs):=by
 rcases hA with ⟨rfl,rfl⟩ | ⟨d,Zg,Ys,_,rfl,hg⟩
 .rfl
 .cases xs with
  | nil=>exact absurd rfl Ys
  | cons=>simp [Xo,Rl,PH.elems,PH.row,hg,L]
theorem Acc.inlT {S:List Nat} {K:Loc} {h:PH} {g:Nat} {v:PV} {xs:List PV} (hA:Acc S K h g v xs):inlT h v=Xo h v:=by
 rcases hA with ⟨rfl,rfl⟩ | ⟨d,Zg,Ys,_,rfl,hg⟩<;>rfl
theorem Acc.len {S:List Nat} {K:Loc} {h:PH} {g:Nat} {v:PV} {xs:List PV} (hA:Acc S K h g v xs):Zxo v=some xs.length:=by
 rcases hA with ⟨rfl,rfl⟩ | ⟨d,Zg,Ys,_,rfl,hg⟩<;>rfl
theorem Acc.frame {S:List Nat} {K:Loc} {h h':PH} {g:Nat} {v:PV} {xs:List PV} (hA:Acc S K h g v xs) (hf:∀ d,d∈S->h'.get (K.base+d)=h.get (K.base+d)):Acc S K h' g v xs:=by
 rcases hA with h1 | ⟨d,Zg,Ys,hd,e,hg⟩
 .exact Or.inl h1
 .exact Or.inr ⟨d,Zg,Ys,hd,e,by rw [hf d hd,hg]⟩
theorem Acc.own {S:List Nat} {K:Loc} {h:PH} {g:Nat} {v:PV} {xs:List PV} (hA:Acc S K h g v xs) (Ys:xs≠[]):∃ d Zg,d∈S/\v=.own (K.base+d) Zg g 0 xs.length/\h.get (K.base+d)=some (Zg,.row g true xs):=by
 rcases hA with ⟨e,_⟩ | h1
 .exact absurd e Ys
 .obtain ⟨d,Zg,_,h2,h3,h4⟩:=h1
  exact ⟨d,Zg,h2,h3,h4⟩
theorem Acc.app {S:List Nat} {K:Loc} {h:PH} {g:Nat} {v:PV} {xs ys:List PV} {T:Ty} {dd:Nat} (hA:Acc S K h g v xs) (hd:dd∈S) (hK:K.lo=K.base) (h1:xs.length+ys.length<=1073741824) (h2:T.bytes<=65536) (h3:0 < T.size) (h4:ys≠[]):
  ∃ v' h',Xv K h dd g T ys.length ys v=some (v',h')/\Acc S K h' g v' (xs++ys)/\h'.next=h.next/\∀ j,(∀ d,d∈S->j≠K.base+d)->h'.get j=h.get j:=by
 have hl:ys.length≠0:=by
  cases ys with
  | nil=>exact absurd rfl h4
  | cons=>simp
 rcases hA with ⟨rfl,rfl⟩ | ⟨d,Zg,Ys,hdS,rfl,hg⟩
 .refine ⟨_,_,Zgm (by omega) h2 h3 hl,Or.inr ⟨dd,h.stamp (K.base+dd),by simpa using h4,hd,by simp,by simp⟩,rfl,fun j hj=>?_⟩
  simp [hj dd hd]
 .have hr:h.row (K.base+d) Zg g=some (true,xs):=by simp [PH.row,hg]
  refine ⟨_,_,((by rw [Zcu,hr];rfl:Xv K h dd g T ys.length ys (.own (K.base+d) Zg g 0 xs.length)=Zy8 K h T g (K.base+d) Zg 0 xs.length ys.length ys (true,xs)).trans (Zv9 h1 h2 h3 (by simp [can,hK]) rfl (by simp))),Or.inr ⟨d,Zg+1,by simp [h4],hdS,by simp,by simp⟩,rfl,fun j hj=>?_⟩
  simp [hj d hdS]
theorem X0 {h:PH}:∀ {args:List PV},args.flatMap Yi=[]->Yw (Xo h) args=some args:=by
 have Zdn:∀ a,Yi a=[]->Xo h a=some a:=by
  intro a ha
  have hc:∀ cs:List PV,cs.flatMap U1=[]->Yw (Rl h) cs=some cs:=by
   intro cs
   induction cs with
   | nil=>intro _;rfl
   | cons c cs ih=>
     intro hh
     rw [List.flatMap_cons,List.append_eq_nil_iff] at hh
     simp only [Yw,ih hh.2]
     cases c<;>simp_all [U1,Rl]
  cases a with
  | agg cs=>simp only [Xo];rw [hc cs ha];rfl
  | own=>simp [Yi,U1] at ha
  | _=>rfl
 intro args
 induction args with
 | nil=>intro _;rfl
 | cons a l ih=>
   intro ho
   rw [List.flatMap_cons,List.append_eq_nil_iff] at ho
   simp only [Yw,Zdn a ho.1,ih ho.2]
theorem Acc.call {C:Ctx} {S:List Nat} {K:Loc} {h:PH} {g f:Nat} {v w:PV} {xs:List PV} (hA:Acc S K h g v xs) (hK:K.lo=K.base) (Y5:C.raw f=false) (pre post:List PV) (Zt4:Xy C f (pre++L g true xs::post) w) (hw:Zm3 w=true)
  (h1:(pre++post).flatMap Yi=[]) (h2:(pre++post).flatMap (refs 3)=[]):Yu C K f (pre++v::post) h=some (w,h):=by
 rw [List.flatMap_append,List.append_eq_nil_iff] at h1 h2
 have Zoe:∀ (a b:List PV) (a' b':List PV),Yw (Xo h) a=some a'->Yw (Xo h) b=some b'->Yw (Xo h) (a++b)=some (a'++b'):=by
  intro a
  induction a with
  | nil=>intro b a' b' e1 e2;simp only [Yw,Option.some.injEq] at e1;subst e1;exact e2
  | cons x a ih=>
    intro b a' b' e1 e2
    simp only [Yw] at e1
    simp only [List.cons_append,Yw]
    split at e1
    .rename_i y ys hy hys
     cases e1
     rw [hy,ih b ys b' hys e2]
     rfl
    .cases e1
 refine Z3p Zt4 hw Y5 (Zoe _ _ _ _ (X0 h1.1) ?_) (by cases pre<;>rfl) ?_ ?_ ?_
 .simp only [Yw,hA.inl,X0 h1.2]
 .rw [List.flatMap_append,List.flatMap_cons,h1.1,h1.2];simp
 .rw [List.flatMap_append,List.flatMap_cons,h2.1,h2.2];simp
 .rw [List.flatMap_append,List.flatMap_cons,h1.1,h1.2]
  rcases hA with ⟨_,rfl⟩ | ⟨d,Zg,_,_,rfl,hg⟩
  .simp
  .simp [hg,can,hK]
theorem Z6l {p:Prop} [Decidable p] {A B:Prop} {t:Tag A} {u:Tag B} (h1:p->A) (h2:¬p->B):ifB (decide p) A B t u:=by
 by_cases h:p
 .rw [decide_eq_true h];exact h1 h
 .rw [decide_eq_false h];exact h2 h
theorem Z6m {α:Type} [BEq α] [LawfulBEq α] {a b:α} {A B:Prop} {t:Tag A} {u:Tag B} (h1:a=b->A) (h2:(a==b)=false->a≠b->B):ifB (a==b) A B t u:=by
 by_cases h:a=b
 .subst h;rw [BEq.rfl];exact h1 rfl
 .rw [beq_false_of_ne h];exact h2 (beq_false_of_ne h) h
theorem Z1l {p:Prop} [Decidable p] {A B:Prop} {t:Tag A} {u:Tag B} (h:p) (hA:p->A):ifB (decide p) A B t u:=by rw [decide_eq_true h];exact hA h
theorem Z1m {p:Prop} [Decidable p] {A B:Prop} {t:Tag A} {u:Tag B} (h:¬p) (hB:¬p->B):ifB (decide p) A B t u:=by rw [decide_eq_false h];exact hB h
theorem Z1n {a b:Int} {A B:Prop} {t:Tag A} {u:Tag B} (h:a=b) (hA:a=b->A):ifB (a==b) A B t u:=by subst h;rw [BEq.rfl];exact hA rfl
theorem Z1o {a b:Int} {A B:Prop} {t:Tag A} {u:Tag B} (h:a≠b) (hB:(a==b)=false->a≠b->B):ifB (a==b) A B t u:=by rw [beq_false_of_ne h];exact hB (beq_false_of_ne h) h
@[simp] theorem Zag1 {n i:Nat} {h:PH}:PH.stamp ⟨n,h.get⟩ i=h.stamp i:=rfl
@[simp] theorem Zaet {i j v:Nat} {o:PO} {h:PH}:PH.stamp (h.put i v o) j=if j=i then v+1 else h.stamp j:=by
 simp only [PH.stamp,PH.put]
 split<;>rename_i hh
 .split at hh
  .rename_i e;cases hh;simp [e]
  .rename_i e;rw [hh];simp [e]
 .split at hh
  .cases hh
  .rename_i e;rw [hh];simp [e]
theorem Zpn {n:Int} (h1 : -9223372036854775808<=n) (h2:n < 9223372036854775808):IntKind.i64.wrap n=n:=wrap_i64 h1 h2
theorem Zzy {n:Int} (h1:0<=n) (h2:n < 256):IntKind.u8.wrap n=n:=wrap_u8 h1 h2
theorem Zagi {n:Int} (h1:0<=n) (h2:n < 18446744073709551616):IntKind.u64.wrap n=n:=Zly h1 h2
theorem wrap32 {n:Int} (h1:0<=n) (h2:n < 4294967296):IntKind.u32.wrap n=n:=by
 simp only [IntKind.wrap,IntKind.bits,IntKind.signed,Bool.false_and,Bool.false_eq_true,if_false]
 omega
theorem toNat_add_nat (a b:Nat):((a:Int)+(b:Int)).toNat=a+b:=by omega
theorem Zo2 (a b:Int):a+b - a=b:=by omega
theorem Z1h {a b:Int}:(if a < b then b else a)=max a b:=by omega
theorem Z1f {a b:Int}:(if a < b then a else b)=min a b:=by omega
theorem Z1g {a b:Nat}:(if a < b then (b:Int) else (a:Int))=((max a b:Nat):Int):=by omega
theorem Z1e {a b:Nat}:(if a < b then (a:Int) else (b:Int))=((min a b:Nat):Int):=by omega
theorem Zbc {l:List Nat} (h:∀ c,c∈l->c < 256):Zj.bytesP (l.map fun c:Nat=>PV.int .u8 (c:Int))=some l:=by
 induction l with
 | nil=>rfl
 | cons c l ih=>
   have h1:c < 256:=h c List.mem_cons_self
   have h2:=ih fun d hd=>h d (List.mem_cons_of_mem _ hd)
   simp only [List.map_cons,Zj.bytesP,h2,Option.map_some]
   congr 2
   omega
def Stop (P:Prop) (_t:Tag P:=⟨⟩):Prop:=P
theorem Zim {P:Prop} {t:Tag P} (h:P):Stop P t:=h
theorem Zil {C:Ctx} {K:Loc} {Xc:Bool} {A B:Code} {sl:Yn} {h:PH} {Q:Ex×Yn×PH->Prop} (hx:wp (W2 C K Xc A sl h) fun r=>match r with
  | (.normal,Yo,h')=>Stop (wp (W2 C K Xc B Yo h') Q)
  | r=>Q r):wp (W2 C K Xc (.seq A B) sl h) Q:=by
 rw [wp_seq];exact hx
theorem Zz0 {C:Ctx} {K:Loc} {Xc:Bool} {A B:Code} {sl:Yn} {h:PH} {Q:Ex×Yn×PH->Prop} (R:Yn->PH->Prop) (hx:wp (W2 C K Xc A sl h) fun r=>match r with
  | (.normal,Yo,h')=>R Yo h'
  | r=>Q r) (hB:∀ sl h,R sl h->wp (W2 C K Xc B sl h) Q):wp (W2 C K Xc (.seq A B) sl h) Q:=by
 rw [wp_seq]
 refine wp_mono hx ?_
 rintro ⟨x,Yo,h'⟩ hr
 cases x with
 | normal=>exact hB _ _ hr
 | exit id=>exact hr
 | ret=>exact hr
end Go.Pure
end
section
namespace Go.Pure
open Go
open Go.Virt (Ex Ctx Ty TK)
theorem Ze:(∀ {n:Int}, -9223372036854775808<=n->n < 9223372036854775808->IntKind.i64.wrap n=n)/\(∀ {n:Int},0<=n->n < 256->IntKind.u8.wrap n=n)/\(∀ {n:Int},0<=n->n < 18446744073709551616->IntKind.u64.wrap n=n)/\(∀ {n:Int},0<=n->n < 4294967296->IntKind.u32.wrap n=n)/\(∀ a b:Nat,((a:Int)+(b:Int)).toNat=a+b)/\(∀ a b:Int,a+b - a=b)/\(∀ {a b:Int},(if a < b then b else a)=max a b)/\(∀ {a b:Int},(if a < b then a else b)=min a b)/\(∀ {a b:Nat},(if a < b then (b:Int) else (a:Int))=((max a b:Nat):Int))/\∀ {a b:Nat},(if a < b then (a:Int) else (b:Int))=((min a b:Nat):Int):=
 ⟨Zpn,Zzy,Zagi,wrap32,toNat_add_nat,Zo2,Z1h,Z1f,Z1g,Z1e⟩
section
variable {A B:Prop} {t:Tag A} {u:Tag B}
theorem Z1 {a b:Int} (hA:a=b->A) (h:a=b:=by omega):ifB (a==b) A B t u:=Z1n h hA
theorem Z2 {a b:Int} (hB:(a==b)=false->a≠b->B) (h:a≠b:=by omega):ifB (a==b) A B t u:=Z1o h hB
theorem Z3 {α:Type} [BEq α] [LawfulBEq α] {a b:α} (h1:a=b->A) (h2:(a==b)=false->a≠b->B):ifB (a==b) A B t u:=Z6m h1 h2
theorem Z4 {p:Prop} [Decidable p] (hA:p->A) (h:p:=by omega):ifB (decide p) A B t u:=Z1l h hA
theorem Z5 {p:Prop} [Decidable p] (hB:¬p->B) (h:¬p:=by omega):ifB (decide p) A B t u:=Z1m h hB
theorem Z6 {p:Prop} [Decidable p] (h1:p->A) (h2:¬p->B):ifB (decide p) A B t u:=Z6l h1 h2
theorem Z7 {b:Bool} (h1:b=true->A) (h2:b=false->B):ifB b A B t u:=Zmm h1 h2
end
section
variable {C:Ctx} {K:Loc} {Xc:Bool} {sl:Yn} {h:PH} {Q:Ex×Yn×PH->Prop} {id:Nat} {ops:Array Oper}
theorem Z8 (hx:wp (Qf {pf:=false,ld:=false,fr:=[]} h C (Yu C) (Tl C) K ops.toList ops.toList sl h) fun p=>Q (.normal,p.1,p.2)) (hS:Zl3 C {pf:=false,ld:=false,fr:=[]} ops=true:=by decide +kernel):wp (W2 C K Xc (.region id ops true) sl h) Q:=Ze3 _ ⟨hS⟩ hx
theorem Z9 (hx:wp (Qf {pf:=true,ld:=false,fr:=[]} h C (Yu C) (Tl C) K ops.toList ops.toList sl h) fun p=>Q (.normal,p.1,p.2)) (hS:Zl3 C {pf:=true,ld:=false,fr:=[]} ops=true:=by decide +kernel):wp (W2 C K Xc (.region id ops true) sl h) Q:=Ze3 _ ⟨hS⟩ hx
theorem Z0 (hx:wp (Qf {pf:=false,ld:=true,fr:=[]} h C (Yu C) (Tl C) K ops.toList ops.toList sl h) fun p=>Q (.normal,p.1,p.2)) (hS:Zl3 C {pf:=false,ld:=true,fr:=[]} ops=true:=by decide +kernel):wp (W2 C K Xc (.region id ops true) sl h) Q:=Ze3 _ ⟨hS⟩ hx
end
end Go.Pure
end
section
namespace Go.Pure
open Go
open Go.Virt (Ex Ctx Ty TK)
theorem Acc.lenK {S:List Nat} {K:Loc} {h:PH} {g e:Nat} {v:PV} {xs:List PV} (hA:Acc S K h g v xs):Pure.lenK (.slice e) v=some (.int .i64 xs.length):=by
 rcases hA with ⟨rfl,rfl⟩ | ⟨d,Zg,Ys,_,rfl,hg⟩<;>rfl
theorem Acc.ownT {S:List Nat} {K:Loc} {h:PH} {g:Nat} {v:PV} {xs:List PV} (hA:Acc S K h g v xs):∀ x,x∈ownT v->K.base<=x:=by
 rcases hA with ⟨rfl,rfl⟩ | ⟨d,Zg,Ys,_,rfl,hg⟩
 .intro x hx;simp [Pure.ownT] at hx
 .intro x hx;simp [Pure.ownT] at hx;omega
theorem Acc.same {S:List Nat} {K:Loc} {h:PH} {g n:Nat} {v:PV} {xs:List PV} (hA:Acc S K h g v xs):Wq n v=true:=by
 rcases hA with ⟨rfl,rfl⟩ | ⟨d,Zg,Ys,_,rfl,hg⟩<;>cases n<;>rfl
theorem Acc.pos {S:List Nat} {K:Loc} {h:PH} {g k:Nat} {v:PV} {α:Type} {f:α->PV} {l:List α} (hA:Acc S K h g v (l.map f)) (hk:k < l.length):∃ d Zg,d∈S/\v=.own (K.base+d) Zg g 0 l.length/\h.get (K.base+d)=some (Zg,.row g true (l.map f)):=by
 obtain ⟨d,Zg,h1,h2,h3⟩:=hA.own (by intro e;simp at e;rw [e] at hk;simp at hk)
 rw [List.length_map] at h2
 exact ⟨d,Zg,h1,h2,h3⟩
theorem Acc.app' {S:List Nat} {K:Loc} {h:PH} {g:Nat} {v:PV} {xs ys:List PV} {T:Ty} {dd:Nat} (hA:Acc S K h g v xs) (hd:dd∈S) (hK:K.lo=K.base) (h1:xs.length+ys.length<=1073741824) (h2:T.bytes<=65536) (h3:0 < T.size):
  ∃ v' h',Xv K h dd g T ys.length ys v=some (v',h')/\Acc S K h' g v' (xs++ys)/\h'.next=h.next/\∀ j,(∀ d,d∈S->j≠K.base+d)->h'.get j=h.get j:=by
 by_cases h4:ys=[]
 .subst h4
  rcases hA with ⟨rfl,rfl⟩ | ⟨d,Zg,Ys,hdS,rfl,hg⟩
  .refine ⟨.nils,h,?_,Or.inl ⟨rfl,rfl⟩,rfl,fun j hj=>rfl⟩
   simp only [Xv,List.length_nil]
   rw [if_pos ⟨by decide,h2,h3⟩,if_pos trivial]
  .have hr:h.row (K.base+d) Zg g=some (true,xs):=by simp [PH.row,hg]
   refine ⟨_,_,((by rw [Zcu,hr];rfl:Xv K h dd g T ([]:List PV).length [] (.own (K.base+d) Zg g 0 xs.length)=Zy8 K h T g (K.base+d) Zg 0 xs.length ([]:List PV).length [] (true,xs)).trans (Zv9 h1 h2 h3 (by simp [can,hK]) rfl (by simp))),Or.inr ⟨d,Zg+1,by simpa using Ys,hdS,by simp,by simp⟩,rfl,fun j hj=>?_⟩
   simp [hj d hdS]
 .exact hA.app hd hK h1 h2 h3 h4
end Go.Pure
end
section
namespace Go.Pure
open Go
open Go.Virt (Ex Ctx Ty TK)
theorem Rn {p:Nat}:∀ {l:List Nat} {h:PH},(∀ i∈l,i≠p)->(h.freeze l).get p=h.get p
 | [],h,_=>rfl
 | i::r,h,hp=>by
   have h1:=hp i (by simp)
   have h2:∀ j∈r,j≠p:=fun j hj=>hp j (by simp [hj])
   simp only [PH.freeze]
   split
   .rw [Rn h2]
    simp [PH.put,Ne.symm h1]
   .exact Rn h2
theorem Zt {C:Ctx} {K:Loc} {f p Zg off:Nat} {rest:List PV} {h:PH} {o o':PO} {ver':Nat} {fn:Func} {c:Code} {v:PV} (hF:C.F f=some fn) (hb:fn.body=some c) (Y5:C.raw f=false) (ho:rest.flatMap Yi=[]) (hr:rest.flatMap (refs 3)=[])
  (Zv:can K p=true) (hlt:p < h.next) (hp:h.get p=some (Zg,o)) (hro:Yg o=[])
  (hx:wp (W2 C {base:=h.next,lo:=h.next,ok:=[p]} true c (Sb 0 (.ptr p Zg off::rest)) {h with next:=h.next+fn.ntmps}) fun r=>(r.1=.normal\/r.1=.ret)/\wp (Uk C r.2.1 r.2.2 fn.results.toList) fun vs=>
    inlT r.2.2 (Wh vs)=some v/\(ownT (Wh vs)).all (fun i=>Nat.ble h.next i)=true/\r.2.2.get p=some (ver',o')) (hv:below h.next 4 v=true) (hbo:Zu h.next o'=true):
  Yu C K f (.ptr p Zg off::rest) h=some (v,h.put p ver' o'):=by
 have hm:Yw (Xo h) (.ptr p Zg off::rest)=some (.ptr p Zg off::rest):=X0 (by simpa [Yi,U1] using ho)
 obtain ⟨⟨x,Yo,h2⟩,h1,h3,h4⟩:=Xq.1 hx
 obtain ⟨vs,h5,h6,h7,h8⟩:=Xq.1 h4
 simp only at h6 h7 h8
 have hids:(PV.ptr p Zg off::rest).flatMap Yi=[]:=by simpa [Yi,U1] using ho
 have hrf:(PV.ptr p Zg off::rest).flatMap (refs 3)=[p]:=by rw [List.flatMap_cons,hr];rfl
 have hre:reach h 4 [p]=[p]:=by simp [reach,hp,hro]
 have hfz:(h2.freeze (ownT (Wh vs))).get p=some (ver',o'):=by
  rw [Rn,h8]
  intro i hi
  have:=List.all_eq_true.1 h7 i hi
  simp at this
  omega
 have hs:Y2 h h2 [p] [] (Wh vs)=some (v,h.put p ver' o'):=by
  unfold Y2
  rw [h6]
  have hall:(ownT (Wh vs)).all (fun i=>Nat.ble h.next i||[p].any (Nat.beq i))=true:=by
   rw [List.all_eq_true] at h7 ⊢
   intro i hi
   rw [h7 i hi];rfl
  simp only [hall,hv,List.all_cons,List.all_nil,Bool.and_true,Bool.true_and,PH.belowAt,hfz,hbo,if_true,Zz]
 rw [Vw]
 unfold callF
 have W7:extP C f (.ptr p Zg off::rest)=none:=rfl
 rw [W7]
 simp only [hF,hb,Y5,Bool.false_eq_true,if_false,hm,hids,hrf,hre,List.all_cons,List.all_nil,Bool.and_true,Zv,hp,Option.isSome_some,if_true,PH.freeze]
 have h1':W2 C {base:=h.next,lo:=h.next,ok:=[p]} true c (Sb 0 (.ptr p Zg off::rest)) {next:=h.next+fn.ntmps,get:=h.get}=some (x,Yo,h2):=h1
 rw [h1']
 simp only at h5
 rcases h3 with h3 | h3<;>simp only at h3<;>subst h3<;>simp only [h5]<;>exact hs
theorem Zqf {h:PH} {p Zg:Nat} {o:PO} (hp:h.get p=some (Zg,o)):h.put p Zg o=h:=by
 have:(h.put p Zg o).get=h.get:=by
  funext j
  simp only [Zs6]
  split
  .rename_i e;rw [e,hp]
  .rfl
 cases h
 simp only [PH.put] at this ⊢
 congr 1
theorem Z51 {h:PH} {p v1 v2:Nat} {o1 o2:PO}:(h.put p v1 o1).put p v2 o2=h.put p v2 o2:=by
 simp only [PH.put]
 congr 1
 funext j
 split<;>rfl
end Go.Pure
end
section
namespace Go.Pure
open Go
open Go.Virt (Ex Ctx Ty TK)
theorem Za9 {h h3:PH}:∀ {l:List Nat},(∀ i∈l,h3.get i=h.get i)->Zz h3 l h=h
 | [],_=>rfl
 | i::r,hl=>by
   have h1:=hl i (by simp)
   simp only [Zz]
   cases hg:h3.get i with
   | none=>exact Za9 fun j hj=>hl j (by simp [hj])
   | some x=>
     obtain ⟨Zg,o⟩:=x
     rw [hg] at h1
     simp only
     rw [Zqf h1.symm]
     exact Za9 fun j hj=>hl j (by simp [hj])
theorem Vr {C:Ctx} {K:Loc} {f:Nat} {args:List PV} {h:PH} {ok:List Nat} {fn:Func} {c:Code} {v:PV} (hF:C.F f=some fn) (hb:fn.body=some c) (Y5:C.raw f=false) (Zf7:(C.ext f []).isNone=true) (ho:args.flatMap Yi=[]) (hre:reach h 4 (args.flatMap (refs 3))=ok)
  (Zv:ok.all (fun i=>can K i&&(h.get i).isSome)=true) (hlt:∀ i∈ok,i < h.next) (hbo:∀ i∈ok,h.belowAt h.next i=true)
  (hx:wp (W2 C {base:=h.next,lo:=h.next,ok:=ok} true c (Sb 0 args) {h with next:=h.next+fn.ntmps}) fun r=>(r.1=.normal\/r.1=.ret)/\wp (Uk C r.2.1 r.2.2 fn.results.toList) fun vs=>
    inlT r.2.2 (Wh vs)=some v/\(ownT (Wh vs)).all (fun i=>Nat.ble h.next i)=true/\∀ i∈ok,r.2.2.get i=h.get i) (hv:below h.next 4 v=true):
  Yu C K f args h=some (v,h):=by
 have W7:=Zas (args:=args) Zf7 Y5
 have hm:Yw (Xo h) args=some args:=X0 ho
 obtain ⟨⟨x,Yo,h2⟩,h1,h3,h4⟩:=Xq.1 hx
 obtain ⟨vs,h5,h6,h7,h8⟩:=Xq.1 h4
 simp only at h6 h7 h8
 have hfz:∀ i∈ok,(h2.freeze (ownT (Wh vs))).get i=h.get i:=by
  intro i hi
  rw [Rn,h8 i hi]
  intro j hj
  have:=List.all_eq_true.1 h7 j hj
  simp at this
  have:=hlt i hi
  omega
 have hs:Y2 h h2 ok [] (Wh vs)=some (v,h):=by
  unfold Y2
  rw [h6]
  have hall:(ownT (Wh vs)).all (fun i=>Nat.ble h.next i||ok.any (Nat.beq i))=true:=by
   rw [List.all_eq_true] at h7 ⊢
   intro i hi
   rw [h7 i hi];rfl
  have hbl:ok.all (fun i=>(h2.freeze (ownT (Wh vs))).belowAt h.next i)=true:=by
   rw [List.all_eq_true]
   intro i hi
   simp only [PH.belowAt,hfz i hi]
   exact hbo i hi
  simp only [hall,hv,hbl,List.all_nil,Bool.and_true,Bool.true_and,if_true,Za9 hfz]
 rw [Vw]
 unfold callF
 simp only [W7,hF,hb,Y5,Bool.false_eq_true,if_false,hm,ho,hre,Zv,List.all_nil,Bool.and_true,if_true,PH.freeze]
 have h1':W2 C {base:=h.next,lo:=h.next,ok:=ok} true c (Sb 0 args) {next:=h.next+fn.ntmps,get:=h.get}=some (x,Yo,h2):=h1
 rw [h1']
 simp only at h5
 rcases h3 with h3 | h3<;>simp only at h3<;>subst h3<;>simp only [h5]<;>exact hs
theorem Ze4 {C:Ctx} {K:Loc} {f:Nat} {args:List PV} {h:PH} {ok:List Nat} {fn:Func} {c:Code} {R:PV->PH->Prop} (hF:C.F f=some fn) (hb:fn.body=some c) (Y5:C.raw f=false) (Zf7:(C.ext f []).isNone=true) (ho:args.flatMap Yi=[]) (hre:reach h 4 (args.flatMap (refs 3))=ok)
  (Zv:ok.all (fun i=>can K i&&(h.get i).isSome)=true)
  (hx:wp (W2 C {base:=h.next,lo:=h.next,ok:=ok} true c (Sb 0 args) {h with next:=h.next+fn.ntmps}) fun r=>(r.1=.normal\/r.1=.ret)/\wp (Uk C r.2.1 r.2.2 fn.results.toList) fun vs=>
    ∃ v,inlT r.2.2 (Wh vs)=some v/\ownT (Wh vs)=[]/\below h.next 4 v=false/\Xd 5 v=false/\R v r.2.2):
  ∃ v h',Yu C K f args h=some (v,h')/\R v h':=by
 have W7:=Zas (args:=args) Zf7 Y5
 have hm:Yw (Xo h) args=some args:=X0 ho
 obtain ⟨⟨x,Yo,h2⟩,h1,h3,h4⟩:=Xq.1 hx
 obtain ⟨vs,h5,v,h6,h7,h8,h9,h10⟩:=Xq.1 h4
 simp only at h6 h7 h8 h10
 have hs:Y2 h h2 ok [] (Wh vs)=some (v,h2):=by
  unfold Y2
  rw [h6]
  simp only [h7,h8,h9,List.all_nil,if_true,PH.freeze,Bool.false_and,Bool.false_eq_true,if_false,Bool.not_false,Bool.true_or]
 refine ⟨v,h2,?_,h10⟩
 rw [Vw]
 unfold callF
 simp only [W7,hF,hb,Y5,Bool.false_eq_true,if_false,hm,ho,hre,Zv,List.all_nil,Bool.and_true,if_true,PH.freeze]
 have h1':W2 C {base:=h.next,lo:=h.next,ok:=ok} true c (Sb 0 args) {next:=h.next+fn.ntmps,get:=h.get}=some (x,Yo,h2):=h1
 rw [h1']
 simp only at h5
 rcases h3 with h3 | h3<;>simp only at h3<;>subst h3<;>simp only [h5]<;>exact hs
end Go.Pure
end
section
namespace Go.Pure
open Go
open Go.Virt (Ex Ctx Ty TK)
theorem Znc {C:Ctx} {K:Loc} {f:Nat} {args Zx:List PV} {h:PH} {v:PV} (hA:Xy C f Zx v) (hvb:∀ m,below m 4 v=true) (Y5:C.raw f=false) (hm:Yw (Xo h) args=some Zx) (Ys:args.isEmpty=false)
  (ho:Zx.flatMap Yi=[]) (hr:Zx.flatMap (refs 3)=[])
  (hids:(args.flatMap Yi).all (fun i=>can K i&&match h.get i with | some (_,.row g _ _)=>Ym g 14 v | _=>false)=true):Yu C K f args h=some (v,h):=by
 have hx:∀ l:List PV,l.isEmpty=false->extP C f l=none:=by
  intro l hl
  unfold extP
  split
  .cases hl
  .rw [Y5];rfl
  .rfl
 have Zlo:Zx.isEmpty=false:=by
  cases args with
  | nil=>cases Ys
  | cons a l=>
    simp only [Yw] at hm
    split at hm
    .injection hm with hm;subst hm;rfl
    .cases hm
 have hm':∀ H,Yw (Xo H) Zx=some Zx:=by
  intro H
  have Zdn:∀ a,Yi a=[]->Xo H a=some a:=by
   intro a ha
   have hc:∀ cs:List PV,cs.flatMap U1=[]->Yw (Rl H) cs=some cs:=by
    intro cs
    induction cs with
    | nil=>intro _;rfl
    | cons c cs ih=>
      intro hh
      rw [List.flatMap_cons,List.append_eq_nil_iff] at hh
      simp only [Yw,ih hh.2]
      cases c<;>simp_all [U1,Rl]
   cases a with
   | agg cs=>simp only [Xo];rw [hc cs ha];rfl
   | own=>simp [Yi,U1] at ha
   | _=>rfl
  clear hm hr Zlo hA
  induction Zx with
  | nil=>rfl
  | cons a l ih=>
    rw [List.flatMap_cons,List.append_eq_nil_iff] at ho
    simp only [Yw,Zdn a ho.1,ih ho.2]
 have h0:=hA K (h.freeze (args.flatMap Yi))
 have S5:∀ (l:List Nat) (g:PH),(g.freeze l).next=g.next:=by
  intro l
  induction l with
  | nil=>intro g;rfl
  | cons i l ih=>intro g;simp only [PH.freeze];split<;>rw [ih];rfl
 rw [Vw] at h0 ⊢
 unfold callF at h0 ⊢
 rw [hx _ Zlo] at h0
 rw [hx _ Ys]
 cases hF:C.F f with
 | none=>simp only [hF] at h0;cases h0
 | some fn=>
   simp only [hF] at h0 ⊢
   cases hb:fn.body with
   | none=>simp only [hb] at h0;cases h0
   | some c=>
     simp only [hb,Y5,Bool.false_eq_true,if_false,hm',ho,hr,reach,List.all_nil,Bool.and_true,if_true] at h0
     have Zv:(args.flatMap Yi).all (can K)=true:=by
      rw [List.all_eq_true] at hids ⊢
      intro i hi
      have:=hids i hi
      simp only [Bool.and_eq_true] at this
      exact this.1
     simp only [Y5,Bool.false_eq_true,if_false,hm,hr,reach,List.all_nil,Bool.true_and,Zv,if_true]
     have e1:(PH.freeze (h.freeze (args.flatMap Yi)) [])=h.freeze (args.flatMap Yi):=rfl
     rw [e1,S5] at h0
     cases hx:W2 C {base:=h.next,lo:=h.next,ok:=[]} true c (Sb 0 Zx) {h.freeze (args.flatMap Yi) with next:=h.next+fn.ntmps} with
     | none=>rw [hx] at h0;cases h0
     | some r=>
       obtain ⟨x,Yo,h2⟩:=r
       rw [hx] at h0
       have key:∀ vs,Y2 (h.freeze (args.flatMap Yi)) h2 [] [] (Wh vs)=some (v,h.freeze (args.flatMap Yi))->Y2 h h2 [] (args.flatMap Yi) (Wh vs)=some (v,h):=by
        intro vs hs
        unfold Y2 at hs ⊢
        cases hi:inlT h2 (Wh vs) with
        | none=>rw [hi] at hs;cases hs
        | some v'=>
          rw [hi] at hs
          simp only [List.any_nil,Bool.or_false,S5,List.all_nil,Bool.and_true,Zz] at hs ⊢
          by_cases ha:((ownT (Wh vs)).all fun i=>Nat.ble h.next i)=true
          .rw [if_pos ha] at hs ⊢
           have hvv:v'=v:=by
            by_cases hb:below h.next 4 v'=true
            .rw [if_pos hb] at hs
             simp only [if_true,Option.some.injEq,Prod.mk.injEq] at hs
             exact hs.1
            .rw [if_neg hb] at hs
             split at hs
             .simp only [Option.some.injEq,Prod.mk.injEq] at hs;exact hs.1
             .cases hs
           subst hvv
           rw [if_pos (hvb _),if_pos]
           rw [List.all_eq_true] at hids ⊢
           intro i hi
           have:=hids i hi
           simp only [Bool.and_eq_true] at this
           simp only [Bool.not_false,Bool.true_and]
           have h2:=this.2
           split at h2
           .rename_i Zg g own xs hg
            rw [hg]
            cases own<;>simp [h2]
           .cases h2
          .rw [if_neg ha] at hs;cases hs
       cases x with
       | exit=>simp only at h0;cases h0
       | normal=>
         simp only at h0 ⊢
         cases Wa:Uk C Yo h2 fn.results.toList with
         | none=>rw [Wa] at h0;cases h0
         | some vs=>rw [Wa] at h0;exact key vs h0
       | ret=>
         simp only at h0 ⊢
         cases Wa:Uk C Yo h2 fn.results.toList with
         | none=>rw [Wa] at h0;cases h0
         | some vs=>rw [Wa] at h0;exact key vs h0
theorem Acc.callT {C:Ctx} {S:List Nat} {K:Loc} {h:PH} {g f:Nat} {v w:PV} {xs:List PV} (hA:Acc S K h g v xs) (hK:K.lo=K.base) (Y5:C.raw f=false) (pre post:List PV) (Zt4:Xy C f (pre++L g true xs::post) w) (hwb:∀ m,below m 4 w=true) (hw:Ym g 14 w=true)
  (h1:(pre++post).flatMap Yi=[]) (h2:(pre++post).flatMap (refs 3)=[]):Yu C K f (pre++v::post) h=some (w,h):=by
 rw [List.flatMap_append,List.append_eq_nil_iff] at h1 h2
 have Zoe:∀ (a b:List PV) (a' b':List PV),Yw (Xo h) a=some a'->Yw (Xo h) b=some b'->Yw (Xo h) (a++b)=some (a'++b'):=by
  intro a
  induction a with
  | nil=>intro b a' b' e1 e2;simp only [Yw,Option.some.injEq] at e1;subst e1;exact e2
  | cons x a ih=>
    intro b a' b' e1 e2
    simp only [Yw] at e1
    simp only [List.cons_append,Yw]
    split at e1
    .rename_i y ys hy hys
     cases e1
     rw [hy,ih b ys b' hys e2]
     rfl
    .cases e1
 refine Znc Zt4 hwb Y5 (Zoe _ _ _ _ (X0 h1.1) ?_) (by cases pre<;>rfl) ?_ ?_ ?_
 .simp only [Yw,hA.inl,X0 h1.2]
 .rw [List.flatMap_append,List.flatMap_cons,h1.1,h1.2];simp
 .rw [List.flatMap_append,List.flatMap_cons,h2.1,h2.2];simp
 .rw [List.flatMap_append,List.flatMap_cons,h1.1,h1.2]
  rcases hA with ⟨_,rfl⟩ | ⟨d,Zg,_,_,rfl,hg⟩
  .simp
  .simp [hg,can,hK,hw]
theorem Ztc {g g':Nat} {xs:List PV} (hg:g'≠g) (h:∀ x∈xs,Ym g 13 x=true):Ym g 14 (.lst g' xs)=true:=by
 simp only [Ym,Bool.and_eq_true,Bool.not_eq_true',List.all_eq_true]
 exact ⟨by rw [<- Bool.not_eq_true,Nat.beq_eq];exact hg,h⟩
end Go.Pure
end
section
namespace Go.Pure
open Go
open Go.Virt (Ex Ctx Ty TK)
end Go.Pure
end
section
namespace Go.Pure
open Go
open Go.Virt (Ex Ctx Ty TK)
theorem Zy3 {C:Ctx} {K:Loc} {f:Nat} {args Zx:List PV} {h:PH} {v:PV} (hA:Xy C f Zx v) (hvb:∀ m,below m 4 v=true) (Y5:C.raw f=false) (hm:Yw (Xo h) args=some Zx) (Ys:args.isEmpty=false)
  (ho:Zx.flatMap Yi=[]) (hr:Zx.flatMap (refs 3)=[])
  (hids:(args.flatMap Yi).all (fun i=>can K i&&match h.get i with | some (_,.row _ _ _)=>true | _=>false)=true):Yu C K f args h=some (v,h)\/Yu C K f args h=some (v,h.freeze (args.flatMap Yi)):=by
 have hx:∀ l:List PV,l.isEmpty=false->extP C f l=none:=by
  intro l hl
  unfold extP
  split
  .cases hl
  .rw [Y5];rfl
  .rfl
 have Zlo:Zx.isEmpty=false:=by
  cases args with
  | nil=>cases Ys
  | cons a l=>
    simp only [Yw] at hm
    split at hm
    .injection hm with hm;subst hm;rfl
    .cases hm
 have hm':∀ H,Yw (Xo H) Zx=some Zx:=by
  intro H
  have Zdn:∀ a,Yi a=[]->Xo H a=some a:=by
   intro a ha
   have hc:∀ cs:List PV,cs.flatMap U1=[]->Yw (Rl H) cs=some cs:=by
    intro cs
    induction cs with
    | nil=>intro _;rfl
    | cons c cs ih=>
      intro hh
      rw [List.flatMap_cons,List.append_eq_nil_iff] at hh
      simp only [Yw,ih hh.2]
      cases c<;>simp_all [U1,Rl]
   cases a with
   | agg cs=>simp only [Xo];rw [hc cs ha];rfl
   | own=>simp [Yi,U1] at ha
   | _=>rfl
  clear hm hr Zlo hA
  induction Zx with
  | nil=>rfl
  | cons a l ih=>
    rw [List.flatMap_cons,List.append_eq_nil_iff] at ho
    simp only [Yw,Zdn a ho.1,ih ho.2]
 have h0:=hA K (h.freeze (args.flatMap Yi))
 have S5:∀ (l:List Nat) (g:PH),(g.freeze l).next=g.next:=by
  intro l
  induction l with
  | nil=>intro g;rfl
  | cons i l ih=>intro g;simp only [PH.freeze];split<;>rw [ih];rfl
 rw [Vw] at h0 ⊢
 unfold callF at h0 ⊢
 rw [hx _ Zlo] at h0
 rw [hx _ Ys]
 cases hF:C.F f with
 | none=>simp only [hF] at h0;cases h0
 | some fn=>
   simp only [hF] at h0 ⊢
   cases hb:fn.body with
   | none=>simp only [hb] at h0;cases h0
   | some c=>
     simp only [hb,Y5,Bool.false_eq_true,if_false,hm',ho,hr,reach,List.all_nil,Bool.and_true,if_true] at h0
     have Zv:(args.flatMap Yi).all (can K)=true:=by
      rw [List.all_eq_true] at hids ⊢
      intro i hi
      have:=hids i hi
      simp only [Bool.and_eq_true] at this
      exact this.1
     simp only [Y5,Bool.false_eq_true,if_false,hm,hr,reach,List.all_nil,Bool.true_and,Zv,if_true]
     have e1:(PH.freeze (h.freeze (args.flatMap Yi)) [])=h.freeze (args.flatMap Yi):=rfl
     rw [e1,S5] at h0
     cases hx:W2 C {base:=h.next,lo:=h.next,ok:=[]} true c (Sb 0 Zx) {h.freeze (args.flatMap Yi) with next:=h.next+fn.ntmps} with
     | none=>rw [hx] at h0;cases h0
     | some r=>
       obtain ⟨x,Yo,h2⟩:=r
       rw [hx] at h0
       have key:∀ vs,Y2 (h.freeze (args.flatMap Yi)) h2 [] [] (Wh vs)=some (v,h.freeze (args.flatMap Yi))->Y2 h h2 [] (args.flatMap Yi) (Wh vs)=some (v,h)\/Y2 h h2 [] (args.flatMap Yi) (Wh vs)=some (v,h.freeze (args.flatMap Yi)):=by
        intro vs hs
        unfold Y2 at hs ⊢
        cases hi:inlT h2 (Wh vs) with
        | none=>rw [hi] at hs;cases hs
        | some v'=>
          rw [hi] at hs
          simp only [List.any_nil,Bool.or_false,S5,List.all_nil,Bool.and_true,Zz] at hs ⊢
          by_cases ha:((ownT (Wh vs)).all fun i=>Nat.ble h.next i)=true
          .rw [if_pos ha] at hs ⊢
           have hvv:v'=v:=by
            by_cases hb:below h.next 4 v'=true
            .rw [if_pos hb] at hs
             simp only [if_true,Option.some.injEq,Prod.mk.injEq] at hs
             exact hs.1
            .rw [if_neg hb] at hs
             split at hs
             .simp only [Option.some.injEq,Prod.mk.injEq] at hs;exact hs.1
             .cases hs
           subst hvv
           rw [if_pos (hvb _)]
           split
           .exact .inl rfl
           .exact .inr rfl
          .rw [if_neg ha] at hs;cases hs
       cases x with
       | exit=>simp only at h0;cases h0
       | normal=>
         simp only at h0 ⊢
         cases Wa:Uk C Yo h2 fn.results.toList with
         | none=>rw [Wa] at h0;cases h0
         | some vs=>rw [Wa] at h0;exact key vs h0
       | ret=>
         simp only at h0 ⊢
         cases Wa:Uk C Yo h2 fn.results.toList with
         | none=>rw [Wa] at h0;cases h0
         | some vs=>rw [Wa] at h0;exact key vs h0
theorem Acc.callF {C:Ctx} {S:List Nat} {K:Loc} {h:PH} {g f:Nat} {v w:PV} {xs:List PV} (hA:Acc S K h g v xs) (hK:K.lo=K.base) (Y5:C.raw f=false) (pre post:List PV) (Zt4:Xy C f (pre++L g true xs::post) w) (hwb:∀ m,below m 4 w=true)
  (h1:(pre++post).flatMap Yi=[]) (h2:(pre++post).flatMap (refs 3)=[]):∃ h',Yu C K f (pre++v::post) h=some (w,h')/\h'.next=h.next/\∀ j,(∀ d∈S,j≠K.base+d)->h'.get j=h.get j:=by
 rw [List.flatMap_append,List.append_eq_nil_iff] at h1 h2
 have Zoe:∀ (a b:List PV) (a' b':List PV),Yw (Xo h) a=some a'->Yw (Xo h) b=some b'->Yw (Xo h) (a++b)=some (a'++b'):=by
  intro a
  induction a with
  | nil=>intro b a' b' e1 e2;simp only [Yw,Option.some.injEq] at e1;subst e1;exact e2
  | cons x a ih=>
    intro b a' b' e1 e2
    simp only [Yw] at e1
    simp only [List.cons_append,Yw]
    split at e1
    .rename_i y ys hy hys
     cases e1
     rw [hy,ih b ys b' hys e2]
     rfl
    .cases e1
 have hids:(pre++v::post).flatMap Yi=Yi v:=by
  rw [List.flatMap_append,List.flatMap_cons,h1.1,h1.2];simp
 have hfz:(h.freeze (Yi v)).next=h.next/\∀ j,(∀ d∈S,j≠K.base+d)->(h.freeze (Yi v)).get j=h.get j:=by
  rcases hA with ⟨_,rfl⟩ | ⟨d,Zg,_,hd,rfl,hg⟩
  .exact ⟨rfl,fun _ _=>rfl⟩
  .refine ⟨by simp [hg,PH.put],fun j hj=>?_⟩
   simp [hg,PH.put,hj d hd]
 have key:Yu C K f (pre++v::post) h=some (w,h)\/Yu C K f (pre++v::post) h=some (w,h.freeze ((pre++v::post).flatMap Yi)):=by
  refine Zy3 Zt4 hwb Y5 (Zoe _ _ _ _ (X0 h1.1) ?_) (by cases pre<;>rfl) ?_ ?_ ?_
  .simp only [Yw,hA.inl,X0 h1.2]
  .rw [List.flatMap_append,List.flatMap_cons,h1.1,h1.2];simp
  .rw [List.flatMap_append,List.flatMap_cons,h2.1,h2.2];simp
  .rw [List.flatMap_append,List.flatMap_cons,h1.1,h1.2]
   rcases hA with ⟨_,rfl⟩ | ⟨d,Zg,_,_,rfl,hg⟩
   .simp
   .simp [hg,can,hK]
 rcases key with key | key
 .exact ⟨h,key,rfl,fun _ _=>rfl⟩
 .rw [hids] at key
  exact ⟨_,key,hfz.1,hfz.2⟩
end Go.Pure
end
section
namespace Go.Pure
open Go
open Go.Virt (Ex Ctx Ty TK)
theorem Znk {C:Ctx} {K:Loc} {f:Nat} {args:List PV} {h:PH} {fn:Func} {c:Code} {Q:PV×PH->Prop} (W7:extP C f args=none) (hF:C.F f=some fn) (hb:fn.body=some c) (Y5:C.raw f=true)
  (hx:wp (W2 C {base:=h.next,lo:=K.lo,ok:=K.ok} true c (Sb 0 args) {h with next:=h.next+fn.ntmps}) fun r=>(r.1=.normal\/r.1=.ret)/\wp (Uk C r.2.1 r.2.2 fn.results.toList) fun vs=>
    Q (Wh vs,if r.2.2.next=h.next+fn.ntmps/\Zf9 r.2.2 h.next r.2.2.next=true then {r.2.2 with next:=h.next} else r.2.2)):wp (Yu C K f args h) Q:=by
 obtain ⟨⟨x,Yo,h2⟩,h1,h3,h4⟩:=Xq.1 hx
 obtain ⟨vs,h5,h6⟩:=Xq.1 h4
 simp only at h5 h6
 rw [Vw]
 unfold callF
 rw [W7]
 simp only [hF,hb,Y5,if_true]
 have h1':W2 C {base:=h.next,lo:=K.lo,ok:=K.ok} true c (Sb 0 args) {next:=h.next+fn.ntmps,get:=h.get}=some (x,Yo,h2):=h1
 simp only at h3
 rcases h3 with h3 | h3
 all_goals
  subst h3
  simp only [h1',h5]
  split at h6
  .rename_i hc
   rw [if_pos hc]
   exact Xq.2 ⟨_,rfl,h6⟩
  .rename_i hc
   rw [if_neg hc]
   exact Xq.2 ⟨_,rfl,h6⟩
theorem Zzz {C:Ctx} {K:Loc} {l Zg:Nat} {args:List PV} {h:PH} {K0:Loc} {Vl:Yn} {ps:List Nat} {as bd:Code} {Q:PV×PH->Prop} (hl:h.get l=some (Zg,.loop K0 Vl ps as bd)) (hlen:ps.length=args.length) (T8:Nat.ble K.lo K0.lo=true) (hok:K0.ok.all (can K)=true)
  (hx:wp (W2 C K0 false as (Zbj Vl (ps.zip args)) (h.put l Zg .gone)) fun r1=>r1.1=.normal/\wp (W2 C K0 false bd r1.2.1 r1.2.2) fun r2=>r2.1=.normal/\r2.2.2.get l=some (Zg,.gone)/\Q (.bool true,r2.2.2.put l Zg (.loop K0 Vl ps as bd))):wp (Tl C K l Zg args h) Q:=by
 obtain ⟨⟨x1,Rc,h1⟩,e1,rfl,hx2⟩:=Xq.1 hx
 obtain ⟨⟨x2,sl2,h2⟩,e2,rfl,hg,hq⟩:=Xq.1 hx2
 simp only at e2 hg hq
 refine Xq.2 ⟨_,?_,hq⟩
 rw [Zwu]
 unfold yieldF
 rw [hl]
 simp only
 rw [if_pos ⟨trivial,hlen,T8,hok⟩,e1]
 simp only
 rw [e2]
 simp only
 rw [hg]
 simp only [if_true]
theorem Zpo {C:Ctx} {K:Loc} {f:Operand} {ps:Array Nat} {as bd:Code} {sl:Yn} {h:PH} {g:Nat} {first captured:List PV} {Q:Ex×Yn×PH->Prop} (hf:Yq sl f=some (.fn g first captured)) (Y5:C.raw g=true)
  (hx:wp (Yu C K g (first++[.yield h.next 0]++captured) {h.put h.next 0 (.loop K sl ps.toList as bd) with next:=h.next+1}) fun r=>∃ K1 s1 p1 a1 b1,r.2.get h.next=some (0,.loop K1 s1 p1 a1 b1)/\Q (.normal,sl,r.2.put h.next 0 .gone)):wp (W2 C K true (.rangeFunc f ps as bd) sl h) Q:=by
 obtain ⟨⟨u,h'⟩,e1,K1,s1,p1,a1,b1,hg,hq⟩:=Xq.1 hx
 refine Xq.2 ⟨_,?_,hq⟩
 rw [Zyr,hf]
 simp only [Y5,if_true]
 rw [show Yu C K g (first++[.yield h.next 0]++captured) {next:=h.next+1,get:=(h.put h.next 0 (.loop K sl ps.toList as bd)).get}=some (u,h') from e1]
 simp only at hg
 simp only [hg]
end Go.Pure
end
section
namespace Go.Pure
open Go
open Go.Virt (Ex Ctx Ty TK)
theorem Zpq {C:Ctx} {K:Loc} {f:Nat} {args:List PV} {h:PH} {p a b va vb:Nat} {oa ob:PO} {fn:Func} {c:Code} {v:PV} (hF:C.F f=some fn) (hb:fn.body=some c) (Y5:C.raw f=false) (Zf7:(C.ext f []).isNone=true) (ho:args.flatMap Yi=[]) (hre:reach h 4 (args.flatMap (refs 3))=[p,a,b])
  (Zv:[p,a,b].all (fun i=>can K i&&(h.get i).isSome)=true) (hbp:h.belowAt h.next p=true)
  (hx:wp (W2 C {base:=h.next,lo:=h.next,ok:=[p,a,b]} true c (Sb 0 args) {h with next:=h.next+fn.ntmps}) fun r=>(r.1=.normal\/r.1=.ret)/\wp (Uk C r.2.1 r.2.2 fn.results.toList) fun vs=>
    inlT r.2.2 (Wh vs)=some v/\ownT (Wh vs)=[]/\r.2.2.get p=h.get p/\r.2.2.get a=some (va,oa)/\r.2.2.get b=some (vb,ob)) (hv:below h.next 4 v=true) (hba:Zu h.next oa=true) (hbb:Zu h.next ob=true):
  Yu C K f args h=some (v,(h.put a va oa).put b vb ob):=by
 have W7:=Zas (args:=args) Zf7 Y5
 have hm:Yw (Xo h) args=some args:=X0 ho
 obtain ⟨⟨x,Yo,h2⟩,h1,h3,h4⟩:=Xq.1 hx
 obtain ⟨vs,h5,h6,h7,h8,h9,h10⟩:=Xq.1 h4
 simp only at h6 h7 h8 h9 h10
 have hfo:Zz h2 [p,a,b] h=(h.put a va oa).put b vb ob:=by
  cases hp:h2.get p with
  | none=>simp only [Zz,hp,h9,h10]
  | some y=>
    obtain ⟨Zg,o⟩:=y
    simp only [Zz,hp,h9,h10]
    rw [show h.put p Zg o=h from Zqf (by rw [<- h8];exact hp)]
 have hs:Y2 h h2 [p,a,b] [] (Wh vs)=some (v,(h.put a va oa).put b vb ob):=by
  unfold Y2
  rw [h6]
  have hbl:[p,a,b].all (fun i=>h2.belowAt h.next i)=true:=by
   simp only [List.all_cons,List.all_nil,Bool.and_true,PH.belowAt,h9,h10,hba,hbb]
   have:h2.belowAt h.next p=true:=by
    unfold PH.belowAt at hbp ⊢
    rw [h8];exact hbp
   unfold PH.belowAt at this
   rw [this]
  simp only [h7,List.all_nil,if_true,PH.freeze,hv,hbl,Bool.and_self,hfo]
 rw [Vw]
 unfold callF
 simp only [W7,hF,hb,Y5,Bool.false_eq_true,if_false,hm,ho,hre,Zv,List.all_nil,Bool.and_true,if_true,PH.freeze]
 have h1':W2 C {base:=h.next,lo:=h.next,ok:=[p,a,b]} true c (Sb 0 args) {next:=h.next+fn.ntmps,get:=h.get}=some (x,Yo,h2):=h1
 rw [h1']
 simp only at h5
 rcases h3 with h3 | h3<;>simp only at h3<;>subst h3<;>simp only [h5]<;>exact hs
theorem Zww {C:Ctx} {K:Loc} {f:Nat} {x:PV} {rest:List PV} {h:PH} {p a b va vb q vq g n:Nat} {xs:List PV} {oa ob:PO} {fn:Func} {c:Code} {v:PV} (hF:C.F f=some fn) (hb:fn.body=some c) (Y5:C.raw f=false) (Zf7:(C.ext f []).isNone=true) (hox:Yi x=[]) (hor:rest.flatMap Yi=[]) (hre:reach h 4 ((x::.lst g xs::rest).flatMap (refs 3))=[p,a,b])
  (hq:h.get q=some (vq,.row g true xs)) (hn:n=xs.length) (hcq:can K q=true) (hqp:q≠p) (hqa:q≠a) (hqb:q≠b)
  (Zv:[p,a,b].all (fun i=>can K i&&(h.get i).isSome)=true) (hbp:h.belowAt h.next p=true)
  (hx:wp (W2 C {base:=h.next,lo:=h.next,ok:=[p,a,b]} true c (Sb 0 (x::.lst g xs::rest)) {(h.put q vq (.row g false xs)) with next:=h.next+fn.ntmps}) fun r=>(r.1=.normal\/r.1=.ret)/\wp (Uk C r.2.1 r.2.2 fn.results.toList) fun vs=>
    inlT r.2.2 (Wh vs)=some v/\ownT (Wh vs)=[]/\r.2.2.get p=h.get p/\r.2.2.get a=some (va,oa)/\r.2.2.get b=some (vb,ob)) (hv:below h.next 4 v=true) (hba:Zu h.next oa=true) (hbb:Zu h.next ob=true):
  ∃ h'' o,Yu C K f (x::.own q vq g 0 n::rest) h=some (v,h'')/\h''.get q=some (vq,.row g o xs)/\h''.next=h.next:=by
 have W7:=Zas (args:=x::.own q vq g 0 n::rest) Zf7 Y5
 have hmx:Yw (Xo h) [x]=some [x]:=X0 (by simpa using hox)
 have hmr:Yw (Xo h) rest=some rest:=X0 hor
 have hix:Xo h x=some x:=by
  simp only [Yw] at hmx
  cases e:Xo h x with
  | none=>rw [e] at hmx;cases hmx
  | some y=>rw [e] at hmx;simp at hmx;rw [hmx]
 have hm:Yw (Xo h) (x::.own q vq g 0 n::rest)=some (x::.lst g xs::rest):=by
  simp [hix,hmr,hq,hn]
 have hids:(x::PV.own q vq g 0 n::rest).flatMap Yi=[q]:=by
  rw [List.flatMap_cons,List.flatMap_cons,hox,hor];simp
 obtain ⟨⟨y,Yo,h2⟩,h1,h3,h4⟩:=Xq.1 hx
 obtain ⟨vs,h5,h6,h7,h8,h9,h10⟩:=Xq.1 h4
 simp only at h6 h7 h8 h9 h10
 have hgo:∀ hb:PH,hb.next=h.next->hb.get q=some (vq,.row g true xs)\/hb.get q=some (vq,.row g false xs)->∃ o,(Zz h2 [p,a,b] hb).get q=some (vq,.row g o xs)/\(Zz h2 [p,a,b] hb).next=h.next:=by
  intro hb hbn hbq
  have Zg9:∀ (z:PH) i w o,q≠i->(z.put i w o).get q=z.get q/\(z.put i w o).next=z.next:=fun z i w o hi=>⟨by simp [hi],rfl⟩
  have key:(Zz h2 [p,a,b] hb).get q=hb.get q/\(Zz h2 [p,a,b] hb).next=hb.next:=by
   cases hp:h2.get p with
   | none=>
     simp only [Zz,hp,h9,h10]
     rw [(Zg9 _ b vb ob hqb).1,(Zg9 _ a va oa hqa).1]
     exact ⟨rfl,rfl⟩
   | some z=>
     obtain ⟨Zg,o⟩:=z
     simp only [Zz,hp,h9,h10]
     rw [(Zg9 _ b vb ob hqb).1,(Zg9 _ a va oa hqa).1,(Zg9 _ p Zg o hqp).1]
     exact ⟨rfl,rfl⟩
  rw [key.1,key.2,hbn]
  rcases hbq with e | e<;>exact ⟨_,e,rfl⟩
 have hfz:h.freeze [q]=h.put q vq (.row g false xs):=by simp [hq]
 have hs:∃ h'' o,Y2 h h2 [p,a,b] [q] (Wh vs)=some (v,h'')/\h''.get q=some (vq,.row g o xs)/\h''.next=h.next:=by
  unfold Y2
  rw [h6]
  have hbl:[p,a,b].all (fun i=>h2.belowAt h.next i)=true:=by
   simp only [List.all_cons,List.all_nil,Bool.and_true,PH.belowAt,h9,h10,hba,hbb]
   have:h2.belowAt h.next p=true:=by
    unfold PH.belowAt at hbp ⊢
    rw [h8];exact hbp
   unfold PH.belowAt at this
   rw [this]
  simp only [h7,List.all_nil,if_true,hv,Bool.true_and]
  have hbl':[p,a,b].all (fun i=>(h2.freeze []).belowAt h.next i)=true:=hbl
  rw [if_pos hbl']
  split
  .obtain ⟨o,e1,e2⟩:=hgo h rfl (.inl hq)
   exact ⟨_,o,rfl,e1,e2⟩
  .obtain ⟨o,e1,e2⟩:=hgo (h.freeze [q]) (by rw [hfz];rfl) (.inr (by rw [hfz];simp))
   exact ⟨_,o,rfl,e1,e2⟩
 obtain ⟨h'',o,e0,e1,e2⟩:=hs
 refine ⟨h'',o,?_,e1,e2⟩
 rw [Vw]
 unfold callF
 have hcq':[q].all (can K)=true:=by simp only [List.all_cons,List.all_nil,hcq,Bool.and_self]
 simp only [W7,hF,hb,Y5,Bool.false_eq_true,if_false,hm,hids,hre,Zv,hcq',Bool.and_self,if_true,hfz]
 have h1':W2 C {base:=h.next,lo:=h.next,ok:=[p,a,b]} true c (Sb 0 (x::.lst g xs::rest)) {next:=h.next+fn.ntmps,get:=(h.put q vq (.row g false xs)).get}=some (y,Yo,h2):=h1
 rw [h1']
 simp only at h5
 rcases h3 with h3 | h3<;>simp only at h3<;>subst h3<;>simp only [h5]<;>exact e0
end Go.Pure
end
