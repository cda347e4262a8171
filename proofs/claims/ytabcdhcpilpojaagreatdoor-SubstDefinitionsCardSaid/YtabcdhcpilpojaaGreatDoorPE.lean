/- Plain runs with as much fuel as they want: equations. -/
import Derived.Test.YtabcdhcpilpojaaGreatDoorPA
set_option linter.unusedSimpArgs false
set_option linter.unusedVariables false
section
namespace Go.Pure
open Go Go.Virt
open Classical in
noncomputable def lim {α:Type}(f:Nat->Option α):Option α:=if h:∃n,(f n).isSome=true then f h.choose else none
def Zx0 {α:Type}(f:Nat->Option α):Prop:=∀n m r,n<=m->f n=some r->f m=some r
theorem Zie {α:Type}{f:Nat->Option α}(hf:Zx0 f){r:α}:lim f=some r↔∃n,f n=some r:=by
 unfold lim;constructor
 .intro h;split at h
  .exact ⟨_,h⟩
  .cases h
 .rintro ⟨n,hn⟩;have hex:∃n,(f n).isSome=true:=⟨n,by rw[hn];rfl⟩
  rw[dif_pos hex];have h1:=hex.choose_spec;obtain⟨r',hr'⟩:=Option.isSome_iff_exists.1 h1;have h2:=hf _ _ _ (Nat.le_max_left n hex.choose) hn;have h3:=hf _ _ _ (Nat.le_max_right n hex.choose) hr';rw[h2]at h3;rw[hr',h3]
theorem Q7 {α:Type}{f:Nat->Option α}{x:Option α}(hf:Zx0 f)(h1:∀n r,f n=some r->x=some r)(h2:∀r,x=some r->∃n,f n=some r):lim f=x:=by
 cases hx:x with
 |some r=>exact (Zie hf).2 (h2 r hx)
 |none=>
  cases hl:lim f with
  |none=>rfl
  |some r=>
   obtain⟨n,hn⟩:=(Zie hf).1 hl;rw[hx]at h1;cases h1 n r hn
section
variable (C:Ctx)
noncomputable def Vu (K:Loc)(Xt:Bool)(code:Code)(sl:Yt)(h:PH):Option (Ex×Yt×PH):=lim fun n=>exec C n K Xt code sl h
noncomputable def Yf (K:Loc)(f:Nat)(args:List PV)(h:PH):Option (PV×PH):=lim fun n=>call C n K f args h
noncomputable def Sa (K:Loc)(l ver:Nat)(args:List PV)(h:PH):Option (PV×PH):=lim fun n=>yieldF (fun K'=>exec C n K' false) K l ver args h
end
section
variable {C:Ctx}{K:Loc}{Xt:Bool}{sl Yv:Yt}{h h':PH}
theorem Ql {code:Code}:Zx0 (fun n=>exec C n K Xt code sl h):=fun n m r hl he=>T8 hl he
theorem Zn6 {f:Nat}{args:List PV}:Zx0 (fun n=>call C n K f args h):=fun n m r hl he=>Zafp hl he
theorem Zk8 {l ver:Nat}{args:List PV}:Zx0 (fun n=>yieldF (fun K'=>exec C n K' false) K l ver args h):=fun n m r hl he=>Zbb (fun _ _ _ _ _ h'=>T8 hl h') _ _ _ _ _ _ he
theorem Xv {code:Code}{r}:Vu C K Xt code sl h=some r↔∃n,exec C n K Xt code sl h=some r:=Zie Ql
theorem Zag {f:Nat}{args:List PV}{r}:Yf C K f args h=some r↔∃n,call C n K f args h=some r:=Zie Zn6
theorem Zgl {l ver:Nat}{args:List PV}{r}:Sa C K l ver args h=some r↔∃n,yieldF (fun K'=>exec C n K' false) K l ver args h=some r:=Zie Zk8
structure Lims (cfs:Nat->CF)(yfs:Nat->YF)(cf:CF)(yf:YF):Prop where
 c:∀n m,n<=m->Le4 (cfs n) (cfs m)
 y:∀n m,n<=m->Le5 (yfs n) (yfs m)
 cl:∀a b d e r,cf a b d e=some r↔∃n,cfs n a b d e=some r
 yl:∀a b d e f r,yf a b d e f=some r↔∃n,yfs n a b d e f=some r
variable {cfs:Nat->CF}{yfs:Nat->YF}{cf:CF}{yf:YF}
theorem Zmv (L:Lims cfs yfs cf yf){all:List Oper}{o:Oper}{r}:Zf C cf yf all K sl h o=some r↔∃n,Zf C (cfs n) (yfs n) all K sl h o=some r:=by
 constructor
 .intro he;cases Xy:o.op with
  |slice t x lo hi mx=>refine⟨0,?_⟩;cases mx<;>simp only[Zf,Xy]at he ⊢<;>exact he
  |call c=>
   simp only[Zf,Xy]at he ⊢;split at he
   .cases he
   .rename_i args Xu;cases Wt:c.callee with
    |builtin b=>refine⟨0,?_⟩;simp only[Wt]at he ⊢;exact he
    |invoke a b=>simp only[Wt]at he;cases he
    |value f=>
     simp only[Wt]at he ⊢;split at he
     .exact (L.cl _ _ _ _ _).1 he
     .exact (L.yl _ _ _ _ _ _).1 he
     .cases he
  | _=>refine⟨0,?_⟩;simp only[Zf,Xy]at he ⊢<;>exact he
 .rintro ⟨n,he⟩;exact Zd5 (fun a b c d r h=>(L.cl _ _ _ _ _).2 ⟨n,h⟩) (fun a b c d e r h=>(L.yl _ _ _ _ _ _).2 ⟨n,h⟩) he
theorem Zadu (L:Lims cfs yfs cf yf){all:List Oper}{o:Oper}{r}(he:opP C cf yf all K sl h o=some r):∃n,opP C (cfs n) (yfs n) all K sl h o=some r:=by
 unfold opP at he ⊢;split at he
 .exact ⟨0,he⟩
 .split at he
  .exact ⟨0,he⟩
  .exact (Zmv L).1 he
theorem Zm8 (L:Lims cfs yfs cf yf){all:List Oper}:∀ {l:List Oper} {sl:Yt} {h:PH} {r:Yt×PH},Za7 C cf yf K all l sl h=some r->∃n,Za7 C (cfs n) (yfs n) K all l sl h=some r
 | [],sl,h,r,he=>⟨0,he⟩
 |o::l,sl,h,r,he=>by
  simp only[Za7]at he ⊢;split at he
  .rename_i hw;split at he
   .rename_i v h1 ho;obtain⟨n,hn⟩:=Zadu L ho;obtain⟨m,hm⟩:=Zm8 L he;refine⟨max n m,?_⟩;rw[Zvn (L.c _ _ (Nat.le_max_left n m)) (L.y _ _ (Nat.le_max_left n m)) hn];exact Zcb (L.c _ _ (Nat.le_max_right n m)) (L.y _ _ (Nat.le_max_right n m)) hm
   .cases he
  .exact Zm8 L he
  .cases he
theorem Z29 (L:Lims cfs yfs cf yf){all:List Oper}{masks:Array Nat}{o:Oper}{i:Nat}{s s':PD}(he:Zdl C cf yf K all masks o i s=some s'):∃n,Zdl C (cfs n) (yfs n) K all masks o i s=some s':=by
 unfold Zdl at he ⊢
 try dsimp only at he ⊢
 split at he
 .cases he
 .exact ⟨0,he⟩
 .split at he
  .exact ⟨0,he⟩
  .split at he
   .exact ⟨0,he⟩
   .split at he
    .rename_i v h' Xj;obtain⟨n,hn⟩:=(Zmv L).1 Xj;exact⟨n,by rw[hn];exact he⟩
    .cases he
theorem Zqk (L:Lims cfs yfs cf yf){all:List Oper}{masks:Array Nat}:∀ {l:List Oper} {i:Nat} {s s':PD},Qt C cf yf K all masks l i s=some s'->∃n,Qt C (cfs n) (yfs n) K all masks l i s=some s'
 | [],i,s,s',he=>⟨0,he⟩
 |o::l,i,s,s',he=>by
  simp only[Qt]at he ⊢;split at he
  .rename_i st1 h1;obtain⟨n,hn⟩:=Z29 L h1;obtain⟨m,hm⟩:=Zqk L he;refine⟨max n m,?_⟩;rw[Zms (L.c _ _ (Nat.le_max_left n m)) (L.y _ _ (Nat.le_max_left n m)) hn];exact Zgu (L.c _ _ (Nat.le_max_right n m)) (L.y _ _ (Nat.le_max_right n m)) hm
  .cases he
theorem Z5c (L:Lims cfs yfs cf yf){ops:Array Oper}{r:Yt×PH}(he:Zct C cf yf K ops sl h=some r):∃n,Zct C (cfs n) (yfs n) K ops sl h=some r:=by
 unfold Zct at he ⊢;rw[Option.map_eq_some_iff]at he;obtain⟨s,hp,e⟩:=he;obtain⟨n,hn⟩:=Zqk L hp;exact⟨n,by rw[hn,Option.map_some,e]⟩
theorem lims:Lims (fun n=>callF C (fun K'=>exec C n K' true)) (fun n=>yieldF (fun K'=>exec C n K' false)) (Yf C) (Sa C) where
 c:=fun n m hl=>Za2 fun a b c d r h=>T8 hl h
 y:=fun n m hl=>Zbb fun a b c d r h=>T8 hl h
 cl:=fun a b d e r=>Zag
 yl:=fun a b d e f r=>Zgl
theorem Zaae:Vu C K Xt .skip sl h=some (.normal,sl,h):=Xv.2 ⟨1,rfl⟩
theorem Zaag {id:Nat}:Vu C K Xt (.exit id) sl h=some (.exit id,sl,h):=Xv.2 ⟨1,rfl⟩
theorem Zafg:Vu C K Xt .ret sl h=some (.ret,sl,h):=Xv.2 ⟨1,rfl⟩
theorem Z0d {id:Nat}{ops:Array Oper}:Vu C K Xt (.region id ops false) sl h=(Za7 C (Yf C) (Sa C) K ops.toList ops.toList sl h).map fun (Yv,h')=>(.normal,Yv,h'):=by
 refine Q7 Ql (fun n r hn=>?_) (fun r hr=>?_)
 .cases n with
  |zero=>simp[exec]at hn
  |succ n=>
   rw[exec]at hn
   try dsimp only at hn
   simp only[Bool.false_eq_true,if_false,Option.map_eq_some_iff]at hn;obtain⟨x,hx,e⟩:=hn;rw[Zcb (cf':=Yf C) (yf':=Sa C) (fun a b c d r h=>Zag.2 ⟨n,h⟩) (fun a b c d e r h=>Zgl.2 ⟨n,h⟩) hx];exact congrArg some e
 .rw [Option.map_eq_some_iff]at hr;obtain⟨x,hx,e⟩:=hr;obtain⟨n,hn⟩:=Zm8 lims hx;refine⟨n+1,?_⟩;rw[exec]
  try dsimp only
  simp only[Bool.false_eq_true,if_false];rw[hn];exact congrArg some e
theorem Zaah {id:Nat}{ops:Array Oper}:Vu C K Xt (.region id ops true) sl h=(Zct C (Yf C) (Sa C) K ops sl h).map fun (Yv,h')=>(.normal,Yv,h'):=by
 refine Q7 Ql (fun n r hn=>?_) (fun r hr=>?_)
 .cases n with
  |zero=>simp[exec]at hn
  |succ n=>
   rw[exec]at hn
   try dsimp only at hn
   simp only[if_true,Option.map_eq_some_iff]at hn;obtain⟨x,hx,e⟩:=hn;rw[Zoi (cf':=Yf C) (yf':=Sa C) (fun a b c d r h=>Zag.2 ⟨n,h⟩) (fun a b c d e r h=>Zgl.2 ⟨n,h⟩) hx];exact congrArg some e
 .rw [Option.map_eq_some_iff]at hr;obtain⟨x,hx,e⟩:=hr;obtain⟨n,hn⟩:=Z5c lims hx;refine⟨n+1,?_⟩;rw[exec]
  try dsimp only
  simp only[if_true];rw[hn];exact congrArg some e
def Zahr (r:Option (Ex×Yt×PH))(f:Yt->PH->Option (Ex×Yt×PH)):Option (Ex×Yt×PH):=
 match r with
 |some (.normal,sl,h)=>f sl h
 |r=>r
theorem Zaff {a b:Code}:Vu C K Xt (.seq a b) sl h=Zahr (Vu C K Xt a sl h) fun sl h=>Vu C K Xt b sl h:=by
 refine Q7 Ql (fun n r hn=>?_) (fun r hr=>?_)
 .cases n with
  |zero=>simp[exec]at hn
  |succ n=>
   rw[exec]at hn
   try dsimp only at hn
   split at hn
   .rename_i Qz h1 hx;rw[Xv.2 ⟨n,hx⟩];exact Xv.2 ⟨n,hn⟩
   .rename_i Yn;rw[Xv.2 ⟨n,hn⟩];obtain⟨x,Qz,h1⟩:=r;cases x with
    |normal=>exact absurd hn (Yn _ _)
    |exit id=>rfl
    |ret=>rfl
 .cases ha:Vu C K Xt a sl h with
  |none=>rw[ha]at hr;cases hr
  |some q=>
   rw[ha]at hr;obtain⟨n,hn⟩:=Xv.1 ha;obtain⟨x,Qz,h1⟩:=q;cases x with
   |normal=>
    obtain⟨m,hm⟩:=Xv.1 (show Vu C K Xt b Qz h1=some r from hr);refine⟨max n m+1,?_⟩;rw[exec]
    try dsimp only
    rw[T8 (Nat.le_max_left n m) hn];exact T8 (Nat.le_max_right n m) hm
   |exit id=>cases hr;refine⟨n+1,?_⟩;rw[exec];try dsimp only
             rw[hn]
   |ret=>cases hr;refine⟨n+1,?_⟩;rw[exec];try dsimp only
         rw[hn]
theorem Zaai {c:Operand}{a b:Code}:Vu C K Xt (.cond c a b) sl h=(match Yu sl c with
  |some (.bool true)=>Vu C K Xt a sl h
  |some (.bool false)=>Vu C K Xt b sl h
  | _=>none):=by
 refine Q7 Ql (fun n r hn=>?_) (fun r hr=>?_)
 .cases n with
  |zero=>simp[exec]at hn
  |succ n=>
   rw[exec]at hn
   try dsimp only at hn
   split at hn
   .rename_i hc;rw[hc];exact Xv.2 ⟨n,hn⟩
   .rename_i hc;rw[hc];exact Xv.2 ⟨n,hn⟩
   .cases hn
 .split at hr
  .rename_i hc;obtain⟨n,hn⟩:=Xv.1 hr
   exact⟨n+1,by rw[exec];try dsimp only
                rw[hc];exact hn⟩
  .rename_i hc;obtain⟨n,hn⟩:=Xv.1 hr
   exact⟨n+1,by rw[exec];try dsimp only
                rw[hc];exact hn⟩
  .cases hr
def Zaa5 (id:Nat)(r:Option (Ex×Yt×PH)):Option (Ex×Yt×PH):=
 match r with
 |some (.exit id',sl,h)=>if id'=id then some (.normal,sl,h) else some (.exit id',sl,h)
 |r=>r
theorem Z5a {id:Nat}{b:Code}:Vu C K Xt (.block id b) sl h=Zaa5 id (Vu C K Xt b sl h):=by
 refine Q7 Ql (fun n r hn=>?_) (fun r hr=>?_)
 .cases n with
  |zero=>simp[exec]at hn
  |succ n=>
   rw[exec]at hn
   try dsimp only at hn
   split at hn
   .rename_i id' Qz h1 hx;rw[Xv.2 ⟨n,hx⟩];exact hn
   .rename_i Yn;rw[Xv.2 ⟨n,hn⟩];obtain⟨x,Qz,h1⟩:=r;cases x with
    |exit id'=>exact absurd hn (Yn _ _ _)
    |normal=>rfl
    |ret=>rfl
 .cases ha:Vu C K Xt b sl h with
  |none=>rw[ha]at hr;cases hr
  |some q=>
   rw[ha]at hr;obtain⟨n,hn⟩:=Xv.1 ha;refine⟨n+1,?_⟩;rw[exec]
   try dsimp only
   rw[hn];exact hr
theorem Zaaf {b:Code}:Vu C K Xt (.loop b) sl h=Zahr (Vu C K Xt b sl h) fun Yv h'=>Vu C K Xt (.loop b) (Zdp sl Yv) h':=by
 refine Q7 Ql (fun n r hn=>?_) (fun r hr=>?_)
 .cases n with
  |zero=>simp[exec]at hn
  |succ n=>
   rw[exec]at hn
   try dsimp only at hn
   split at hn
   .rename_i Qz h1 hx;rw[Xv.2 ⟨n,hx⟩];exact Xv.2 ⟨n,hn⟩
   .rename_i Yn;rw[Xv.2 ⟨n,hn⟩];obtain⟨x,Qz,h1⟩:=r;cases x with
    |normal=>exact absurd hn (Yn _ _)
    |exit id=>rfl
    |ret=>rfl
 .cases ha:Vu C K Xt b sl h with
  |none=>rw[ha]at hr;cases hr
  |some q=>
   rw[ha]at hr;obtain⟨n,hn⟩:=Xv.1 ha;obtain⟨x,Qz,h1⟩:=q;cases x with
   |normal=>
    obtain⟨m,hm⟩:=Xv.1 (show Vu C K Xt (.loop b) (Zdp sl Qz) h1=some r from hr);refine⟨max n m+1,?_⟩;rw[exec]
    try dsimp only
    rw[T8 (Nat.le_max_left n m) hn];exact T8 (Nat.le_max_right n m) hm
   |exit id=>cases hr;refine⟨n+1,?_⟩;rw[exec];try dsimp only
             rw[hn]
   |ret=>cases hr;refine⟨n+1,?_⟩;rw[exec];try dsimp only
         rw[hn]
theorem Z5p {exs:Nat->EX}{ex:EX}(hm:∀n m,n<=m->Le4 (exs n) (exs m))(hl:∀a b d e r,ex a b d e=some r↔∃n,exs n a b d e=some r){f:Nat}{args:List PV}{r}:
  callF C ex K f args h=some r↔∃n,callF C (exs n) K f args h=some r:=by
 constructor
 .intro he;have:∃n,∀K c sl hh q,ex K c sl hh=some q->(∃fn,C.F f=some fn)->True:=⟨0,fun _ _ _ _ _ _ _=>trivial⟩
  unfold callF at he ⊢;split at he
  .exact ⟨0,he⟩
  split at he
  .cases he
  .rename_i fn hfn;split at he
   .cases he
   .rename_i c hc;split at he
    .rename_i Y4;cases hx:ex {base:=h.next,lo:=K.lo,ok:=K.ok} c (Qn 0 args) {h with next:=h.next+fn.ntmps} with
     |none=>rw[hx]at he;cases he
     |some q=>
      obtain⟨n,hn⟩:=(hl _ _ _ _ _).1 hx;refine⟨n,?_⟩;rw[if_pos Y4,hn];rw[hx]at he;exact he
    .rename_i Y4
     try dsimp only at he ⊢
     split at he
     .cases he
     .rename_i args' Xu;split at he
      .rename_i hok;cases hx:ex {base:=h.next,lo:=h.next,ok:=reach h 4 (args'.flatMap (refs 3))} c (Qn 0 args') {h.freeze (args.flatMap ownV) with next:=h.next+fn.ntmps} with
       |none=>rw[hx]at he;cases he
       |some q=>
        obtain⟨n,hn⟩:=(hl _ _ _ _ _).1 hx;refine⟨n,?_⟩;rw[if_neg Y4,if_pos hok,hn];rw[hx]at he;exact he
      .cases he
 .rintro ⟨n,he⟩;exact Za2 (fun a b c d r h=>(hl _ _ _ _ _).2 ⟨n,h⟩) _ _ _ _ _ he
theorem Zi9 {f:Nat}{args:List PV}:Yf C K f args h=callF C (fun K'=>Vu C K' true) K f args h:=by
 refine Q7 Zn6 (fun n r hn=>?_) (fun r hr=>?_)
 .exact Za2 (fun a b c d r h=>Xv.2 ⟨n,h⟩) _ _ _ _ _ hn
 .exact (Z5p (exs:=fun n K'=>exec C n K' true) (fun n m hl a b c d r h=>T8 hl h) (fun a b d e r=>Xv)).1 hr
theorem Z24 {l ver:Nat}{args:List PV}:Sa C K l ver args h=yieldF (fun K'=>Vu C K' false) K l ver args h:=by
 refine Q7 Zk8 (fun n r hn=>?_) (fun r hr=>?_)
 .exact Zbb (fun a b c d r h=>Xv.2 ⟨n,h⟩) _ _ _ _ _ _ hn
 .unfold yieldF at hr ⊢;split at hr
  .rename_i w K0 Uc ps as bd hl;split at hr
   .rename_i hc
    replace hr:(match Vu C K0 false as (Zeb Uc (ps.zip args)) (h.put l ver .gone) with
     |some (.normal,Qz,h1)=>
      match Vu C K0 false bd Qz h1 with
      |some (.normal,_,h2)=>
       match h2.get l with
       |some (w2,.gone)=>if w2=ver then some (PV.bool true,h2.put l ver (.loop K0 Uc ps as bd)) else none
       | _=>none
      | _=>none
     | _=>none)=some r:=hr
    cases hx:Vu C K0 false as (Zeb Uc (ps.zip args)) (h.put l ver .gone) with
    |none=>rw[hx]at hr;cases hr
    |some q=>
     rw[hx]at hr;obtain⟨n,hn⟩:=Xv.1 hx;obtain⟨x,Qz,h1⟩:=q;cases x with
     |normal=>
      try dsimp only at hr
      cases hx2:Vu C K0 false bd Qz h1 with
      |none=>rw[hx2]at hr;cases hr
      |some q2=>
       rw[hx2]at hr;obtain⟨m,hm⟩:=Xv.1 hx2;refine⟨max n m,?_⟩;simp only[hl];rw[if_pos hc,T8 (Nat.le_max_left n m) hn]
       try dsimp only
       rw[T8 (Nat.le_max_right n m) hm];exact hr
     |exit id=>cases hr
     |ret=>cases hr
   .cases hr
  .cases hr
theorem Z48 {f:Operand}{ps:Array Tmp}{as bd:Code}:Vu C K true (.rangeFunc f ps as bd) sl h=(match Yu sl f with
    |some (.fn g first captured)=>
     if C.raw g then
      match Yf C K g (first++[.yield h.next 0]++captured) {h.put h.next 0 (.loop K sl ps.toList as bd) with next:=h.next+1} with
      |some (_,h')=>match h'.get h.next with
       |some (0,.loop _ _ _ _ _)=>some (.normal,sl,h'.put h.next 0 .gone)
       | _=>none
      |none=>none
     else none
    | _=>none):=by
 refine Q7 Ql (fun n r hn=>?_) (fun r hr=>?_)
 .cases n with
  |zero=>simp[exec]at hn
  |succ n=>
   rw[exec]at hn
   try dsimp only at hn
   simp only[if_true]at hn;split at hn
   .rename_i g first captured hf
    split at hn
    .rename_i Y4;rw[hf]
     try dsimp only
     rw[if_pos Y4];split at hn
     .rename_i u h2 hx;have hx':Yf C K g (first++[.yield h.next 0]++captured) {h.put h.next 0 (.loop K sl ps.toList as bd) with next:=h.next+1}=some (u,h2):=Zag.2 ⟨n,hx⟩;rw[show Yf C K g (first++[.yield h.next 0]++captured) {next:=h.next+1,get:=(h.put h.next 0 (.loop K sl ps.toList as bd)).get}=some (u,h2) from hx'];exact hn
     .cases hn
    .cases hn
   .cases hn
 .split at hr
  .rename_i g first captured hf
   split at hr
   .rename_i Y4;cases hx:Yf C K g (first++[.yield h.next 0]++captured) {h.put h.next 0 (.loop K sl ps.toList as bd) with next:=h.next+1} with
    |none=>rw[hx]at hr;cases hr
    |some q=>
     rw[hx]at hr;obtain⟨n,hn⟩:=Zag.1 hx;refine⟨n+1,?_⟩;rw[exec]
     try dsimp only
     simp only[if_true];rw[hf]
     try dsimp only
     rw[if_pos Y4];have hn':callF C (fun K'=>exec C n K' true) K g (first++[.yield h.next 0]++captured) {h.put h.next 0 (.loop K sl ps.toList as bd) with next:=h.next+1}=some q:=hn;rw[hn'];exact hr
   .cases hr
  .cases hr
end
end Go.Pure
end
