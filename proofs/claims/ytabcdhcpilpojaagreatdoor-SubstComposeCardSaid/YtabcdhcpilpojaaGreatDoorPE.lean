/- Plain runs with as much fuel as they want: equations. -/
import Derived.Test.YtabcdhcpilpojaaGreatDoorPA
set_option linter.unusedSimpArgs false
set_option linter.unusedVariables false
section
namespace Go.Pure
open Go Go.Virt
open Classical in
noncomputable def lim {α:Type}(f:Nat->Option α):Option α:=if h:∃n,(f n).isSome=true then f h.choose else none
def Zxs {α:Type}(f:Nat->Option α):Prop:=∀n m r,n<=m->f n=some r->f m=some r
theorem Zic {α:Type}{f:Nat->Option α}(hf:Zxs f){r:α}:lim f=some r↔∃n,f n=some r:=by
 unfold lim;constructor
 .intro h;split at h
  .exact ⟨_,h⟩
  .cases h
 .rintro ⟨n,hn⟩;have hex:∃n,(f n).isSome=true:=⟨n,by rw[hn];rfl⟩
  rw[dif_pos hex];have h1:=hex.choose_spec;obtain⟨r',hr'⟩:=Option.isSome_iff_exists.1 h1;have h2:=hf _ _ _ (Nat.le_max_left n hex.choose) hn;have h3:=hf _ _ _ (Nat.le_max_right n hex.choose) hr';rw[h2]at h3;rw[hr',h3]
theorem Zac {α:Type}{f:Nat->Option α}{x:Option α}(hf:Zxs f)(h1:∀n r,f n=some r->x=some r)(h2:∀r,x=some r->∃n,f n=some r):lim f=x:=by
 cases hx:x with
 |some r=>exact (Zic hf).2 (h2 r hx)
 |none=>
  cases hl:lim f with
  |none=>rfl
  |some r=>
   obtain⟨n,hn⟩:=(Zic hf).1 hl;rw[hx]at h1;cases h1 n r hn
section
variable (C:Ctx)
noncomputable def Vl (K:Loc)(Xy:Bool)(code:Code)(sl:Yu)(h:PH):Option (Ex×Yu×PH):=lim fun n=>exec C n K Xy code sl h
noncomputable def Yv (K:Loc)(f:Nat)(args:List PV)(h:PH):Option (PV×PH):=lim fun n=>call C n K f args h
noncomputable def Sc (K:Loc)(l Zc:Nat)(args:List PV)(h:PH):Option (PV×PH):=lim fun n=>yieldF (fun K'=>exec C n K' false) K l Zc args h
end
section
variable {C:Ctx}{K:Loc}{Xy:Bool}{sl Yw:Yu}{h h':PH}
theorem Qr {code:Code}:Zxs (fun n=>exec C n K Xy code sl h):=fun n m r hl he=>T8 hl he
theorem Zn3 {f:Nat}{args:List PV}:Zxs (fun n=>call C n K f args h):=fun n m r hl he=>Zaev hl he
theorem Zk5 {l Zc:Nat}{args:List PV}:Zxs (fun n=>yieldF (fun K'=>exec C n K' false) K l Zc args h):=fun n m r hl he=>Zbk (fun _ _ _ _ _ h'=>T8 hl h') _ _ _ _ _ _ he
theorem X0 {code:Code}{r}:Vl C K Xy code sl h=some r↔∃n,exec C n K Xy code sl h=some r:=Zic Qr
theorem Zaj {f:Nat}{args:List PV}{r}:Yv C K f args h=some r↔∃n,call C n K f args h=some r:=Zic Zn3
theorem Zgm {l Zc:Nat}{args:List PV}{r}:Sc C K l Zc args h=some r↔∃n,yieldF (fun K'=>exec C n K' false) K l Zc args h=some r:=Zic Zk5
structure Lims (cfs:Nat->CF)(yfs:Nat->YF)(cf:CF)(yf:YF):Prop where
 c:∀n m,n<=m->Le4 (cfs n) (cfs m)
 y:∀n m,n<=m->Le5 (yfs n) (yfs m)
 cl:∀a b d e r,cf a b d e=some r↔∃n,cfs n a b d e=some r
 yl:∀a b d e f r,yf a b d e f=some r↔∃n,yfs n a b d e f=some r
variable {cfs:Nat->CF}{yfs:Nat->YF}{cf:CF}{yf:YF}
theorem Zms (L:Lims cfs yfs cf yf){all:List Oper}{o:Oper}{r}:Zh C cf yf all K sl h o=some r↔∃n,Zh C (cfs n) (yfs n) all K sl h o=some r:=by
 constructor
 .intro he;cases X7:o.op with
  |slice t x lo hi mx=>refine⟨0,?_⟩;cases mx<;>simp only[Zh,X7]at he ⊢<;>exact he
  |call c=>
   simp only[Zh,X7]at he ⊢;split at he
   .cases he
   .rename_i args Xz;cases Wt:c.callee with
    |builtin b=>refine⟨0,?_⟩;simp only[Wt]at he ⊢;exact he
    |invoke a b=>simp only[Wt]at he;cases he
    |value f=>
     simp only[Wt]at he ⊢;split at he
     .exact (L.cl _ _ _ _ _).1 he
     .exact (L.yl _ _ _ _ _ _).1 he
     .cases he
  | _=>refine⟨0,?_⟩;simp only[Zh,X7]at he ⊢<;>exact he
 .rintro ⟨n,he⟩;exact Zea (fun a b c d r h=>(L.cl _ _ _ _ _).2 ⟨n,h⟩) (fun a b c d e r h=>(L.yl _ _ _ _ _ _).2 ⟨n,h⟩) he
theorem Zac4 (L:Lims cfs yfs cf yf){all:List Oper}{o:Oper}{r}(he:opP C cf yf all K sl h o=some r):∃n,opP C (cfs n) (yfs n) all K sl h o=some r:=by
 unfold opP at he ⊢;split at he
 .exact ⟨0,he⟩
 .split at he
  .exact ⟨0,he⟩
  .exact (Zms L).1 he
theorem Zm3 (L:Lims cfs yfs cf yf){all:List Oper}:∀ {l:List Oper} {sl:Yu} {h:PH} {r:Yu×PH},Zbg C cf yf K all l sl h=some r->∃n,Zbg C (cfs n) (yfs n) K all l sl h=some r
 | [],sl,h,r,he=>⟨0,he⟩
 |o::l,sl,h,r,he=>by
  simp only[Zbg]at he ⊢;split at he
  .rename_i hw;split at he
   .rename_i v h1 ho;obtain⟨n,hn⟩:=Zac4 L ho;obtain⟨m,hm⟩:=Zm3 L he;refine⟨max n m,?_⟩;rw[Zve (L.c _ _ (Nat.le_max_left n m)) (L.y _ _ (Nat.le_max_left n m)) hn];exact Zch (L.c _ _ (Nat.le_max_right n m)) (L.y _ _ (Nat.le_max_right n m)) hm
   .cases he
  .exact Zm3 L he
  .cases he
theorem Z25 (L:Lims cfs yfs cf yf){all:List Oper}{masks:Array Nat}{o:Oper}{i:Nat}{s s':PD}(he:Zdm C cf yf K all masks o i s=some s'):∃n,Zdm C (cfs n) (yfs n) K all masks o i s=some s':=by
 unfold Zdm at he ⊢
 try dsimp only at he ⊢
 split at he
 .cases he
 .exact ⟨0,he⟩
 .split at he
  .exact ⟨0,he⟩
  .split at he
   .exact ⟨0,he⟩
   .split at he
    .rename_i v h' X2;obtain⟨n,hn⟩:=(Zms L).1 X2;exact⟨n,by rw[hn];exact he⟩
    .cases he
theorem Zqd (L:Lims cfs yfs cf yf){all:List Oper}{masks:Array Nat}:∀ {l:List Oper} {i:Nat} {s s':PD},Qz C cf yf K all masks l i s=some s'->∃n,Qz C (cfs n) (yfs n) K all masks l i s=some s'
 | [],i,s,s',he=>⟨0,he⟩
 |o::l,i,s,s',he=>by
  simp only[Qz]at he ⊢;split at he
  .rename_i st1 h1;obtain⟨n,hn⟩:=Z25 L h1;obtain⟨m,hm⟩:=Zqd L he;refine⟨max n m,?_⟩;rw[Zmp (L.c _ _ (Nat.le_max_left n m)) (L.y _ _ (Nat.le_max_left n m)) hn];exact Zgv (L.c _ _ (Nat.le_max_right n m)) (L.y _ _ (Nat.le_max_right n m)) hm
  .cases he
theorem Z45 (L:Lims cfs yfs cf yf){ops:Array Oper}{r:Yu×PH}(he:Zcw C cf yf K ops sl h=some r):∃n,Zcw C (cfs n) (yfs n) K ops sl h=some r:=by
 unfold Zcw at he ⊢;rw[Option.map_eq_some_iff]at he;obtain⟨s,hp,e⟩:=he;obtain⟨n,hn⟩:=Zqd L hp;exact⟨n,by rw[hn,Option.map_some,e]⟩
theorem lims:Lims (fun n=>callF C (fun K'=>exec C n K' true)) (fun n=>yieldF (fun K'=>exec C n K' false)) (Yv C) (Sc C) where
 c:=fun n m hl=>Za8 fun a b c d r h=>T8 hl h
 y:=fun n m hl=>Zbk fun a b c d r h=>T8 hl h
 cl:=fun a b d e r=>Zaj
 yl:=fun a b d e f r=>Zgm
theorem Z91:Vl C K Xy .skip sl h=some (.normal,sl,h):=X0.2 ⟨1,rfl⟩
theorem Z93 {id:Nat}:Vl C K Xy (.exit id) sl h=some (.exit id,sl,h):=X0.2 ⟨1,rfl⟩
theorem Zaeo:Vl C K Xy .ret sl h=some (.ret,sl,h):=X0.2 ⟨1,rfl⟩
theorem Zzy {id:Nat}{ops:Array Oper}:Vl C K Xy (.region id ops false) sl h=(Zbg C (Yv C) (Sc C) K ops.toList ops.toList sl h).map fun (Yw,h')=>(.normal,Yw,h'):=by
 refine Zac Qr (fun n r hn=>?_) (fun r hr=>?_)
 .cases n with
  |zero=>simp[exec]at hn
  |succ n=>
   rw[exec]at hn
   try dsimp only at hn
   simp only[Bool.false_eq_true,if_false,Option.map_eq_some_iff]at hn;obtain⟨x,hx,e⟩:=hn;rw[Zch (cf':=Yv C) (yf':=Sc C) (fun a b c d r h=>Zaj.2 ⟨n,h⟩) (fun a b c d e r h=>Zgm.2 ⟨n,h⟩) hx];exact congrArg some e
 .rw [Option.map_eq_some_iff]at hr;obtain⟨x,hx,e⟩:=hr;obtain⟨n,hn⟩:=Zm3 lims hx;refine⟨n+1,?_⟩;rw[exec]
  try dsimp only
  simp only[Bool.false_eq_true,if_false];rw[hn];exact congrArg some e
theorem Z94 {id:Nat}{ops:Array Oper}:Vl C K Xy (.region id ops true) sl h=(Zcw C (Yv C) (Sc C) K ops sl h).map fun (Yw,h')=>(.normal,Yw,h'):=by
 refine Zac Qr (fun n r hn=>?_) (fun r hr=>?_)
 .cases n with
  |zero=>simp[exec]at hn
  |succ n=>
   rw[exec]at hn
   try dsimp only at hn
   simp only[if_true,Option.map_eq_some_iff]at hn;obtain⟨x,hx,e⟩:=hn;rw[Zof (cf':=Yv C) (yf':=Sc C) (fun a b c d r h=>Zaj.2 ⟨n,h⟩) (fun a b c d e r h=>Zgm.2 ⟨n,h⟩) hx];exact congrArg some e
 .rw [Option.map_eq_some_iff]at hr;obtain⟨x,hx,e⟩:=hr;obtain⟨n,hn⟩:=Z45 lims hx;refine⟨n+1,?_⟩;rw[exec]
  try dsimp only
  simp only[if_true];rw[hn];exact congrArg some e
def Zagv (r:Option (Ex×Yu×PH))(f:Yu->PH->Option (Ex×Yu×PH)):Option (Ex×Yu×PH):=
 match r with
 |some (.normal,sl,h)=>f sl h
 |r=>r
theorem Zaen {a b:Code}:Vl C K Xy (.seq a b) sl h=Zagv (Vl C K Xy a sl h) fun sl h=>Vl C K Xy b sl h:=by
 refine Zac Qr (fun n r hn=>?_) (fun r hr=>?_)
 .cases n with
  |zero=>simp[exec]at hn
  |succ n=>
   rw[exec]at hn
   try dsimp only at hn
   split at hn
   .rename_i Q5 h1 hx;rw[X0.2 ⟨n,hx⟩];exact X0.2 ⟨n,hn⟩
   .rename_i Yi;rw[X0.2 ⟨n,hn⟩];obtain⟨x,Q5,h1⟩:=r;cases x with
    |normal=>exact absurd hn (Yi _ _)
    |exit id=>rfl
    |ret=>rfl
 .cases ha:Vl C K Xy a sl h with
  |none=>rw[ha]at hr;cases hr
  |some q=>
   rw[ha]at hr;obtain⟨n,hn⟩:=X0.1 ha;obtain⟨x,Q5,h1⟩:=q;cases x with
   |normal=>
    obtain⟨m,hm⟩:=X0.1 (show Vl C K Xy b Q5 h1=some r from hr);refine⟨max n m+1,?_⟩;rw[exec]
    try dsimp only
    rw[T8 (Nat.le_max_left n m) hn];exact T8 (Nat.le_max_right n m) hm
   |exit id=>cases hr;refine⟨n+1,?_⟩;rw[exec];try dsimp only
             rw[hn]
   |ret=>cases hr;refine⟨n+1,?_⟩;rw[exec];try dsimp only
         rw[hn]
theorem Z95 {c:Operand}{a b:Code}:Vl C K Xy (.cond c a b) sl h=(match Yx sl c with
  |some (.bool true)=>Vl C K Xy a sl h
  |some (.bool false)=>Vl C K Xy b sl h
  | _=>none):=by
 refine Zac Qr (fun n r hn=>?_) (fun r hr=>?_)
 .cases n with
  |zero=>simp[exec]at hn
  |succ n=>
   rw[exec]at hn
   try dsimp only at hn
   split at hn
   .rename_i hc;rw[hc];exact X0.2 ⟨n,hn⟩
   .rename_i hc;rw[hc];exact X0.2 ⟨n,hn⟩
   .cases hn
 .split at hr
  .rename_i hc;obtain⟨n,hn⟩:=X0.1 hr
   exact⟨n+1,by rw[exec];try dsimp only
                rw[hc];exact hn⟩
  .rename_i hc;obtain⟨n,hn⟩:=X0.1 hr
   exact⟨n+1,by rw[exec];try dsimp only
                rw[hc];exact hn⟩
  .cases hr
def Zaaq (id:Nat)(r:Option (Ex×Yu×PH)):Option (Ex×Yu×PH):=
 match r with
 |some (.exit id',sl,h)=>if id'=id then some (.normal,sl,h) else some (.exit id',sl,h)
 |r=>r
theorem Z43 {id:Nat}{b:Code}:Vl C K Xy (.block id b) sl h=Zaaq id (Vl C K Xy b sl h):=by
 refine Zac Qr (fun n r hn=>?_) (fun r hr=>?_)
 .cases n with
  |zero=>simp[exec]at hn
  |succ n=>
   rw[exec]at hn
   try dsimp only at hn
   split at hn
   .rename_i id' Q5 h1 hx;rw[X0.2 ⟨n,hx⟩];exact hn
   .rename_i Yi;rw[X0.2 ⟨n,hn⟩];obtain⟨x,Q5,h1⟩:=r;cases x with
    |exit id'=>exact absurd hn (Yi _ _ _)
    |normal=>rfl
    |ret=>rfl
 .cases ha:Vl C K Xy b sl h with
  |none=>rw[ha]at hr;cases hr
  |some q=>
   rw[ha]at hr;obtain⟨n,hn⟩:=X0.1 ha;refine⟨n+1,?_⟩;rw[exec]
   try dsimp only
   rw[hn];exact hr
theorem Z92 {b:Code}:Vl C K Xy (.loop b) sl h=Zagv (Vl C K Xy b sl h) fun Yw h'=>Vl C K Xy (.loop b) (Zdq sl Yw) h':=by
 refine Zac Qr (fun n r hn=>?_) (fun r hr=>?_)
 .cases n with
  |zero=>simp[exec]at hn
  |succ n=>
   rw[exec]at hn
   try dsimp only at hn
   split at hn
   .rename_i Q5 h1 hx;rw[X0.2 ⟨n,hx⟩];exact X0.2 ⟨n,hn⟩
   .rename_i Yi;rw[X0.2 ⟨n,hn⟩];obtain⟨x,Q5,h1⟩:=r;cases x with
    |normal=>exact absurd hn (Yi _ _)
    |exit id=>rfl
    |ret=>rfl
 .cases ha:Vl C K Xy b sl h with
  |none=>rw[ha]at hr;cases hr
  |some q=>
   rw[ha]at hr;obtain⟨n,hn⟩:=X0.1 ha;obtain⟨x,Q5,h1⟩:=q;cases x with
   |normal=>
    obtain⟨m,hm⟩:=X0.1 (show Vl C K Xy (.loop b) (Zdq sl Q5) h1=some r from hr);refine⟨max n m+1,?_⟩;rw[exec]
    try dsimp only
    rw[T8 (Nat.le_max_left n m) hn];exact T8 (Nat.le_max_right n m) hm
   |exit id=>cases hr;refine⟨n+1,?_⟩;rw[exec];try dsimp only
             rw[hn]
   |ret=>cases hr;refine⟨n+1,?_⟩;rw[exec];try dsimp only
         rw[hn]
theorem Z5k {exs:Nat->EX}{ex:EX}(hm:∀n m,n<=m->Le4 (exs n) (exs m))(hl:∀a b d e r,ex a b d e=some r↔∃n,exs n a b d e=some r){f:Nat}{args:List PV}{r}:
  callF C ex K f args h=some r↔∃n,callF C (exs n) K f args h=some r:=by
 constructor
 .intro he;have:∃n,∀K c sl hh q,ex K c sl hh=some q->(∃fn,C.F f=some fn)->True:=⟨0,fun _ _ _ _ _ _ _=>trivial⟩
  unfold callF at he ⊢;split at he
  .exact ⟨0,he⟩
  split at he
  .cases he
  .rename_i fn Rn;split at he
   .cases he
   .rename_i c hc;split at he
    .rename_i Xk;cases hx:ex {base:=h.next,lo:=K.lo,ok:=K.ok} c (Sb 0 args) {h with next:=h.next+fn.ntmps} with
     |none=>rw[hx]at he;cases he
     |some q=>
      obtain⟨n,hn⟩:=(hl _ _ _ _ _).1 hx;refine⟨n,?_⟩;rw[if_pos Xk,hn];rw[hx]at he;exact he
    .rename_i Xk
     try dsimp only at he ⊢
     split at he
     .cases he
     .rename_i args' Xz;split at he
      .rename_i hok;cases hx:ex {base:=h.next,lo:=h.next,ok:=reach h 4 (args'.flatMap (refs 3))} c (Sb 0 args') {h.freeze (args.flatMap ownV) with next:=h.next+fn.ntmps} with
       |none=>rw[hx]at he;cases he
       |some q=>
        obtain⟨n,hn⟩:=(hl _ _ _ _ _).1 hx;refine⟨n,?_⟩;rw[if_neg Xk,if_pos hok,hn];rw[hx]at he;exact he
      .cases he
 .rintro ⟨n,he⟩;exact Za8 (fun a b c d r h=>(hl _ _ _ _ _).2 ⟨n,h⟩) _ _ _ _ _ he
theorem Uo {f:Nat}{args:List PV}:Yv C K f args h=callF C (fun K'=>Vl C K' true) K f args h:=by
 refine Zac Zn3 (fun n r hn=>?_) (fun r hr=>?_)
 .exact Za8 (fun a b c d r h=>X0.2 ⟨n,h⟩) _ _ _ _ _ hn
 .exact (Z5k (exs:=fun n K'=>exec C n K' true) (fun n m hl a b c d r h=>T8 hl h) (fun a b d e r=>X0)).1 hr
theorem Z2x {l Zc:Nat}{args:List PV}:Sc C K l Zc args h=yieldF (fun K'=>Vl C K' false) K l Zc args h:=by
 refine Zac Zk5 (fun n r hn=>?_) (fun r hr=>?_)
 .exact Zbk (fun a b c d r h=>X0.2 ⟨n,h⟩) _ _ _ _ _ _ hn
 .unfold yieldF at hr ⊢;split at hr
  .rename_i w K0 Ud ps as bd hl;split at hr
   .rename_i hc
    replace hr:(match Vl C K0 false as (Zef Ud (ps.zip args)) (h.put l Zc .gone) with
     |some (.normal,Q5,h1)=>
      match Vl C K0 false bd Q5 h1 with
      |some (.normal,_,h2)=>
       match h2.get l with
       |some (w2,.gone)=>if w2=Zc then some (PV.bool true,h2.put l Zc (.loop K0 Ud ps as bd)) else none
       | _=>none
      | _=>none
     | _=>none)=some r:=hr
    cases hx:Vl C K0 false as (Zef Ud (ps.zip args)) (h.put l Zc .gone) with
    |none=>rw[hx]at hr;cases hr
    |some q=>
     rw[hx]at hr;obtain⟨n,hn⟩:=X0.1 hx;obtain⟨x,Q5,h1⟩:=q;cases x with
     |normal=>
      try dsimp only at hr
      cases hx2:Vl C K0 false bd Q5 h1 with
      |none=>rw[hx2]at hr;cases hr
      |some q2=>
       rw[hx2]at hr;obtain⟨m,hm⟩:=X0.1 hx2;refine⟨max n m,?_⟩;simp only[hl];rw[if_pos hc,T8 (Nat.le_max_left n m) hn]
       try dsimp only
       rw[T8 (Nat.le_max_right n m) hm];exact hr
     |exit id=>cases hr
     |ret=>cases hr
   .cases hr
  .cases hr
theorem Z41 {f:Operand}{ps:Array Tmp}{as bd:Code}:Vl C K true (.rangeFunc f ps as bd) sl h=(match Yx sl f with
    |some (.fn g first captured)=>
     if C.raw g then
      match Yv C K g (first++[.yield h.next 0]++captured) {h.put h.next 0 (.loop K sl ps.toList as bd) with next:=h.next+1} with
      |some (_,h')=>match h'.get h.next with
       |some (0,.loop _ _ _ _ _)=>some (.normal,sl,h'.put h.next 0 .gone)
       | _=>none
      |none=>none
     else none
    | _=>none):=by
 refine Zac Qr (fun n r hn=>?_) (fun r hr=>?_)
 .cases n with
  |zero=>simp[exec]at hn
  |succ n=>
   rw[exec]at hn
   try dsimp only at hn
   simp only[if_true]at hn;split at hn
   .rename_i g first captured hf
    split at hn
    .rename_i Xk;rw[hf]
     try dsimp only
     rw[if_pos Xk];split at hn
     .rename_i u h2 hx;have hx':Yv C K g (first++[.yield h.next 0]++captured) {h.put h.next 0 (.loop K sl ps.toList as bd) with next:=h.next+1}=some (u,h2):=Zaj.2 ⟨n,hx⟩;rw[show Yv C K g (first++[.yield h.next 0]++captured) {next:=h.next+1,get:=(h.put h.next 0 (.loop K sl ps.toList as bd)).get}=some (u,h2) from hx'];exact hn
     .cases hn
    .cases hn
   .cases hn
 .split at hr
  .rename_i g first captured hf
   split at hr
   .rename_i Xk;cases hx:Yv C K g (first++[.yield h.next 0]++captured) {h.put h.next 0 (.loop K sl ps.toList as bd) with next:=h.next+1} with
    |none=>rw[hx]at hr;cases hr
    |some q=>
     rw[hx]at hr;obtain⟨n,hn⟩:=Zaj.1 hx;refine⟨n+1,?_⟩;rw[exec]
     try dsimp only
     simp only[if_true];rw[hf]
     try dsimp only
     rw[if_pos Xk];have hn':callF C (fun K'=>exec C n K' true) K g (first++[.yield h.next 0]++captured) {h.put h.next 0 (.loop K sl ps.toList as bd) with next:=h.next+1}=some q:=hn;rw[hn'];exact hr
   .cases hr
  .cases hr
end
end Go.Pure
end
