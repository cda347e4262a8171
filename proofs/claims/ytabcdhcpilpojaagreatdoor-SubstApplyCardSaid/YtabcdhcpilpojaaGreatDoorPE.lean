/- Plain runs with as much fuel as they want: equations. -/
import Derived.Test.YtabcdhcpilpojaaGreatDoorPA
set_option linter.unusedSimpArgs false
set_option linter.unusedVariables false
section
namespace Go.Pure
open Go Go.Virt
open Classical in
noncomputable def lim {α:Type}(f:Nat->Option α):Option α:=if h:∃n,(f n).isSome=true then f h.choose else none
def Zwh {α:Type}(f:Nat->Option α):Prop:=∀n m r,n<=m->f n=some r->f m=some r
theorem Zhr {α:Type}{f:Nat->Option α}(hf:Zwh f){r:α}:lim f=some r↔∃n,f n=some r:=by
 unfold lim;constructor
 .intro h;split at h
  .exact ⟨_,h⟩
  .cases h
 .rintro ⟨n,hn⟩;have hex:∃n,(f n).isSome=true:=⟨n,by rw[hn];rfl⟩
  rw[dif_pos hex];have h1:=hex.choose_spec;obtain⟨r',hr'⟩:=Option.isSome_iff_exists.1 h1;have h2:=hf _ _ _ (Nat.le_max_left n hex.choose) hn;have h3:=hf _ _ _ (Nat.le_max_right n hex.choose) hr';rw[h2]at h3;rw[hr',h3]
theorem Qy {α:Type}{f:Nat->Option α}{x:Option α}(hf:Zwh f)(h1:∀n r,f n=some r->x=some r)(h2:∀r,x=some r->∃n,f n=some r):lim f=x:=by
 cases hx:x with
 |some r=>exact (Zhr hf).2 (h2 r hx)
 |none=>
  cases hl:lim f with
  |none=>rfl
  |some r=>
   obtain⟨n,hn⟩:=(Zhr hf).1 hl;rw[hx]at h1;cases h1 n r hn
section
variable (C:Ctx)
noncomputable def Vh (K:Loc)(Xx:Bool)(code:Code)(sl:Yw)(h:PH):Option (Ex×Yw×PH):=lim fun n=>exec C n K Xx code sl h
noncomputable def Yx (K:Loc)(f:Nat)(args:List PV)(h:PH):Option (PV×PH):=lim fun n=>call C n K f args h
noncomputable def Ut (K:Loc)(l Zc:Nat)(args:List PV)(h:PH):Option (PV×PH):=lim fun n=>yieldF (fun K'=>exec C n K' false) K l Zc args h
end
section
variable {C:Ctx}{K:Loc}{Xx:Bool}{sl Yy:Yw}{h h':PH}
theorem Qd {code:Code}:Zwh (fun n=>exec C n K Xx code sl h):=fun n m r hl he=>Tu hl he
theorem Zm7 {f:Nat}{args:List PV}:Zwh (fun n=>call C n K f args h):=fun n m r hl he=>Zac0 hl he
theorem Zkc {l Zc:Nat}{args:List PV}:Zwh (fun n=>yieldF (fun K'=>exec C n K' false) K l Zc args h):=fun n m r hl he=>Za7 (fun _ _ _ _ _ h'=>Tu hl h') _ _ _ _ _ _ he
theorem X0 {code:Code}{r}:Vh C K Xx code sl h=some r↔∃n,exec C n K Xx code sl h=some r:=Zhr Qd
theorem Q6 {f:Nat}{args:List PV}{r}:Yx C K f args h=some r↔∃n,call C n K f args h=some r:=Zhr Zm7
theorem Zf5 {l Zc:Nat}{args:List PV}{r}:Ut C K l Zc args h=some r↔∃n,yieldF (fun K'=>exec C n K' false) K l Zc args h=some r:=Zhr Zkc
structure Lims (cfs:Nat->CF)(yfs:Nat->YF)(cf:CF)(yf:YF):Prop where
 c:∀n m,n<=m->Le4 (cfs n) (cfs m)
 y:∀n m,n<=m->Le5 (yfs n) (yfs m)
 cl:∀a b d e r,cf a b d e=some r↔∃n,cfs n a b d e=some r
 yl:∀a b d e f r,yf a b d e f=some r↔∃n,yfs n a b d e f=some r
variable {cfs:Nat->CF}{yfs:Nat->YF}{cf:CF}{yf:YF}
theorem Zlz (L:Lims cfs yfs cf yf){all:List Oper}{o:Oper}{r}:Zj C cf yf all K sl h o=some r↔∃n,Zj C (cfs n) (yfs n) all K sl h o=some r:=by
 constructor
 .intro he;cases X8:o.op with
  |slice t x lo hi mx=>refine⟨0,?_⟩;cases mx<;>simp only[Zj,X8]at he ⊢<;>exact he
  |call c=>
   simp only[Zj,X8]at he ⊢;split at he
   .cases he
   .rename_i args Xz;cases Wp:c.callee with
    |builtin b=>refine⟨0,?_⟩;simp only[Wp]at he ⊢;exact he
    |invoke a b=>simp only[Wp]at he;cases he
    |value f=>
     simp only[Wp]at he ⊢;split at he
     .exact (L.cl _ _ _ _ _).1 he
     .exact (L.yl _ _ _ _ _ _).1 he
     .cases he
  | _=>refine⟨0,?_⟩;simp only[Zj,X8]at he ⊢<;>exact he
 .rintro ⟨n,he⟩;exact Zdt (fun a b c d r h=>(L.cl _ _ _ _ _).2 ⟨n,h⟩) (fun a b c d e r h=>(L.yl _ _ _ _ _ _).2 ⟨n,h⟩) he
theorem Zabd (L:Lims cfs yfs cf yf){all:List Oper}{o:Oper}{r}(he:opP C cf yf all K sl h o=some r):∃n,opP C (cfs n) (yfs n) all K sl h o=some r:=by
 unfold opP at he ⊢;split at he
 .exact ⟨0,he⟩
 .split at he
  .exact ⟨0,he⟩
  .exact (Zlz L).1 he
theorem Zma (L:Lims cfs yfs cf yf){all:List Oper}:∀ {l:List Oper} {sl:Yw} {h:PH} {r:Yw×PH},Za1 C cf yf K all l sl h=some r->∃n,Za1 C (cfs n) (yfs n) K all l sl h=some r
 | [],sl,h,r,he=>⟨0,he⟩
 |o::l,sl,h,r,he=>by
  simp only[Za1]at he ⊢;split at he
  .rename_i hw;split at he
   .rename_i v h1 ho;obtain⟨n,hn⟩:=Zabd L ho;obtain⟨m,hm⟩:=Zma L he;refine⟨max n m,?_⟩;rw[Zt6 (L.c _ _ (Nat.le_max_left n m)) (L.y _ _ (Nat.le_max_left n m)) hn];exact Zb3 (L.c _ _ (Nat.le_max_right n m)) (L.y _ _ (Nat.le_max_right n m)) hm
   .cases he
  .exact Zma L he
  .cases he
theorem Z1h (L:Lims cfs yfs cf yf){all:List Oper}{masks:Array Nat}{o:Oper}{i:Nat}{s s':PD}(he:Zc7 C cf yf K all masks o i s=some s'):∃n,Zc7 C (cfs n) (yfs n) K all masks o i s=some s':=by
 unfold Zc7 at he ⊢
 try dsimp only at he ⊢
 split at he
 .cases he
 .exact ⟨0,he⟩
 .split at he
  .exact ⟨0,he⟩
  .split at he
   .exact ⟨0,he⟩
   .split at he
    .rename_i v h' X3;obtain⟨n,hn⟩:=(Zlz L).1 X3;exact⟨n,by rw[hn];exact he⟩
    .cases he
theorem Zpi (L:Lims cfs yfs cf yf){all:List Oper}{masks:Array Nat}:∀ {l:List Oper} {i:Nat} {s s':PD},Qm C cf yf K all masks l i s=some s'->∃n,Qm C (cfs n) (yfs n) K all masks l i s=some s'
 | [],i,s,s',he=>⟨0,he⟩
 |o::l,i,s,s',he=>by
  simp only[Qm]at he ⊢;split at he
  .rename_i st1 h1;obtain⟨n,hn⟩:=Z1h L h1;obtain⟨m,hm⟩:=Zpi L he;refine⟨max n m,?_⟩;rw[Zlw (L.c _ _ (Nat.le_max_left n m)) (L.y _ _ (Nat.le_max_left n m)) hn];exact Zgc (L.c _ _ (Nat.le_max_right n m)) (L.y _ _ (Nat.le_max_right n m)) hm
  .cases he
theorem Z3h (L:Lims cfs yfs cf yf){ops:Array Oper}{r:Yw×PH}(he:Zcj C cf yf K ops sl h=some r):∃n,Zcj C (cfs n) (yfs n) K ops sl h=some r:=by
 unfold Zcj at he ⊢;rw[Option.map_eq_some_iff]at he;obtain⟨s,hp,e⟩:=he;obtain⟨n,hn⟩:=Zpi L hp;exact⟨n,by rw[hn,Option.map_some,e]⟩
theorem lims:Lims (fun n=>callF C (fun K'=>exec C n K' true)) (fun n=>yieldF (fun K'=>exec C n K' false)) (Yx C) (Ut C) where
 c:=fun n m hl=>Zau fun a b c d r h=>Tu hl h
 y:=fun n m hl=>Za7 fun a b c d r h=>Tu hl h
 cl:=fun a b d e r=>Q6
 yl:=fun a b d e f r=>Zf5
theorem Z8d:Vh C K Xx .skip sl h=some (.normal,sl,h):=X0.2 ⟨1,rfl⟩
theorem Z8f {id:Nat}:Vh C K Xx (.exit id) sl h=some (.exit id,sl,h):=X0.2 ⟨1,rfl⟩
theorem Zacu:Vh C K Xx .ret sl h=some (.ret,sl,h):=X0.2 ⟨1,rfl⟩
theorem Zyn {id:Nat}{ops:Array Oper}:Vh C K Xx (.region id ops false) sl h=(Za1 C (Yx C) (Ut C) K ops.toList ops.toList sl h).map fun (Yy,h')=>(.normal,Yy,h'):=by
 refine Qy Qd (fun n r hn=>?_) (fun r hr=>?_)
 .cases n with
  |zero=>simp[exec]at hn
  |succ n=>
   rw[exec]at hn
   try dsimp only at hn
   simp only[Bool.false_eq_true,if_false,Option.map_eq_some_iff]at hn;obtain⟨x,hx,e⟩:=hn;rw[Zb3 (cf':=Yx C) (yf':=Ut C) (fun a b c d r h=>Q6.2 ⟨n,h⟩) (fun a b c d e r h=>Zf5.2 ⟨n,h⟩) hx];exact congrArg some e
 .rw [Option.map_eq_some_iff]at hr;obtain⟨x,hx,e⟩:=hr;obtain⟨n,hn⟩:=Zma lims hx;refine⟨n+1,?_⟩;rw[exec]
  try dsimp only
  simp only[Bool.false_eq_true,if_false];rw[hn];exact congrArg some e
theorem Z8g {id:Nat}{ops:Array Oper}:Vh C K Xx (.region id ops true) sl h=(Zcj C (Yx C) (Ut C) K ops sl h).map fun (Yy,h')=>(.normal,Yy,h'):=by
 refine Qy Qd (fun n r hn=>?_) (fun r hr=>?_)
 .cases n with
  |zero=>simp[exec]at hn
  |succ n=>
   rw[exec]at hn
   try dsimp only at hn
   simp only[if_true,Option.map_eq_some_iff]at hn;obtain⟨x,hx,e⟩:=hn;rw[Znj (cf':=Yx C) (yf':=Ut C) (fun a b c d r h=>Q6.2 ⟨n,h⟩) (fun a b c d e r h=>Zf5.2 ⟨n,h⟩) hx];exact congrArg some e
 .rw [Option.map_eq_some_iff]at hr;obtain⟨x,hx,e⟩:=hr;obtain⟨n,hn⟩:=Z3h lims hx;refine⟨n+1,?_⟩;rw[exec]
  try dsimp only
  simp only[if_true];rw[hn];exact congrArg some e
def Zaey (r:Option (Ex×Yw×PH))(f:Yw->PH->Option (Ex×Yw×PH)):Option (Ex×Yw×PH):=
 match r with
 |some (.normal,sl,h)=>f sl h
 |r=>r
theorem Zact {a b:Code}:Vh C K Xx (.seq a b) sl h=Zaey (Vh C K Xx a sl h) fun sl h=>Vh C K Xx b sl h:=by
 refine Qy Qd (fun n r hn=>?_) (fun r hr=>?_)
 .cases n with
  |zero=>simp[exec]at hn
  |succ n=>
   rw[exec]at hn
   try dsimp only at hn
   split at hn
   .rename_i Qr h1 hx;rw[X0.2 ⟨n,hx⟩];exact X0.2 ⟨n,hn⟩
   .rename_i Yq;rw[X0.2 ⟨n,hn⟩];obtain⟨x,Qr,h1⟩:=r;cases x with
    |normal=>exact absurd hn (Yq _ _)
    |exit id=>rfl
    |ret=>rfl
 .cases ha:Vh C K Xx a sl h with
  |none=>rw[ha]at hr;cases hr
  |some q=>
   rw[ha]at hr;obtain⟨n,hn⟩:=X0.1 ha;obtain⟨x,Qr,h1⟩:=q;cases x with
   |normal=>
    obtain⟨m,hm⟩:=X0.1 (show Vh C K Xx b Qr h1=some r from hr);refine⟨max n m+1,?_⟩;rw[exec]
    try dsimp only
    rw[Tu (Nat.le_max_left n m) hn];exact Tu (Nat.le_max_right n m) hm
   |exit id=>cases hr;refine⟨n+1,?_⟩;rw[exec];try dsimp only
             rw[hn]
   |ret=>cases hr;refine⟨n+1,?_⟩;rw[exec];try dsimp only
         rw[hn]
theorem Z8h {c:Operand}{a b:Code}:Vh C K Xx (.cond c a b) sl h=(match Yz sl c with
  |some (.bool true)=>Vh C K Xx a sl h
  |some (.bool false)=>Vh C K Xx b sl h
  | _=>none):=by
 refine Qy Qd (fun n r hn=>?_) (fun r hr=>?_)
 .cases n with
  |zero=>simp[exec]at hn
  |succ n=>
   rw[exec]at hn
   try dsimp only at hn
   split at hn
   .rename_i hc;rw[hc];exact X0.2 ⟨n,hn⟩
   .rename_i hc;rw[hc];exact X0.2 ⟨n,hn⟩
   .cases hn
 .split at hr
  .rename_i hc;obtain⟨n,hn⟩:=X0.1 hr
   exact⟨n+1,by rw[exec];try dsimp only
                rw[hc];exact hn⟩
  .rename_i hc;obtain⟨n,hn⟩:=X0.1 hr
   exact⟨n+1,by rw[exec];try dsimp only
                rw[hc];exact hn⟩
  .cases hr
def Z81 (id:Nat)(r:Option (Ex×Yw×PH)):Option (Ex×Yw×PH):=
 match r with
 |some (.exit id',sl,h)=>if id'=id then some (.normal,sl,h) else some (.exit id',sl,h)
 |r=>r
theorem Z3f {id:Nat}{b:Code}:Vh C K Xx (.block id b) sl h=Z81 id (Vh C K Xx b sl h):=by
 refine Qy Qd (fun n r hn=>?_) (fun r hr=>?_)
 .cases n with
  |zero=>simp[exec]at hn
  |succ n=>
   rw[exec]at hn
   try dsimp only at hn
   split at hn
   .rename_i id' Qr h1 hx;rw[X0.2 ⟨n,hx⟩];exact hn
   .rename_i Yq;rw[X0.2 ⟨n,hn⟩];obtain⟨x,Qr,h1⟩:=r;cases x with
    |exit id'=>exact absurd hn (Yq _ _ _)
    |normal=>rfl
    |ret=>rfl
 .cases ha:Vh C K Xx b sl h with
  |none=>rw[ha]at hr;cases hr
  |some q=>
   rw[ha]at hr;obtain⟨n,hn⟩:=X0.1 ha;refine⟨n+1,?_⟩;rw[exec]
   try dsimp only
   rw[hn];exact hr
theorem Z8e {b:Code}:Vh C K Xx (.loop b) sl h=Zaey (Vh C K Xx b sl h) fun Yy h'=>Vh C K Xx (.loop b) (Zdb sl Yy) h':=by
 refine Qy Qd (fun n r hn=>?_) (fun r hr=>?_)
 .cases n with
  |zero=>simp[exec]at hn
  |succ n=>
   rw[exec]at hn
   try dsimp only at hn
   split at hn
   .rename_i Qr h1 hx;rw[X0.2 ⟨n,hx⟩];exact X0.2 ⟨n,hn⟩
   .rename_i Yq;rw[X0.2 ⟨n,hn⟩];obtain⟨x,Qr,h1⟩:=r;cases x with
    |normal=>exact absurd hn (Yq _ _)
    |exit id=>rfl
    |ret=>rfl
 .cases ha:Vh C K Xx b sl h with
  |none=>rw[ha]at hr;cases hr
  |some q=>
   rw[ha]at hr;obtain⟨n,hn⟩:=X0.1 ha;obtain⟨x,Qr,h1⟩:=q;cases x with
   |normal=>
    obtain⟨m,hm⟩:=X0.1 (show Vh C K Xx (.loop b) (Zdb sl Qr) h1=some r from hr);refine⟨max n m+1,?_⟩;rw[exec]
    try dsimp only
    rw[Tu (Nat.le_max_left n m) hn];exact Tu (Nat.le_max_right n m) hm
   |exit id=>cases hr;refine⟨n+1,?_⟩;rw[exec];try dsimp only
             rw[hn]
   |ret=>cases hr;refine⟨n+1,?_⟩;rw[exec];try dsimp only
         rw[hn]
theorem Z3u {exs:Nat->EX}{ex:EX}(hm:∀n m,n<=m->Le4 (exs n) (exs m))(hl:∀a b d e r,ex a b d e=some r↔∃n,exs n a b d e=some r){f:Nat}{args:List PV}{r}:
  callF C ex K f args h=some r↔∃n,callF C (exs n) K f args h=some r:=by
 constructor
 .intro he;have:∃n,∀K c sl hh q,ex K c sl hh=some q->(∃fn,C.F f=some fn)->True:=⟨0,fun _ _ _ _ _ _ _=>trivial⟩
  unfold callF at he ⊢;split at he
  .exact ⟨0,he⟩
  split at he
  .cases he
  .rename_i fn Rc;split at he
   .cases he
   .rename_i c hc;split at he
    .rename_i Xo;cases hx:ex {base:=h.next,lo:=K.lo,ok:=K.ok} c (Sl 0 args) {h with next:=h.next+fn.ntmps} with
     |none=>rw[hx]at he;cases he
     |some q=>
      obtain⟨n,hn⟩:=(hl _ _ _ _ _).1 hx;refine⟨n,?_⟩;rw[if_pos Xo,hn];rw[hx]at he;exact he
    .rename_i Xo
     try dsimp only at he ⊢
     split at he
     .cases he
     .rename_i args' Xz;split at he
      .rename_i hok;cases hx:ex {base:=h.next,lo:=h.next,ok:=reach h 4 (args'.flatMap (refs 3))} c (Sl 0 args') {h.freeze (args.flatMap ownV) with next:=h.next+fn.ntmps} with
       |none=>rw[hx]at he;cases he
       |some q=>
        obtain⟨n,hn⟩:=(hl _ _ _ _ _).1 hx;refine⟨n,?_⟩;rw[if_neg Xo,if_pos hok,hn];rw[hx]at he;exact he
      .cases he
 .rintro ⟨n,he⟩;exact Zau (fun a b c d r h=>(hl _ _ _ _ _).2 ⟨n,h⟩) _ _ _ _ _ he
theorem Uj {f:Nat}{args:List PV}:Yx C K f args h=callF C (fun K'=>Vh C K' true) K f args h:=by
 refine Qy Zm7 (fun n r hn=>?_) (fun r hr=>?_)
 .exact Zau (fun a b c d r h=>X0.2 ⟨n,h⟩) _ _ _ _ _ hn
 .exact (Z3u (exs:=fun n K'=>exec C n K' true) (fun n m hl a b c d r h=>Tu hl h) (fun a b d e r=>X0)).1 hr
theorem Z1c {l Zc:Nat}{args:List PV}:Ut C K l Zc args h=yieldF (fun K'=>Vh C K' false) K l Zc args h:=by
 refine Qy Zkc (fun n r hn=>?_) (fun r hr=>?_)
 .exact Za7 (fun a b c d r h=>X0.2 ⟨n,h⟩) _ _ _ _ _ _ hn
 .unfold yieldF at hr ⊢;split at hr
  .rename_i w K0 V9 ps as bd hl;split at hr
   .rename_i hc
    replace hr:(match Vh C K0 false as (Zdy V9 (ps.zip args)) (h.put l Zc .gone) with
     |some (.normal,Qr,h1)=>
      match Vh C K0 false bd Qr h1 with
      |some (.normal,_,h2)=>
       match h2.get l with
       |some (w2,.gone)=>if w2=Zc then some (PV.bool true,h2.put l Zc (.loop K0 V9 ps as bd)) else none
       | _=>none
      | _=>none
     | _=>none)=some r:=hr
    cases hx:Vh C K0 false as (Zdy V9 (ps.zip args)) (h.put l Zc .gone) with
    |none=>rw[hx]at hr;cases hr
    |some q=>
     rw[hx]at hr;obtain⟨n,hn⟩:=X0.1 hx;obtain⟨x,Qr,h1⟩:=q;cases x with
     |normal=>
      try dsimp only at hr
      cases hx2:Vh C K0 false bd Qr h1 with
      |none=>rw[hx2]at hr;cases hr
      |some q2=>
       rw[hx2]at hr;obtain⟨m,hm⟩:=X0.1 hx2;refine⟨max n m,?_⟩;simp only[hl];rw[if_pos hc,Tu (Nat.le_max_left n m) hn]
       try dsimp only
       rw[Tu (Nat.le_max_right n m) hm];exact hr
     |exit id=>cases hr
     |ret=>cases hr
   .cases hr
  .cases hr
theorem Z3d {f:Operand}{ps:Array Tmp}{as bd:Code}:Vh C K true (.rangeFunc f ps as bd) sl h=(match Yz sl f with
    |some (.fn g first captured)=>
     if C.raw g then
      match Yx C K g (first++[.yield h.next 0]++captured) {h.put h.next 0 (.loop K sl ps.toList as bd) with next:=h.next+1} with
      |some (_,h')=>match h'.get h.next with
       |some (0,.loop _ _ _ _ _)=>some (.normal,sl,h'.put h.next 0 .gone)
       | _=>none
      |none=>none
     else none
    | _=>none):=by
 refine Qy Qd (fun n r hn=>?_) (fun r hr=>?_)
 .cases n with
  |zero=>simp[exec]at hn
  |succ n=>
   rw[exec]at hn
   try dsimp only at hn
   simp only[if_true]at hn;split at hn
   .rename_i g first captured hf
    split at hn
    .rename_i Xo;rw[hf]
     try dsimp only
     rw[if_pos Xo];split at hn
     .rename_i u h2 hx;have hx':Yx C K g (first++[.yield h.next 0]++captured) {h.put h.next 0 (.loop K sl ps.toList as bd) with next:=h.next+1}=some (u,h2):=Q6.2 ⟨n,hx⟩;rw[show Yx C K g (first++[.yield h.next 0]++captured) {next:=h.next+1,get:=(h.put h.next 0 (.loop K sl ps.toList as bd)).get}=some (u,h2) from hx'];exact hn
     .cases hn
    .cases hn
   .cases hn
 .split at hr
  .rename_i g first captured hf
   split at hr
   .rename_i Xo;cases hx:Yx C K g (first++[.yield h.next 0]++captured) {h.put h.next 0 (.loop K sl ps.toList as bd) with next:=h.next+1} with
    |none=>rw[hx]at hr;cases hr
    |some q=>
     rw[hx]at hr;obtain⟨n,hn⟩:=Q6.1 hx;refine⟨n+1,?_⟩;rw[exec]
     try dsimp only
     simp only[if_true];rw[hf]
     try dsimp only
     rw[if_pos Xo];have hn':callF C (fun K'=>exec C n K' true) K g (first++[.yield h.next 0]++captured) {h.put h.next 0 (.loop K sl ps.toList as bd) with next:=h.next+1}=some q:=hn;rw[hn'];exact hr
   .cases hr
  .cases hr
end
end Go.Pure
end
