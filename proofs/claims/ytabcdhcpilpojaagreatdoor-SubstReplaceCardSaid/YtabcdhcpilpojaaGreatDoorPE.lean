/- Plain runs with as much fuel as they want: equations. -/
import Derived.Test.YtabcdhcpilpojaaGreatDoorPA
set_option linter.unusedSimpArgs false
set_option linter.unusedVariables false
section
namespace Go.Pure
open Go Go.Virt
open Classical in
noncomputable def lim {α:Type}(f:Nat->Option α):Option α:=if h:∃n,(f n).isSome=true then f h.choose else none
def Zw9 {α:Type}(f:Nat->Option α):Prop:=∀n m r,n<=m->f n=some r->f m=some r
theorem Zhy {α:Type}{f:Nat->Option α}(hf:Zw9 f){r:α}:lim f=some r↔∃n,f n=some r:=by
 unfold lim;constructor
 .intro h;split at h
  .exact ⟨_,h⟩
  .cases h
 .rintro ⟨n,hn⟩;have hex:∃n,(f n).isSome=true:=⟨n,by rw[hn];rfl⟩
  rw[dif_pos hex];have h1:=hex.choose_spec;obtain⟨r',hr'⟩:=Option.isSome_iff_exists.1 h1;have h2:=hf _ _ _ (Nat.le_max_left n hex.choose) hn;have h3:=hf _ _ _ (Nat.le_max_right n hex.choose) hr';rw[h2]at h3;rw[hr',h3]
theorem Qy {α:Type}{f:Nat->Option α}{x:Option α}(hf:Zw9 f)(h1:∀n r,f n=some r->x=some r)(h2:∀r,x=some r->∃n,f n=some r):lim f=x:=by
 cases hx:x with
 |some r=>exact (Zhy hf).2 (h2 r hx)
 |none=>
  cases hl:lim f with
  |none=>rfl
  |some r=>
   obtain⟨n,hn⟩:=(Zhy hf).1 hl;rw[hx]at h1;cases h1 n r hn
section
variable (C:Ctx)
noncomputable def Vt (K:Loc)(Xs:Bool)(code:Code)(sl:Yt)(h:PH):Option (Ex×Yt×PH):=lim fun n=>exec C n K Xs code sl h
noncomputable def Yh (K:Loc)(f:Nat)(args:List PV)(h:PH):Option (PV×PH):=lim fun n=>call C n K f args h
noncomputable def Tw (K:Loc)(l Zc:Nat)(args:List PV)(h:PH):Option (PV×PH):=lim fun n=>yieldF (fun K'=>exec C n K' false) K l Zc args h
end
section
variable {C:Ctx}{K:Loc}{Xs:Bool}{sl Y6:Yt}{h h':PH}
theorem Qd {code:Code}:Zw9 (fun n=>exec C n K Xs code sl h):=fun n m r hl he=>Tu hl he
theorem Znk {f:Nat}{args:List PV}:Zw9 (fun n=>call C n K f args h):=fun n m r hl he=>Zaee hl he
theorem Zkq {l Zc:Nat}{args:List PV}:Zw9 (fun n=>yieldF (fun K'=>exec C n K' false) K l Zc args h):=fun n m r hl he=>Za9 (fun _ _ _ _ _ h'=>Tu hl h') _ _ _ _ _ _ he
theorem Xu {code:Code}{r}:Vt C K Xs code sl h=some r↔∃n,exec C n K Xs code sl h=some r:=Zhy Qd
theorem Q7 {f:Nat}{args:List PV}{r}:Yh C K f args h=some r↔∃n,call C n K f args h=some r:=Zhy Znk
theorem Zf5 {l Zc:Nat}{args:List PV}{r}:Tw C K l Zc args h=some r↔∃n,yieldF (fun K'=>exec C n K' false) K l Zc args h=some r:=Zhy Zkq
structure Lims (cfs:Nat->CF)(yfs:Nat->YF)(cf:CF)(yf:YF):Prop where
 c:∀n m,n<=m->Le4 (cfs n) (cfs m)
 y:∀n m,n<=m->Le5 (yfs n) (yfs m)
 cl:∀a b d e r,cf a b d e=some r↔∃n,cfs n a b d e=some r
 yl:∀a b d e f r,yf a b d e f=some r↔∃n,yfs n a b d e f=some r
variable {cfs:Nat->CF}{yfs:Nat->YF}{cf:CF}{yf:YF}
theorem Zl9 (L:Lims cfs yfs cf yf){all:List Oper}{o:Oper}{r}:Zh C cf yf all K sl h o=some r↔∃n,Zh C (cfs n) (yfs n) all K sl h o=some r:=by
 constructor
 .intro he;cases X6:o.op with
  |slice t x lo hi mx=>refine⟨0,?_⟩;cases mx<;>simp only[Zh,X6]at he ⊢<;>exact he
  |call c=>
   simp only[Zh,X6]at he ⊢;split at he
   .cases he
   .rename_i args Xt;cases Ws:c.callee with
    |builtin b=>refine⟨0,?_⟩;simp only[Ws]at he ⊢;exact he
    |invoke a b=>simp only[Ws]at he;cases he
    |value f=>
     simp only[Ws]at he ⊢;split at he
     .exact (L.cl _ _ _ _ _).1 he
     .exact (L.yl _ _ _ _ _ _).1 he
     .cases he
  | _=>refine⟨0,?_⟩;simp only[Zh,X6]at he ⊢<;>exact he
 .rintro ⟨n,he⟩;exact Zdw (fun a b c d r h=>(L.cl _ _ _ _ _).2 ⟨n,h⟩) (fun a b c d e r h=>(L.yl _ _ _ _ _ _).2 ⟨n,h⟩) he
theorem Zacp (L:Lims cfs yfs cf yf){all:List Oper}{o:Oper}{r}(he:opP C cf yf all K sl h o=some r):∃n,opP C (cfs n) (yfs n) all K sl h o=some r:=by
 unfold opP at he ⊢;split at he
 .exact ⟨0,he⟩
 .split at he
  .exact ⟨0,he⟩
  .exact (Zl9 L).1 he
theorem Zmq (L:Lims cfs yfs cf yf){all:List Oper}:∀ {l:List Oper} {sl:Yt} {h:PH} {r:Yt×PH},Za4 C cf yf K all l sl h=some r->∃n,Za4 C (cfs n) (yfs n) K all l sl h=some r
 | [],sl,h,r,he=>⟨0,he⟩
 |o::l,sl,h,r,he=>by
  simp only[Za4]at he ⊢;split at he
  .rename_i hw;split at he
   .rename_i v h1 ho;obtain⟨n,hn⟩:=Zacp L ho;obtain⟨m,hm⟩:=Zmq L he;refine⟨max n m,?_⟩;rw[Zuz (L.c _ _ (Nat.le_max_left n m)) (L.y _ _ (Nat.le_max_left n m)) hn];exact Zb4 (L.c _ _ (Nat.le_max_right n m)) (L.y _ _ (Nat.le_max_right n m)) hm
   .cases he
  .exact Zmq L he
  .cases he
theorem Z2m (L:Lims cfs yfs cf yf){all:List Oper}{masks:Array Nat}{o:Oper}{i:Nat}{s s':PD}(he:Zc9 C cf yf K all masks o i s=some s'):∃n,Zc9 C (cfs n) (yfs n) K all masks o i s=some s':=by
 unfold Zc9 at he ⊢
 try dsimp only at he ⊢
 split at he
 .cases he
 .exact ⟨0,he⟩
 .split at he
  .exact ⟨0,he⟩
  .split at he
   .exact ⟨0,he⟩
   .split at he
    .rename_i v h' Xr;obtain⟨n,hn⟩:=(Zl9 L).1 Xr;exact⟨n,by rw[hn];exact he⟩
    .cases he
theorem Zpr (L:Lims cfs yfs cf yf){all:List Oper}{masks:Array Nat}:∀ {l:List Oper} {i:Nat} {s s':PD},Qm C cf yf K all masks l i s=some s'->∃n,Qm C (cfs n) (yfs n) K all masks l i s=some s'
 | [],i,s,s',he=>⟨0,he⟩
 |o::l,i,s,s',he=>by
  simp only[Qm]at he ⊢;split at he
  .rename_i st1 h1;obtain⟨n,hn⟩:=Z2m L h1;obtain⟨m,hm⟩:=Zpr L he;refine⟨max n m,?_⟩;rw[Zl6 (L.c _ _ (Nat.le_max_left n m)) (L.y _ _ (Nat.le_max_left n m)) hn];exact Zge (L.c _ _ (Nat.le_max_right n m)) (L.y _ _ (Nat.le_max_right n m)) hm
  .cases he
theorem Z4p (L:Lims cfs yfs cf yf){ops:Array Oper}{r:Yt×PH}(he:Zcj C cf yf K ops sl h=some r):∃n,Zcj C (cfs n) (yfs n) K ops sl h=some r:=by
 unfold Zcj at he ⊢;rw[Option.map_eq_some_iff]at he;obtain⟨s,hp,e⟩:=he;obtain⟨n,hn⟩:=Zpr L hp;exact⟨n,by rw[hn,Option.map_some,e]⟩
theorem lims:Lims (fun n=>callF C (fun K'=>exec C n K' true)) (fun n=>yieldF (fun K'=>exec C n K' false)) (Yh C) (Tw C) where
 c:=fun n m hl=>Zax fun a b c d r h=>Tu hl h
 y:=fun n m hl=>Za9 fun a b c d r h=>Tu hl h
 cl:=fun a b d e r=>Q7
 yl:=fun a b d e f r=>Zf5
theorem Z9l:Vt C K Xs .skip sl h=some (.normal,sl,h):=Xu.2 ⟨1,rfl⟩
theorem Z9n {id:Nat}:Vt C K Xs (.exit id) sl h=some (.exit id,sl,h):=Xu.2 ⟨1,rfl⟩
theorem Zad5:Vt C K Xs .ret sl h=some (.ret,sl,h):=Xu.2 ⟨1,rfl⟩
theorem Zzk {id:Nat}{ops:Array Oper}:Vt C K Xs (.region id ops false) sl h=(Za4 C (Yh C) (Tw C) K ops.toList ops.toList sl h).map fun (Y6,h')=>(.normal,Y6,h'):=by
 refine Qy Qd (fun n r hn=>?_) (fun r hr=>?_)
 .cases n with
  |zero=>simp[exec]at hn
  |succ n=>
   rw[exec]at hn
   try dsimp only at hn
   simp only[Bool.false_eq_true,if_false,Option.map_eq_some_iff]at hn;obtain⟨x,hx,e⟩:=hn;rw[Zb4 (cf':=Yh C) (yf':=Tw C) (fun a b c d r h=>Q7.2 ⟨n,h⟩) (fun a b c d e r h=>Zf5.2 ⟨n,h⟩) hx];exact congrArg some e
 .rw [Option.map_eq_some_iff]at hr;obtain⟨x,hx,e⟩:=hr;obtain⟨n,hn⟩:=Zmq lims hx;refine⟨n+1,?_⟩;rw[exec]
  try dsimp only
  simp only[Bool.false_eq_true,if_false];rw[hn];exact congrArg some e
theorem Z9o {id:Nat}{ops:Array Oper}:Vt C K Xs (.region id ops true) sl h=(Zcj C (Yh C) (Tw C) K ops sl h).map fun (Y6,h')=>(.normal,Y6,h'):=by
 refine Qy Qd (fun n r hn=>?_) (fun r hr=>?_)
 .cases n with
  |zero=>simp[exec]at hn
  |succ n=>
   rw[exec]at hn
   try dsimp only at hn
   simp only[if_true,Option.map_eq_some_iff]at hn;obtain⟨x,hx,e⟩:=hn;rw[Zn3 (cf':=Yh C) (yf':=Tw C) (fun a b c d r h=>Q7.2 ⟨n,h⟩) (fun a b c d e r h=>Zf5.2 ⟨n,h⟩) hx];exact congrArg some e
 .rw [Option.map_eq_some_iff]at hr;obtain⟨x,hx,e⟩:=hr;obtain⟨n,hn⟩:=Z4p lims hx;refine⟨n+1,?_⟩;rw[exec]
  try dsimp only
  simp only[if_true];rw[hn];exact congrArg some e
def Zagd (r:Option (Ex×Yt×PH))(f:Yt->PH->Option (Ex×Yt×PH)):Option (Ex×Yt×PH):=
 match r with
 |some (.normal,sl,h)=>f sl h
 |r=>r
theorem Zad4 {a b:Code}:Vt C K Xs (.seq a b) sl h=Zagd (Vt C K Xs a sl h) fun sl h=>Vt C K Xs b sl h:=by
 refine Qy Qd (fun n r hn=>?_) (fun r hr=>?_)
 .cases n with
  |zero=>simp[exec]at hn
  |succ n=>
   rw[exec]at hn
   try dsimp only at hn
   split at hn
   .rename_i Qr h1 hx;rw[Xu.2 ⟨n,hx⟩];exact Xu.2 ⟨n,hn⟩
   .rename_i Yp;rw[Xu.2 ⟨n,hn⟩];obtain⟨x,Qr,h1⟩:=r;cases x with
    |normal=>exact absurd hn (Yp _ _)
    |exit id=>rfl
    |ret=>rfl
 .cases ha:Vt C K Xs a sl h with
  |none=>rw[ha]at hr;cases hr
  |some q=>
   rw[ha]at hr;obtain⟨n,hn⟩:=Xu.1 ha;obtain⟨x,Qr,h1⟩:=q;cases x with
   |normal=>
    obtain⟨m,hm⟩:=Xu.1 (show Vt C K Xs b Qr h1=some r from hr);refine⟨max n m+1,?_⟩;rw[exec]
    try dsimp only
    rw[Tu (Nat.le_max_left n m) hn];exact Tu (Nat.le_max_right n m) hm
   |exit id=>cases hr;refine⟨n+1,?_⟩;rw[exec];try dsimp only
             rw[hn]
   |ret=>cases hr;refine⟨n+1,?_⟩;rw[exec];try dsimp only
         rw[hn]
theorem Z9p {c:Operand}{a b:Code}:Vt C K Xs (.cond c a b) sl h=(match Yx sl c with
  |some (.bool true)=>Vt C K Xs a sl h
  |some (.bool false)=>Vt C K Xs b sl h
  | _=>none):=by
 refine Qy Qd (fun n r hn=>?_) (fun r hr=>?_)
 .cases n with
  |zero=>simp[exec]at hn
  |succ n=>
   rw[exec]at hn
   try dsimp only at hn
   split at hn
   .rename_i hc;rw[hc];exact Xu.2 ⟨n,hn⟩
   .rename_i hc;rw[hc];exact Xu.2 ⟨n,hn⟩
   .cases hn
 .split at hr
  .rename_i hc;obtain⟨n,hn⟩:=Xu.1 hr
   exact⟨n+1,by rw[exec];try dsimp only
                rw[hc];exact hn⟩
  .rename_i hc;obtain⟨n,hn⟩:=Xu.1 hr
   exact⟨n+1,by rw[exec];try dsimp only
                rw[hc];exact hn⟩
  .cases hr
def Z99 (id:Nat)(r:Option (Ex×Yt×PH)):Option (Ex×Yt×PH):=
 match r with
 |some (.exit id',sl,h)=>if id'=id then some (.normal,sl,h) else some (.exit id',sl,h)
 |r=>r
theorem Z4n {id:Nat}{b:Code}:Vt C K Xs (.block id b) sl h=Z99 id (Vt C K Xs b sl h):=by
 refine Qy Qd (fun n r hn=>?_) (fun r hr=>?_)
 .cases n with
  |zero=>simp[exec]at hn
  |succ n=>
   rw[exec]at hn
   try dsimp only at hn
   split at hn
   .rename_i id' Qr h1 hx;rw[Xu.2 ⟨n,hx⟩];exact hn
   .rename_i Yp;rw[Xu.2 ⟨n,hn⟩];obtain⟨x,Qr,h1⟩:=r;cases x with
    |exit id'=>exact absurd hn (Yp _ _ _)
    |normal=>rfl
    |ret=>rfl
 .cases ha:Vt C K Xs b sl h with
  |none=>rw[ha]at hr;cases hr
  |some q=>
   rw[ha]at hr;obtain⟨n,hn⟩:=Xu.1 ha;refine⟨n+1,?_⟩;rw[exec]
   try dsimp only
   rw[hn];exact hr
theorem Z9m {b:Code}:Vt C K Xs (.loop b) sl h=Zagd (Vt C K Xs b sl h) fun Y6 h'=>Vt C K Xs (.loop b) (Zdc sl Y6) h':=by
 refine Qy Qd (fun n r hn=>?_) (fun r hr=>?_)
 .cases n with
  |zero=>simp[exec]at hn
  |succ n=>
   rw[exec]at hn
   try dsimp only at hn
   split at hn
   .rename_i Qr h1 hx;rw[Xu.2 ⟨n,hx⟩];exact Xu.2 ⟨n,hn⟩
   .rename_i Yp;rw[Xu.2 ⟨n,hn⟩];obtain⟨x,Qr,h1⟩:=r;cases x with
    |normal=>exact absurd hn (Yp _ _)
    |exit id=>rfl
    |ret=>rfl
 .cases ha:Vt C K Xs b sl h with
  |none=>rw[ha]at hr;cases hr
  |some q=>
   rw[ha]at hr;obtain⟨n,hn⟩:=Xu.1 ha;obtain⟨x,Qr,h1⟩:=q;cases x with
   |normal=>
    obtain⟨m,hm⟩:=Xu.1 (show Vt C K Xs (.loop b) (Zdc sl Qr) h1=some r from hr);refine⟨max n m+1,?_⟩;rw[exec]
    try dsimp only
    rw[Tu (Nat.le_max_left n m) hn];exact Tu (Nat.le_max_right n m) hm
   |exit id=>cases hr;refine⟨n+1,?_⟩;rw[exec];try dsimp only
             rw[hn]
   |ret=>cases hr;refine⟨n+1,?_⟩;rw[exec];try dsimp only
         rw[hn]
theorem Z42 {exs:Nat->EX}{ex:EX}(hm:∀n m,n<=m->Le4 (exs n) (exs m))(hl:∀a b d e r,ex a b d e=some r↔∃n,exs n a b d e=some r){f:Nat}{args:List PV}{r}:
  callF C ex K f args h=some r↔∃n,callF C (exs n) K f args h=some r:=by
 constructor
 .intro he;have:∃n,∀K c sl hh q,ex K c sl hh=some q->(∃fn,C.F f=some fn)->True:=⟨0,fun _ _ _ _ _ _ _=>trivial⟩
  unfold callF at he ⊢;split at he
  .exact ⟨0,he⟩
  split at he
  .cases he
  .rename_i fn Qi;split at he
   .cases he
   .rename_i c hc;split at he
    .rename_i Xb;cases hx:ex {base:=h.next,lo:=K.lo,ok:=K.ok} c (R1 0 args) {h with next:=h.next+fn.ntmps} with
     |none=>rw[hx]at he;cases he
     |some q=>
      obtain⟨n,hn⟩:=(hl _ _ _ _ _).1 hx;refine⟨n,?_⟩;rw[if_pos Xb,hn];rw[hx]at he;exact he
    .rename_i Xb
     try dsimp only at he ⊢
     split at he
     .cases he
     .rename_i args' Xt;split at he
      .rename_i hok;cases hx:ex {base:=h.next,lo:=h.next,ok:=reach h 4 (args'.flatMap (refs 3))} c (R1 0 args') {h.freeze (args.flatMap ownV) with next:=h.next+fn.ntmps} with
       |none=>rw[hx]at he;cases he
       |some q=>
        obtain⟨n,hn⟩:=(hl _ _ _ _ _).1 hx;refine⟨n,?_⟩;rw[if_neg Xb,if_pos hok,hn];rw[hx]at he;exact he
      .cases he
 .rintro ⟨n,he⟩;exact Zax (fun a b c d r h=>(hl _ _ _ _ _).2 ⟨n,h⟩) _ _ _ _ _ he
theorem Zis {f:Nat}{args:List PV}:Yh C K f args h=callF C (fun K'=>Vt C K' true) K f args h:=by
 refine Qy Znk (fun n r hn=>?_) (fun r hr=>?_)
 .exact Zax (fun a b c d r h=>Xu.2 ⟨n,h⟩) _ _ _ _ _ hn
 .exact (Z42 (exs:=fun n K'=>exec C n K' true) (fun n m hl a b c d r h=>Tu hl h) (fun a b d e r=>Xu)).1 hr
theorem Z2g {l Zc:Nat}{args:List PV}:Tw C K l Zc args h=yieldF (fun K'=>Vt C K' false) K l Zc args h:=by
 refine Qy Zkq (fun n r hn=>?_) (fun r hr=>?_)
 .exact Za9 (fun a b c d r h=>Xu.2 ⟨n,h⟩) _ _ _ _ _ _ hn
 .unfold yieldF at hr ⊢;split at hr
  .rename_i w K0 Uc ps as bd hl;split at hr
   .rename_i hc
    replace hr:(match Vt C K0 false as (Zd1 Uc (ps.zip args)) (h.put l Zc .gone) with
     |some (.normal,Qr,h1)=>
      match Vt C K0 false bd Qr h1 with
      |some (.normal,_,h2)=>
       match h2.get l with
       |some (w2,.gone)=>if w2=Zc then some (PV.bool true,h2.put l Zc (.loop K0 Uc ps as bd)) else none
       | _=>none
      | _=>none
     | _=>none)=some r:=hr
    cases hx:Vt C K0 false as (Zd1 Uc (ps.zip args)) (h.put l Zc .gone) with
    |none=>rw[hx]at hr;cases hr
    |some q=>
     rw[hx]at hr;obtain⟨n,hn⟩:=Xu.1 hx;obtain⟨x,Qr,h1⟩:=q;cases x with
     |normal=>
      try dsimp only at hr
      cases hx2:Vt C K0 false bd Qr h1 with
      |none=>rw[hx2]at hr;cases hr
      |some q2=>
       rw[hx2]at hr;obtain⟨m,hm⟩:=Xu.1 hx2;refine⟨max n m,?_⟩;simp only[hl];rw[if_pos hc,Tu (Nat.le_max_left n m) hn]
       try dsimp only
       rw[Tu (Nat.le_max_right n m) hm];exact hr
     |exit id=>cases hr
     |ret=>cases hr
   .cases hr
  .cases hr
theorem Z4l {f:Operand}{ps:Array Tmp}{as bd:Code}:Vt C K true (.rangeFunc f ps as bd) sl h=(match Yx sl f with
    |some (.fn g first captured)=>
     if C.raw g then
      match Yh C K g (first++[.yield h.next 0]++captured) {h.put h.next 0 (.loop K sl ps.toList as bd) with next:=h.next+1} with
      |some (_,h')=>match h'.get h.next with
       |some (0,.loop _ _ _ _ _)=>some (.normal,sl,h'.put h.next 0 .gone)
       | _=>none
      |none=>none
     else none
    | _=>none):=by
 refine Qy Qd (fun n r hn=>?_) (fun r hr=>?_)
 .cases n with
  |zero=>simp[exec]at hn
  |succ n=>
   rw[exec]at hn
   try dsimp only at hn
   simp only[if_true]at hn;split at hn
   .rename_i g first captured hf
    split at hn
    .rename_i Xb;rw[hf]
     try dsimp only
     rw[if_pos Xb];split at hn
     .rename_i u h2 hx;have hx':Yh C K g (first++[.yield h.next 0]++captured) {h.put h.next 0 (.loop K sl ps.toList as bd) with next:=h.next+1}=some (u,h2):=Q7.2 ⟨n,hx⟩;rw[show Yh C K g (first++[.yield h.next 0]++captured) {next:=h.next+1,get:=(h.put h.next 0 (.loop K sl ps.toList as bd)).get}=some (u,h2) from hx'];exact hn
     .cases hn
    .cases hn
   .cases hn
 .split at hr
  .rename_i g first captured hf
   split at hr
   .rename_i Xb;cases hx:Yh C K g (first++[.yield h.next 0]++captured) {h.put h.next 0 (.loop K sl ps.toList as bd) with next:=h.next+1} with
    |none=>rw[hx]at hr;cases hr
    |some q=>
     rw[hx]at hr;obtain⟨n,hn⟩:=Q7.1 hx;refine⟨n+1,?_⟩;rw[exec]
     try dsimp only
     simp only[if_true];rw[hf]
     try dsimp only
     rw[if_pos Xb];have hn':callF C (fun K'=>exec C n K' true) K g (first++[.yield h.next 0]++captured) {h.put h.next 0 (.loop K sl ps.toList as bd) with next:=h.next+1}=some q:=hn;rw[hn'];exact hr
   .cases hr
  .cases hr
end
end Go.Pure
end
