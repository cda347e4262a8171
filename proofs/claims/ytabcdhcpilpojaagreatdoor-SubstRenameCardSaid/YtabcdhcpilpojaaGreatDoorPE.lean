/- Plain runs with as much fuel as they want: equations. -/
import Derived.Test.YtabcdhcpilpojaaGreatDoorPA
set_option linter.unusedSimpArgs false
set_option linter.unusedVariables false
section
namespace Go.Pure
open Go Go.Virt
open Classical in
noncomputable def lim {α:Type}(f:Nat->Option α):Option α:=if h:∃ n,(f n).isSome=true then f h.choose else none
def Ztd {α:Type}(f:Nat->Option α):Prop:=∀ n m r,n<=m->f n=some r->f m=some r
theorem Zgc {α:Type}{f:Nat->Option α}(hf:Ztd f){r:α}:lim f=some r↔∃ n,f n=some r:=by
 unfold lim;constructor
 .intro h;split at h
  .exact ⟨_,h⟩
  .cases h
 .rintro ⟨n,hn⟩;have hex:∃ n,(f n).isSome=true:=⟨n,by rw [hn];rfl⟩
  rw [dif_pos hex];have h1:=hex.choose_spec;obtain ⟨r',hr'⟩:=Option.isSome_iff_exists.1 h1;have h2:=hf _ _ _ (Nat.le_max_left n hex.choose) hn;have h3:=hf _ _ _ (Nat.le_max_right n hex.choose) hr';rw [h2] at h3;rw [hr',h3]
theorem Ru {α:Type}{f:Nat->Option α}{x:Option α}(hf:Ztd f)(h1:∀ n r,f n=some r->x=some r)(h2:∀ r,x=some r->∃ n,f n=some r):lim f=x:=by
 cases hx:x with
 | some r=>exact (Zgc hf).2 (h2 r hx)
 | none=>
   cases hl:lim f with
   | none=>rfl
   | some r=>
     obtain ⟨n,hn⟩:=(Zgc hf).1 hl;rw [hx] at h1;cases h1 n r hn
section
variable (C:Ctx)
noncomputable def W5 (K:Loc)(Xg:Bool)(code:Code)(sl:Yo)(h:PH):Option (Ex×Yo×PH):=lim fun n=>exec C n K Xg code sl h
noncomputable def Yv (K:Loc)(f:Nat)(args:List PV)(h:PH):Option (PV×PH):=lim fun n=>call C n K f args h
noncomputable def Tq (K:Loc)(l Zg:Nat)(args:List PV)(h:PH):Option (PV×PH):=lim fun n=>yieldF (fun K'=>exec C n K' false) K l Zg args h
end
section
variable {C:Ctx}{K:Loc}{Xg:Bool}{sl Yp:Yo}{h h':PH}
theorem S8 {code:Code}:Ztd (fun n=>exec C n K Xg code sl h):=fun n m r hl he=>U6 hl he
theorem Zk4 {f:Nat}{args:List PV}:Ztd (fun n=>call C n K f args h):=fun n m r hl he=>Z89 hl he
theorem Zik {l Zg:Nat}{args:List PV}:Ztd (fun n=>yieldF (fun K'=>exec C n K' false) K l Zg args h):=fun n m r hl he=>Qx (fun _ _ _ _ _ h'=>U6 hl h') _ _ _ _ _ _ he
theorem Xe {code:Code}{r}:W5 C K Xg code sl h=some r↔∃ n,exec C n K Xg code sl h=some r:=Zgc S8
theorem R6 {f:Nat}{args:List PV}{r}:Yv C K f args h=some r↔∃ n,call C n K f args h=some r:=Zgc Zk4
theorem Zeo {l Zg:Nat}{args:List PV}{r}:Tq C K l Zg args h=some r↔∃ n,yieldF (fun K'=>exec C n K' false) K l Zg args h=some r:=Zgc Zik
structure Lims (cfs:Nat->CF)(yfs:Nat->YF)(cf:CF)(yf:YF):Prop where
 c:∀ n m,n<=m->Le4 (cfs n) (cfs m)
 y:∀ n m,n<=m->Le5 (yfs n) (yfs m)
 cl:∀ a b d e r,cf a b d e=some r↔∃ n,cfs n a b d e=some r
 yl:∀ a b d e f r,yf a b d e f=some r↔∃ n,yfs n a b d e f=some r
variable {cfs:Nat->CF}{yfs:Nat->YF}{cf:CF}{yf:YF}
theorem Zj0 (L:Lims cfs yfs cf yf){all:List Oper}{o:Oper}{r}:Zk C cf yf all K sl h o=some r↔∃ n,Zk C (cfs n) (yfs n) all K sl h o=some r:=by
 constructor
 .intro he;cases Xo:o.op with
  | slice t x lo hi mx=>refine ⟨0,?_⟩;cases mx<;>simp only [Zk,Xo] at he ⊢<;>exact he
  | call c=>
    simp only [Zk,Xo] at he ⊢;split at he
    .cases he
    .rename_i args Xq;cases Wb:c.callee with
     | builtin b=>refine ⟨0,?_⟩;simp only [Wb] at he ⊢;exact he
     | invoke a b=>simp only [Wb] at he;cases he
     | value f=>
       simp only [Wb] at he ⊢;split at he
       .exact (L.cl _ _ _ _ _).1 he
       .exact (L.yl _ _ _ _ _ _).1 he
       .cases he
  | _=>refine ⟨0,?_⟩;simp only [Zk,Xo] at he ⊢<;>exact he
 .rintro ⟨n,he⟩;exact Zca (fun a b c d r h=>(L.cl _ _ _ _ _).2 ⟨n,h⟩) (fun a b c d e r h=>(L.yl _ _ _ _ _ _).2 ⟨n,h⟩) he
theorem Z7k (L:Lims cfs yfs cf yf){all:List Oper}{o:Oper}{r}(he:opP C cf yf all K sl h o=some r):∃ n,opP C (cfs n) (yfs n) all K sl h o=some r:=by
 unfold opP at he ⊢;split at he
 .exact ⟨0,he⟩
 .split at he
  .exact ⟨0,he⟩
  .exact (Zj0 L).1 he
theorem Zkb (L:Lims cfs yfs cf yf){all:List Oper}:∀ {l:List Oper} {sl:Yo} {h:PH} {r:Yo×PH},Qq C cf yf K all l sl h=some r->∃ n,Qq C (cfs n) (yfs n) K all l sl h=some r
 | [],sl,h,r,he=>⟨0,he⟩
 | o::l,sl,h,r,he=>by
   simp only [Qq] at he ⊢;split at he
   .rename_i hw;split at he
    .rename_i v h1 ho;obtain ⟨n,hn⟩:=Z7k L ho;obtain ⟨m,hm⟩:=Zkb L he;refine ⟨max n m,?_⟩;rw [Zrd (L.c _ _ (Nat.le_max_left n m)) (L.y _ _ (Nat.le_max_left n m)) hn];exact Zaq (L.c _ _ (Nat.le_max_right n m)) (L.y _ _ (Nat.le_max_right n m)) hm
    .cases he
   .exact Zkb L he
   .cases he
theorem Zx3 (L:Lims cfs yfs cf yf){all:List Oper}{masks:Array Nat}{o:Oper}{i:Nat}{s s':PD}(he:Zbq C cf yf K all masks o i s=some s'):∃ n,Zbq C (cfs n) (yfs n) K all masks o i s=some s':=by
 unfold Zbq at he ⊢
 try dsimp only at he ⊢
 split at he
 .cases he
 .exact ⟨0,he⟩
 .split at he
  .exact ⟨0,he⟩
  .split at he
   .exact ⟨0,he⟩
   .split at he
    .rename_i v h' Xl;obtain ⟨n,hn⟩:=(Zj0 L).1 Xl;exact ⟨n,by rw [hn];exact he⟩
    .cases he
theorem Zm0 (L:Lims cfs yfs cf yf){all:List Oper}{masks:Array Nat}:∀ {l:List Oper} {i:Nat} {s s':PD},Rf C cf yf K all masks l i s=some s'->∃ n,Rf C (cfs n) (yfs n) K all masks l i s=some s'
 | [],i,s,s',he=>⟨0,he⟩
 | o::l,i,s,s',he=>by
   simp only [Rf] at he ⊢;split at he
   .rename_i st1 h1;obtain ⟨n,hn⟩:=Zx3 L h1;obtain ⟨m,hm⟩:=Zm0 L he;refine ⟨max n m,?_⟩;rw [Zjx (L.c _ _ (Nat.le_max_left n m)) (L.y _ _ (Nat.le_max_left n m)) hn];exact Zev (L.c _ _ (Nat.le_max_right n m)) (L.y _ _ (Nat.le_max_right n m)) hm
   .cases he
theorem Zz0 (L:Lims cfs yfs cf yf){ops:Array Oper}{r:Yo×PH}(he:Za2 C cf yf K ops sl h=some r):∃ n,Za2 C (cfs n) (yfs n) K ops sl h=some r:=by
 unfold Za2 at he ⊢;rw [Option.map_eq_some_iff] at he;obtain ⟨s,hp,e⟩:=he;obtain ⟨n,hn⟩:=Zm0 L hp;exact ⟨n,by rw [hn,Option.map_some,e]⟩
theorem lims:Lims (fun n=>callF C (fun K'=>exec C n K' true)) (fun n=>yieldF (fun K'=>exec C n K' false)) (Yv C) (Tq C) where
 c:=fun n m hl=>Qm fun a b c d r h=>U6 hl h
 y:=fun n m hl=>Qx fun a b c d r h=>U6 hl h
 cl:=fun a b d e r=>R6
 yl:=fun a b d e f r=>Zeo
theorem Z4p:W5 C K Xg .skip sl h=some (.normal,sl,h):=Xe.2 ⟨1,rfl⟩
theorem Z4r {id:Nat}:W5 C K Xg (.exit id) sl h=some (.exit id,sl,h):=Xe.2 ⟨1,rfl⟩
theorem Z83:W5 C K Xg .ret sl h=some (.ret,sl,h):=Xe.2 ⟨1,rfl⟩
theorem Zve {id:Nat}{ops:Array Oper}:W5 C K Xg (.region id ops false) sl h=(Qq C (Yv C) (Tq C) K ops.toList ops.toList sl h).map fun (Yp,h')=>(.normal,Yp,h'):=by
 refine Ru S8 (fun n r hn=>?_) (fun r hr=>?_)
 .cases n with
  | zero=>simp [exec] at hn
  | succ n=>
    rw [exec] at hn
    try dsimp only at hn
    simp only [Bool.false_eq_true,if_false,Option.map_eq_some_iff] at hn;obtain ⟨x,hx,e⟩:=hn;rw [Zaq (cf':=Yv C) (yf':=Tq C) (fun a b c d r h=>R6.2 ⟨n,h⟩) (fun a b c d e r h=>Zeo.2 ⟨n,h⟩) hx];exact congrArg some e
 .rw [Option.map_eq_some_iff] at hr;obtain ⟨x,hx,e⟩:=hr;obtain ⟨n,hn⟩:=Zkb lims hx;refine ⟨n+1,?_⟩;rw [exec]
  try dsimp only
  simp only [Bool.false_eq_true,if_false];rw [hn];exact congrArg some e
theorem Z4s {id:Nat}{ops:Array Oper}:W5 C K Xg (.region id ops true) sl h=(Za2 C (Yv C) (Tq C) K ops sl h).map fun (Yp,h')=>(.normal,Yp,h'):=by
 refine Ru S8 (fun n r hn=>?_) (fun r hr=>?_)
 .cases n with
  | zero=>simp [exec] at hn
  | succ n=>
    rw [exec] at hn
    try dsimp only at hn
    simp only [if_true,Option.map_eq_some_iff] at hn;obtain ⟨x,hx,e⟩:=hn;rw [Zlf (cf':=Yv C) (yf':=Tq C) (fun a b c d r h=>R6.2 ⟨n,h⟩) (fun a b c d e r h=>Zeo.2 ⟨n,h⟩) hx];exact congrArg some e
 .rw [Option.map_eq_some_iff] at hr;obtain ⟨x,hx,e⟩:=hr;obtain ⟨n,hn⟩:=Zz0 lims hx;refine ⟨n+1,?_⟩;rw [exec]
  try dsimp only
  simp only [if_true];rw [hn];exact congrArg some e
def Zaa0 (r:Option (Ex×Yo×PH))(f:Yo->PH->Option (Ex×Yo×PH)):Option (Ex×Yo×PH):=
 match r with
 | some (.normal,sl,h)=>f sl h
 | r=>r
theorem Z82 {a b:Code}:W5 C K Xg (.seq a b) sl h=Zaa0 (W5 C K Xg a sl h) fun sl h=>W5 C K Xg b sl h:=by
 refine Ru S8 (fun n r hn=>?_) (fun r hr=>?_)
 .cases n with
  | zero=>simp [exec] at hn
  | succ n=>
    rw [exec] at hn
    try dsimp only at hn
    split at hn
    .rename_i Re h1 hx;rw [Xe.2 ⟨n,hx⟩];exact Xe.2 ⟨n,hn⟩
    .rename_i Ys;rw [Xe.2 ⟨n,hn⟩];obtain ⟨x,Re,h1⟩:=r;cases x with
     | normal=>exact absurd hn (Ys _ _)
     | exit id=>rfl
     | ret=>rfl
 .cases ha:W5 C K Xg a sl h with
  | none=>rw [ha] at hr;cases hr
  | some q=>
    rw [ha] at hr;obtain ⟨n,hn⟩:=Xe.1 ha;obtain ⟨x,Re,h1⟩:=q;cases x with
    | normal=>
      obtain ⟨m,hm⟩:=Xe.1 (show W5 C K Xg b Re h1=some r from hr);refine ⟨max n m+1,?_⟩;rw [exec]
      try dsimp only
      rw [U6 (Nat.le_max_left n m) hn];exact U6 (Nat.le_max_right n m) hm
    | exit id=>cases hr;refine ⟨n+1,?_⟩;rw [exec];try dsimp only
               rw [hn]
    | ret=>cases hr;refine ⟨n+1,?_⟩;rw [exec];try dsimp only
           rw [hn]
theorem Z4t {c:Operand}{a b:Code}:W5 C K Xg (.cond c a b) sl h=(match Yr sl c with
  | some (.bool true)=>W5 C K Xg a sl h
  | some (.bool false)=>W5 C K Xg b sl h
  | _=>none):=by
 refine Ru S8 (fun n r hn=>?_) (fun r hr=>?_)
 .cases n with
  | zero=>simp [exec] at hn
  | succ n=>
    rw [exec] at hn
    try dsimp only at hn
    split at hn
    .rename_i hc;rw [hc];exact Xe.2 ⟨n,hn⟩
    .rename_i hc;rw [hc];exact Xe.2 ⟨n,hn⟩
    .cases hn
 .split at hr
  .rename_i hc;obtain ⟨n,hn⟩:=Xe.1 hr
   exact ⟨n+1,by rw [exec];try dsimp only
                 rw [hc];exact hn⟩
  .rename_i hc;obtain ⟨n,hn⟩:=Xe.1 hr
   exact ⟨n+1,by rw [exec];try dsimp only
                 rw [hc];exact hn⟩
  .cases hr
def Z5b (id:Nat)(r:Option (Ex×Yo×PH)):Option (Ex×Yo×PH):=
 match r with
 | some (.exit id',sl,h)=>if id'=id then some (.normal,sl,h) else some (.exit id',sl,h)
 | r=>r
theorem Zzy {id:Nat}{b:Code}:W5 C K Xg (.block id b) sl h=Z5b id (W5 C K Xg b sl h):=by
 refine Ru S8 (fun n r hn=>?_) (fun r hr=>?_)
 .cases n with
  | zero=>simp [exec] at hn
  | succ n=>
    rw [exec] at hn
    try dsimp only at hn
    split at hn
    .rename_i id' Re h1 hx;rw [Xe.2 ⟨n,hx⟩];exact hn
    .rename_i Ys;rw [Xe.2 ⟨n,hn⟩];obtain ⟨x,Re,h1⟩:=r;cases x with
     | exit id'=>exact absurd hn (Ys _ _ _)
     | normal=>rfl
     | ret=>rfl
 .cases ha:W5 C K Xg b sl h with
  | none=>rw [ha] at hr;cases hr
  | some q=>
    rw [ha] at hr;obtain ⟨n,hn⟩:=Xe.1 ha;refine ⟨n+1,?_⟩;rw [exec]
    try dsimp only
    rw [hn];exact hr
theorem Z4q {b:Code}:W5 C K Xg (.loop b) sl h=Zaa0 (W5 C K Xg b sl h) fun Yp h'=>W5 C K Xg (.loop b) (Zbu sl Yp) h':=by
 refine Ru S8 (fun n r hn=>?_) (fun r hr=>?_)
 .cases n with
  | zero=>simp [exec] at hn
  | succ n=>
    rw [exec] at hn
    try dsimp only at hn
    split at hn
    .rename_i Re h1 hx;rw [Xe.2 ⟨n,hx⟩];exact Xe.2 ⟨n,hn⟩
    .rename_i Ys;rw [Xe.2 ⟨n,hn⟩];obtain ⟨x,Re,h1⟩:=r;cases x with
     | normal=>exact absurd hn (Ys _ _)
     | exit id=>rfl
     | ret=>rfl
 .cases ha:W5 C K Xg b sl h with
  | none=>rw [ha] at hr;cases hr
  | some q=>
    rw [ha] at hr;obtain ⟨n,hn⟩:=Xe.1 ha;obtain ⟨x,Re,h1⟩:=q;cases x with
    | normal=>
      obtain ⟨m,hm⟩:=Xe.1 (show W5 C K Xg (.loop b) (Zbu sl Re) h1=some r from hr);refine ⟨max n m+1,?_⟩;rw [exec]
      try dsimp only
      rw [U6 (Nat.le_max_left n m) hn];exact U6 (Nat.le_max_right n m) hm
    | exit id=>cases hr;refine ⟨n+1,?_⟩;rw [exec];try dsimp only
               rw [hn]
    | ret=>cases hr;refine ⟨n+1,?_⟩;rw [exec];try dsimp only
           rw [hn]
theorem Zz9 {exs:Nat->EX}{ex:EX}(hm:∀ n m,n<=m->Le4 (exs n) (exs m))(hl:∀ a b d e r,ex a b d e=some r↔∃ n,exs n a b d e=some r){f:Nat}{args:List PV}{r}:
  callF C ex K f args h=some r↔∃ n,callF C (exs n) K f args h=some r:=by
 constructor
 .intro he;have:∃ n,∀ K c sl hh q,ex K c sl hh=some q->(∃ fn,C.F f=some fn)->True:=⟨0,fun _ _ _ _ _ _ _=>trivial⟩
  unfold callF at he ⊢;split at he
  .exact ⟨0,he⟩
  split at he
  .cases he
  .rename_i fn Rc;split at he
   .cases he
   .rename_i c hc;split at he
    .rename_i Y6;cases hx:ex {base:=h.next,lo:=K.lo,ok:=K.ok} c (Sh 0 args) {h with next:=h.next+fn.ntmps} with
     | none=>rw [hx] at he;cases he
     | some q=>
       obtain ⟨n,hn⟩:=(hl _ _ _ _ _).1 hx;refine ⟨n,?_⟩;rw [if_pos Y6,hn];rw [hx] at he;exact he
    .rename_i Y6
     try dsimp only at he ⊢
     split at he
     .cases he
     .rename_i Zy Xq;split at he
      .rename_i hok;cases hx:ex {base:=h.next,lo:=h.next,ok:=reach h 4 (Zy.flatMap (refs 3))} c (Sh 0 Zy) {h.freeze (args.flatMap Yl) with next:=h.next+fn.ntmps} with
       | none=>rw [hx] at he;cases he
       | some q=>
         obtain ⟨n,hn⟩:=(hl _ _ _ _ _).1 hx;refine ⟨n,?_⟩;rw [if_neg Y6,if_pos hok,hn];rw [hx] at he;exact he
      .cases he
 .rintro ⟨n,he⟩;exact Qm (fun a b c d r h=>(hl _ _ _ _ _).2 ⟨n,h⟩) _ _ _ _ _ he
theorem Vz {f:Nat}{args:List PV}:Yv C K f args h=callF C (fun K'=>W5 C K' true) K f args h:=by
 refine Ru Zk4 (fun n r hn=>?_) (fun r hr=>?_)
 .exact Qm (fun a b c d r h=>Xe.2 ⟨n,h⟩) _ _ _ _ _ hn
 .exact (Zz9 (exs:=fun n K'=>exec C n K' true) (fun n m hl a b c d r h=>U6 hl h) (fun a b d e r=>Xe)).1 hr
theorem Zxx {l Zg:Nat}{args:List PV}:Tq C K l Zg args h=yieldF (fun K'=>W5 C K' false) K l Zg args h:=by
 refine Ru Zik (fun n r hn=>?_) (fun r hr=>?_)
 .exact Qx (fun a b c d r h=>Xe.2 ⟨n,h⟩) _ _ _ _ _ _ hn
 .unfold yieldF at hr ⊢;split at hr
  .rename_i w K0 Vn ps as bd hl;split at hr
   .rename_i hc
    replace hr:(match W5 C K0 false as (Zbs Vn (ps.zip args)) (h.put l Zg .gone) with
     | some (.normal,Re,h1)=>
       match W5 C K0 false bd Re h1 with
       | some (.normal,_,h2)=>
         match h2.get l with
         | some (w2,.gone)=>if w2=Zg then some (PV.bool true,h2.put l Zg (.loop K0 Vn ps as bd)) else none
         | _=>none
       | _=>none
     | _=>none)=some r:=hr
    cases hx:W5 C K0 false as (Zbs Vn (ps.zip args)) (h.put l Zg .gone) with
    | none=>rw [hx] at hr;cases hr
    | some q=>
      rw [hx] at hr;obtain ⟨n,hn⟩:=Xe.1 hx;obtain ⟨x,Re,h1⟩:=q;cases x with
      | normal=>
        try dsimp only at hr
        cases hx2:W5 C K0 false bd Re h1 with
        | none=>rw [hx2] at hr;cases hr
        | some q2=>
          rw [hx2] at hr;obtain ⟨m,hm⟩:=Xe.1 hx2;refine ⟨max n m,?_⟩;simp only [hl];rw [if_pos hc,U6 (Nat.le_max_left n m) hn]
          try dsimp only
          rw [U6 (Nat.le_max_right n m) hm];exact hr
      | exit id=>cases hr
      | ret=>cases hr
   .cases hr
  .cases hr
theorem Zzw {f:Operand}{ps:Array Tmp}{as bd:Code}:W5 C K true (.rangeFunc f ps as bd) sl h=(match Yr sl f with
    | some (.fn g first captured)=>
      if C.raw g then
       match Yv C K g (first++[.yield h.next 0]++captured) {h.put h.next 0 (.loop K sl ps.toList as bd) with next:=h.next+1} with
       | some (_,h')=>match h'.get h.next with
         | some (0,.loop _ _ _ _ _)=>some (.normal,sl,h'.put h.next 0 .gone)
         | _=>none
       | none=>none
      else none
    | _=>none):=by
 refine Ru S8 (fun n r hn=>?_) (fun r hr=>?_)
 .cases n with
  | zero=>simp [exec] at hn
  | succ n=>
    rw [exec] at hn
    try dsimp only at hn
    simp only [if_true] at hn;split at hn
    .rename_i g first captured hf
     split at hn
     .rename_i Y6;rw [hf]
      try dsimp only
      rw [if_pos Y6];split at hn
      .rename_i u h2 hx;have hx':Yv C K g (first++[.yield h.next 0]++captured) {h.put h.next 0 (.loop K sl ps.toList as bd) with next:=h.next+1}=some (u,h2):=R6.2 ⟨n,hx⟩;rw [show Yv C K g (first++[.yield h.next 0]++captured) {next:=h.next+1,get:=(h.put h.next 0 (.loop K sl ps.toList as bd)).get}=some (u,h2) from hx'];exact hn
      .cases hn
     .cases hn
    .cases hn
 .split at hr
  .rename_i g first captured hf
   split at hr
   .rename_i Y6;cases hx:Yv C K g (first++[.yield h.next 0]++captured) {h.put h.next 0 (.loop K sl ps.toList as bd) with next:=h.next+1} with
    | none=>rw [hx] at hr;cases hr
    | some q=>
      rw [hx] at hr;obtain ⟨n,hn⟩:=R6.1 hx;refine ⟨n+1,?_⟩;rw [exec]
      try dsimp only
      simp only [if_true];rw [hf]
      try dsimp only
      rw [if_pos Y6];have hn':callF C (fun K'=>exec C n K' true) K g (first++[.yield h.next 0]++captured) {h.put h.next 0 (.loop K sl ps.toList as bd) with next:=h.next+1}=some q:=hn;rw [hn'];exact hr
   .cases hr
  .cases hr
end
end Go.Pure
end
