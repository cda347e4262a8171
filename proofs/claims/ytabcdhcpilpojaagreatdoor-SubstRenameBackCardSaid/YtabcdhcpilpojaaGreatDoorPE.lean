/- Plain runs with as much fuel as they want: equations. -/
import Derived.Test.YtabcdhcpilpojaaGreatDoorPA
set_option linter.unusedSimpArgs false
set_option linter.unusedVariables false
section
namespace Go.Pure
open Go Go.Virt
open Classical in
noncomputable def lim {α:Type} (f:Nat->Option α):Option α:=if h:∃ n,(f n).isSome=true then f h.choose else none
def Zsh {α:Type} (f:Nat->Option α):Prop:=∀ n m r,n<=m->f n=some r->f m=some r
theorem Zfx {α:Type} {f:Nat->Option α} (hf:Zsh f) {r:α}:lim f=some r↔∃ n,f n=some r:=by
 unfold lim
 constructor
 .intro h
  split at h
  .exact ⟨_,h⟩
  .cases h
 .rintro ⟨n,hn⟩
  have hex:∃ n,(f n).isSome=true:=⟨n,by rw [hn];rfl⟩
  rw [dif_pos hex]
  have h1:=hex.choose_spec
  obtain ⟨r',hr'⟩:=Option.isSome_iff_exists.1 h1
  have h2:=hf _ _ _ (Nat.le_max_left n hex.choose) hn
  have h3:=hf _ _ _ (Nat.le_max_right n hex.choose) hr'
  rw [h2] at h3
  rw [hr',h3]
theorem Rk {α:Type} {f:Nat->Option α} {x:Option α} (hf:Zsh f) (h1:∀ n r,f n=some r->x=some r) (h2:∀ r,x=some r->∃ n,f n=some r):lim f=x:=by
 cases hx:x with
 | some r=>exact (Zfx hf).2 (h2 r hx)
 | none=>
   cases hl:lim f with
   | none=>rfl
   | some r=>
     obtain ⟨n,hn⟩:=(Zfx hf).1 hl
     rw [hx] at h1
     cases h1 n r hn
section
variable (C:Ctx)
noncomputable def W2 (K:Loc) (Xc:Bool) (code:Code) (sl:Yn) (h:PH):Option (Ex×Yn×PH):=lim fun n=>exec C n K Xc code sl h
noncomputable def Yu (K:Loc) (f:Nat) (args:List PV) (h:PH):Option (PV×PH):=lim fun n=>call C n K f args h
noncomputable def Tl (K:Loc) (l Zg:Nat) (args:List PV) (h:PH):Option (PV×PH):=lim fun n=>yieldF (fun K'=>exec C n K' false) K l Zg args h
end
section
variable {C:Ctx} {K:Loc} {Xc:Bool} {sl Yo:Yn} {h h':PH}
theorem Sx {code:Code}:Zsh (fun n=>exec C n K Xc code sl h):=fun n m r hl he=>U0 hl he
theorem Zkf {f:Nat} {args:List PV}:Zsh (fun n=>call C n K f args h):=fun n m r hl he=>Z7r hl he
theorem Zh2 {l Zg:Nat} {args:List PV}:Zsh (fun n=>yieldF (fun K'=>exec C n K' false) K l Zg args h):=fun n m r hl he=>Qm (fun _ _ _ _ _ h'=>U0 hl h') _ _ _ _ _ _ he
theorem Xa {code:Code} {r}:W2 C K Xc code sl h=some r↔∃ n,exec C n K Xc code sl h=some r:=Zfx Sx
theorem Rx {f:Nat} {args:List PV} {r}:Yu C K f args h=some r↔∃ n,call C n K f args h=some r:=Zfx Zkf
theorem Zd9 {l Zg:Nat} {args:List PV} {r}:Tl C K l Zg args h=some r↔∃ n,yieldF (fun K'=>exec C n K' false) K l Zg args h=some r:=Zfx Zh2
structure Lims (cfs:Nat->CF) (yfs:Nat->YF) (cf:CF) (yf:YF):Prop where
 c:∀ n m,n<=m->Le4 (cfs n) (cfs m)
 y:∀ n m,n<=m->Le5 (yfs n) (yfs m)
 cl:∀ a b d e r,cf a b d e=some r↔∃ n,cfs n a b d e=some r
 yl:∀ a b d e f r,yf a b d e f=some r↔∃ n,yfs n a b d e f=some r
variable {cfs:Nat->CF} {yfs:Nat->YF} {cf:CF} {yf:YF}
theorem Zjf (L:Lims cfs yfs cf yf) {all:List Oper} {o:Oper} {r}:Zj C cf yf all K sl h o=some r↔∃ n,Zj C (cfs n) (yfs n) all K sl h o=some r:=by
 constructor
 .intro he
  cases Xk:o.op with
  | slice t x lo hi mx=>refine ⟨0,?_⟩;cases mx<;>simp only [Zj,Xk] at he ⊢<;>exact he
  | call c=>
    simp only [Zj,Xk] at he ⊢
    split at he
    .cases he
    .rename_i args Xn
     cases X8:c.callee with
     | builtin b=>refine ⟨0,?_⟩;simp only [X8] at he ⊢;exact he
     | invoke a b=>simp only [X8] at he;cases he
     | value f=>
       simp only [X8] at he ⊢
       split at he
       .exact (L.cl _ _ _ _ _).1 he
       .exact (L.yl _ _ _ _ _ _).1 he
       .cases he
  | _=>refine ⟨0,?_⟩;simp only [Zj,Xk] at he ⊢<;>exact he
 .rintro ⟨n,he⟩
  exact Zbx (fun a b c d r h=>(L.cl _ _ _ _ _).2 ⟨n,h⟩) (fun a b c d e r h=>(L.yl _ _ _ _ _ _).2 ⟨n,h⟩) he
theorem Z56 (L:Lims cfs yfs cf yf) {all:List Oper} {o:Oper} {r} (he:opP C cf yf all K sl h o=some r):∃ n,opP C (cfs n) (yfs n) all K sl h o=some r:=by
 unfold opP at he ⊢
 split at he
 .exact ⟨0,he⟩
 .split at he
  .exact ⟨0,he⟩
  .exact (Zjf L).1 he
theorem Zjq (L:Lims cfs yfs cf yf) {all:List Oper}:∀ {l:List Oper} {sl:Yn} {h:PH} {r:Yn×PH},Qg C cf yf K all l sl h=some r->∃ n,Qg C (cfs n) (yfs n) K all l sl h=some r
 | [],sl,h,r,he=>⟨0,he⟩
 | o::l,sl,h,r,he=>by
   simp only [Qg] at he ⊢
   split at he
   .rename_i hw
    split at he
    .rename_i v h1 ho
     obtain ⟨n,hn⟩:=Z56 L ho
     obtain ⟨m,hm⟩:=Zjq L he
     refine ⟨max n m,?_⟩
     rw [Zqn (L.c _ _ (Nat.le_max_left n m)) (L.y _ _ (Nat.le_max_left n m)) hn]
     exact Zag (L.c _ _ (Nat.le_max_right n m)) (L.y _ _ (Nat.le_max_right n m)) hm
    .cases he
   .exact Zjq L he
   .cases he
theorem Zw2 (L:Lims cfs yfs cf yf) {all:List Oper} {masks:Array Nat} {o:Oper} {i:Nat} {s s':PD} (he:Zbh C cf yf K all masks o i s=some s'):∃ n,Zbh C (cfs n) (yfs n) K all masks o i s=some s':=by
 unfold Zbh at he ⊢
 try dsimp only at he ⊢
 split at he
 .cases he
 .exact ⟨0,he⟩
 .split at he
  .exact ⟨0,he⟩
  .split at he
   .exact ⟨0,he⟩
   .split at he
    .rename_i v h' Xi
     obtain ⟨n,hn⟩:=(Zjf L).1 Xi
     exact ⟨n,by rw [hn];exact he⟩
    .cases he
theorem Zma (L:Lims cfs yfs cf yf) {all:List Oper} {masks:Array Nat}:∀ {l:List Oper} {i:Nat} {s s':PD},S7 C cf yf K all masks l i s=some s'->∃ n,S7 C (cfs n) (yfs n) K all masks l i s=some s'
 | [],i,s,s',he=>⟨0,he⟩
 | o::l,i,s,s',he=>by
   simp only [S7] at he ⊢
   split at he
   .rename_i Q4 h1
    obtain ⟨n,hn⟩:=Zw2 L h1
    obtain ⟨m,hm⟩:=Zma L he
    refine ⟨max n m,?_⟩
    rw [Zjc (L.c _ _ (Nat.le_max_left n m)) (L.y _ _ (Nat.le_max_left n m)) hn]
    exact Zeg (L.c _ _ (Nat.le_max_right n m)) (L.y _ _ (Nat.le_max_right n m)) hm
   .cases he
theorem Zyv (L:Lims cfs yfs cf yf) {ops:Array Oper} {r:Yn×PH} (he:Zat C cf yf K ops sl h=some r):∃ n,Zat C (cfs n) (yfs n) K ops sl h=some r:=by
 unfold Zat at he ⊢
 rw [Option.map_eq_some_iff] at he
 obtain ⟨s,hp,e⟩:=he
 obtain ⟨n,hn⟩:=Zma L hp
 exact ⟨n,by rw [hn,Option.map_some,e]⟩
theorem lims:Lims (fun n=>callF C (fun K'=>exec C n K' true)) (fun n=>yieldF (fun K'=>exec C n K' false)) (Yu C) (Tl C) where
 c:=fun n m hl=>Qc fun a b c d r h=>U0 hl h
 y:=fun n m hl=>Qm fun a b c d r h=>U0 hl h
 cl:=fun a b d e r=>Rx
 yl:=fun a b d e f r=>Zd9
theorem Z3c:W2 C K Xc .skip sl h=some (.normal,sl,h):=Xa.2 ⟨1,rfl⟩
theorem Z3e {id:Nat}:W2 C K Xc (.exit id) sl h=some (.exit id,sl,h):=Xa.2 ⟨1,rfl⟩
theorem Z7l:W2 C K Xc .ret sl h=some (.ret,sl,h):=Xa.2 ⟨1,rfl⟩
theorem Zue {id:Nat} {ops:Array Oper}:W2 C K Xc (.region id ops false) sl h=(Qg C (Yu C) (Tl C) K ops.toList ops.toList sl h).map fun (Yo,h')=>(.normal,Yo,h'):=by
 refine Rk Sx (fun n r hn=>?_) (fun r hr=>?_)
 .cases n with
  | zero=>simp [exec] at hn
  | succ n=>
    rw [exec] at hn
    try dsimp only at hn
    simp only [Bool.false_eq_true,if_false,Option.map_eq_some_iff] at hn
    obtain ⟨x,hx,e⟩:=hn
    rw [Zag (cf':=Yu C) (yf':=Tl C) (fun a b c d r h=>Rx.2 ⟨n,h⟩) (fun a b c d e r h=>Zd9.2 ⟨n,h⟩) hx]
    exact congrArg some e
 .rw [Option.map_eq_some_iff] at hr
  obtain ⟨x,hx,e⟩:=hr
  obtain ⟨n,hn⟩:=Zjq lims hx
  refine ⟨n+1,?_⟩
  rw [exec]
  try dsimp only
  simp only [Bool.false_eq_true,if_false]
  rw [hn]
  exact congrArg some e
theorem Z3f {id:Nat} {ops:Array Oper}:W2 C K Xc (.region id ops true) sl h=(Zat C (Yu C) (Tl C) K ops sl h).map fun (Yo,h')=>(.normal,Yo,h'):=by
 refine Rk Sx (fun n r hn=>?_) (fun r hr=>?_)
 .cases n with
  | zero=>simp [exec] at hn
  | succ n=>
    rw [exec] at hn
    try dsimp only at hn
    simp only [if_true,Option.map_eq_some_iff] at hn
    obtain ⟨x,hx,e⟩:=hn
    rw [Zkq (cf':=Yu C) (yf':=Tl C) (fun a b c d r h=>Rx.2 ⟨n,h⟩) (fun a b c d e r h=>Zd9.2 ⟨n,h⟩) hx]
    exact congrArg some e
 .rw [Option.map_eq_some_iff] at hr
  obtain ⟨x,hx,e⟩:=hr
  obtain ⟨n,hn⟩:=Zyv lims hx
  refine ⟨n+1,?_⟩
  rw [exec]
  try dsimp only
  simp only [if_true]
  rw [hn]
  exact congrArg some e
def Z9g (r:Option (Ex×Yn×PH)) (f:Yn->PH->Option (Ex×Yn×PH)):Option (Ex×Yn×PH):=
 match r with
 | some (.normal,sl,h)=>f sl h
 | r=>r
theorem Z7k {a b:Code}:W2 C K Xc (.seq a b) sl h=Z9g (W2 C K Xc a sl h) fun sl h=>W2 C K Xc b sl h:=by
 refine Rk Sx (fun n r hn=>?_) (fun r hr=>?_)
 .cases n with
  | zero=>simp [exec] at hn
  | succ n=>
    rw [exec] at hn
    try dsimp only at hn
    split at hn
    .rename_i Rc h1 hx
     rw [Xa.2 ⟨n,hx⟩]
     exact Xa.2 ⟨n,hn⟩
    .rename_i Ys
     rw [Xa.2 ⟨n,hn⟩]
     obtain ⟨x,Rc,h1⟩:=r
     cases x with
     | normal=>exact absurd hn (Ys _ _)
     | exit id=>rfl
     | ret=>rfl
 .cases ha:W2 C K Xc a sl h with
  | none=>rw [ha] at hr;cases hr
  | some q=>
    rw [ha] at hr
    obtain ⟨n,hn⟩:=Xa.1 ha
    obtain ⟨x,Rc,h1⟩:=q
    cases x with
    | normal=>
      obtain ⟨m,hm⟩:=Xa.1 (show W2 C K Xc b Rc h1=some r from hr)
      refine ⟨max n m+1,?_⟩
      rw [exec]
      try dsimp only
      rw [U0 (Nat.le_max_left n m) hn]
      exact U0 (Nat.le_max_right n m) hm
    | exit id=>cases hr;refine ⟨n+1,?_⟩;rw [exec];try dsimp only
               rw [hn]
    | ret=>cases hr;refine ⟨n+1,?_⟩;rw [exec];try dsimp only
           rw [hn]
theorem Z3g {c:Operand} {a b:Code}:W2 C K Xc (.cond c a b) sl h=(match Yq sl c with
  | some (.bool true)=>W2 C K Xc a sl h
  | some (.bool false)=>W2 C K Xc b sl h
  | _=>none):=by
 refine Rk Sx (fun n r hn=>?_) (fun r hr=>?_)
 .cases n with
  | zero=>simp [exec] at hn
  | succ n=>
    rw [exec] at hn
    try dsimp only at hn
    split at hn
    .rename_i hc;rw [hc];exact Xa.2 ⟨n,hn⟩
    .rename_i hc;rw [hc];exact Xa.2 ⟨n,hn⟩
    .cases hn
 .split at hr
  .rename_i hc
   obtain ⟨n,hn⟩:=Xa.1 hr
   exact ⟨n+1,by rw [exec];try dsimp only
                 rw [hc];exact hn⟩
  .rename_i hc
   obtain ⟨n,hn⟩:=Xa.1 hr
   exact ⟨n+1,by rw [exec];try dsimp only
                 rw [hc];exact hn⟩
  .cases hr
def Z30 (id:Nat) (r:Option (Ex×Yn×PH)):Option (Ex×Yn×PH):=
 match r with
 | some (.exit id',sl,h)=>if id'=id then some (.normal,sl,h) else some (.exit id',sl,h)
 | r=>r
theorem Zyt {id:Nat} {b:Code}:W2 C K Xc (.block id b) sl h=Z30 id (W2 C K Xc b sl h):=by
 refine Rk Sx (fun n r hn=>?_) (fun r hr=>?_)
 .cases n with
  | zero=>simp [exec] at hn
  | succ n=>
    rw [exec] at hn
    try dsimp only at hn
    split at hn
    .rename_i id' Rc h1 hx
     rw [Xa.2 ⟨n,hx⟩]
     exact hn
    .rename_i Ys
     rw [Xa.2 ⟨n,hn⟩]
     obtain ⟨x,Rc,h1⟩:=r
     cases x with
     | exit id'=>exact absurd hn (Ys _ _ _)
     | normal=>rfl
     | ret=>rfl
 .cases ha:W2 C K Xc b sl h with
  | none=>rw [ha] at hr;cases hr
  | some q=>
    rw [ha] at hr
    obtain ⟨n,hn⟩:=Xa.1 ha
    refine ⟨n+1,?_⟩
    rw [exec]
    try dsimp only
    rw [hn]
    exact hr
theorem Z3d {b:Code}:W2 C K Xc (.loop b) sl h=Z9g (W2 C K Xc b sl h) fun Yo h'=>W2 C K Xc (.loop b) (Zbl sl Yo) h':=by
 refine Rk Sx (fun n r hn=>?_) (fun r hr=>?_)
 .cases n with
  | zero=>simp [exec] at hn
  | succ n=>
    rw [exec] at hn
    try dsimp only at hn
    split at hn
    .rename_i Rc h1 hx
     rw [Xa.2 ⟨n,hx⟩]
     exact Xa.2 ⟨n,hn⟩
    .rename_i Ys
     rw [Xa.2 ⟨n,hn⟩]
     obtain ⟨x,Rc,h1⟩:=r
     cases x with
     | normal=>exact absurd hn (Ys _ _)
     | exit id=>rfl
     | ret=>rfl
 .cases ha:W2 C K Xc b sl h with
  | none=>rw [ha] at hr;cases hr
  | some q=>
    rw [ha] at hr
    obtain ⟨n,hn⟩:=Xa.1 ha
    obtain ⟨x,Rc,h1⟩:=q
    cases x with
    | normal=>
      obtain ⟨m,hm⟩:=Xa.1 (show W2 C K Xc (.loop b) (Zbl sl Rc) h1=some r from hr)
      refine ⟨max n m+1,?_⟩
      rw [exec]
      try dsimp only
      rw [U0 (Nat.le_max_left n m) hn]
      exact U0 (Nat.le_max_right n m) hm
    | exit id=>cases hr;refine ⟨n+1,?_⟩;rw [exec];try dsimp only
               rw [hn]
    | ret=>cases hr;refine ⟨n+1,?_⟩;rw [exec];try dsimp only
           rw [hn]
theorem Zy4 {exs:Nat->EX} {ex:EX} (hm:∀ n m,n<=m->Le4 (exs n) (exs m)) (hl:∀ a b d e r,ex a b d e=some r↔∃ n,exs n a b d e=some r) {f:Nat} {args:List PV} {r}:
  callF C ex K f args h=some r↔∃ n,callF C (exs n) K f args h=some r:=by
 constructor
 .intro he
  have:∃ n,∀ K c sl hh q,ex K c sl hh=some q->(∃ fn,C.F f=some fn)->True:=⟨0,fun _ _ _ _ _ _ _=>trivial⟩
  unfold callF at he ⊢
  split at he
  .exact ⟨0,he⟩
  split at he
  .cases he
  .rename_i fn S5
   split at he
   .cases he
   .rename_i c hc
    split at he
    .rename_i Y5
     cases hx:ex {base:=h.next,lo:=K.lo,ok:=K.ok} c (Sb 0 args) {h with next:=h.next+fn.ntmps} with
     | none=>rw [hx] at he;cases he
     | some q=>
       obtain ⟨n,hn⟩:=(hl _ _ _ _ _).1 hx
       refine ⟨n,?_⟩
       rw [if_pos Y5,hn]
       rw [hx] at he
       exact he
    .rename_i Y5
     try dsimp only at he ⊢
     split at he
     .cases he
     .rename_i Zx Xn
      split at he
      .rename_i hok
       cases hx:ex {base:=h.next,lo:=h.next,ok:=reach h 4 (Zx.flatMap (refs 3))} c (Sb 0 Zx) {h.freeze (args.flatMap Yi) with next:=h.next+fn.ntmps} with
       | none=>rw [hx] at he;cases he
       | some q=>
         obtain ⟨n,hn⟩:=(hl _ _ _ _ _).1 hx
         refine ⟨n,?_⟩
         rw [if_neg Y5,if_pos hok,hn]
         rw [hx] at he
         exact he
      .cases he
 .rintro ⟨n,he⟩
  exact Qc (fun a b c d r h=>(hl _ _ _ _ _).2 ⟨n,h⟩) _ _ _ _ _ he
theorem Vw {f:Nat} {args:List PV}:Yu C K f args h=callF C (fun K'=>W2 C K' true) K f args h:=by
 refine Rk Zkf (fun n r hn=>?_) (fun r hr=>?_)
 .exact Qc (fun a b c d r h=>Xa.2 ⟨n,h⟩) _ _ _ _ _ hn
 .exact (Zy4 (exs:=fun n K'=>exec C n K' true) (fun n m hl a b c d r h=>U0 hl h) (fun a b d e r=>Xa)).1 hr
theorem Zwu {l Zg:Nat} {args:List PV}:Tl C K l Zg args h=yieldF (fun K'=>W2 C K' false) K l Zg args h:=by
 refine Rk Zh2 (fun n r hn=>?_) (fun r hr=>?_)
 .exact Qm (fun a b c d r h=>Xa.2 ⟨n,h⟩) _ _ _ _ _ _ hn
 .unfold yieldF at hr ⊢
  split at hr
  .rename_i w K0 Vl ps as bd hl
   split at hr
   .rename_i hc
    replace hr:(match W2 C K0 false as (Zbj Vl (ps.zip args)) (h.put l Zg .gone) with
     | some (.normal,Rc,h1)=>
       match W2 C K0 false bd Rc h1 with
       | some (.normal,_,h2)=>
         match h2.get l with
         | some (w2,.gone)=>if w2=Zg then some (PV.bool true,h2.put l Zg (.loop K0 Vl ps as bd)) else none
         | _=>none
       | _=>none
     | _=>none)=some r:=hr
    cases hx:W2 C K0 false as (Zbj Vl (ps.zip args)) (h.put l Zg .gone) with
    | none=>rw [hx] at hr;cases hr
    | some q=>
      rw [hx] at hr
      obtain ⟨n,hn⟩:=Xa.1 hx
      obtain ⟨x,Rc,h1⟩:=q
      cases x with
      | normal=>
        try dsimp only at hr
        cases hx2:W2 C K0 false bd Rc h1 with
        | none=>rw [hx2] at hr;cases hr
        | some q2=>
          rw [hx2] at hr
          obtain ⟨m,hm⟩:=Xa.1 hx2
          refine ⟨max n m,?_⟩
          simp only [hl]
          rw [if_pos hc,U0 (Nat.le_max_left n m) hn]
          try dsimp only
          rw [U0 (Nat.le_max_right n m) hm]
          exact hr
      | exit id=>cases hr
      | ret=>cases hr
   .cases hr
  .cases hr
theorem Zyr {f:Operand} {ps:Array Tmp} {as bd:Code}:W2 C K true (.rangeFunc f ps as bd) sl h=(match Yq sl f with
    | some (.fn g first captured)=>
      if C.raw g then
       match Yu C K g (first++[.yield h.next 0]++captured) {h.put h.next 0 (.loop K sl ps.toList as bd) with next:=h.next+1} with
       | some (_,h')=>match h'.get h.next with
         | some (0,.loop _ _ _ _ _)=>some (.normal,sl,h'.put h.next 0 .gone)
         | _=>none
       | none=>none
      else none
    | _=>none):=by
 refine Rk Sx (fun n r hn=>?_) (fun r hr=>?_)
 .cases n with
  | zero=>simp [exec] at hn
  | succ n=>
    rw [exec] at hn
    try dsimp only at hn
    simp only [if_true] at hn
    split at hn
    .rename_i g first captured hf
     split at hn
     .rename_i Y5
      rw [hf]
      try dsimp only
      rw [if_pos Y5]
      split at hn
      .rename_i u h2 hx
       have hx':Yu C K g (first++[.yield h.next 0]++captured) {h.put h.next 0 (.loop K sl ps.toList as bd) with next:=h.next+1}=some (u,h2):=Rx.2 ⟨n,hx⟩
       rw [show Yu C K g (first++[.yield h.next 0]++captured) {next:=h.next+1,get:=(h.put h.next 0 (.loop K sl ps.toList as bd)).get}=some (u,h2) from hx']
       exact hn
      .cases hn
     .cases hn
    .cases hn
 .split at hr
  .rename_i g first captured hf
   split at hr
   .rename_i Y5
    cases hx:Yu C K g (first++[.yield h.next 0]++captured) {h.put h.next 0 (.loop K sl ps.toList as bd) with next:=h.next+1} with
    | none=>rw [hx] at hr;cases hr
    | some q=>
      rw [hx] at hr
      obtain ⟨n,hn⟩:=Rx.1 hx
      refine ⟨n+1,?_⟩
      rw [exec]
      try dsimp only
      simp only [if_true]
      rw [hf]
      try dsimp only
      rw [if_pos Y5]
      have hn':callF C (fun K'=>exec C n K' true) K g (first++[.yield h.next 0]++captured) {h.put h.next 0 (.loop K sl ps.toList as bd) with next:=h.next+1}=some q:=hn
      rw [hn']
      exact hr
   .cases hr
  .cases hr
end
end Go.Pure
end
