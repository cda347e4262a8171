/- Leaving a function: the deferred marks, the results. -/
import Derived.Test.YtabcdhcpilpojaaGreatDoorVA
import Derived.Orders
set_option linter.unusedSimpArgs false
set_option linter.unusedVariables false
section
namespace Go.Virt
open Go Go.RowKit
section
variable {P:Program}{G:Nat}{Y YC:Nat->Blk}{h h':VH}{w w':World}{base:Nat}{v:Value}
inductive DS (w:World)(lo:Nat):Nat->List Deferred->Prop
 |nil (hi:Nat):DS w lo hi []
 |cons {d:Deferred} {ds:List Deferred} {r hi:Nat} (hr:r < hi) (hl:lo<=r) (ht:d.target=.collected r) (hb:w.heap[r]?=some (.deferred (some []))) (hd:DS w lo r ds):DS w lo hi (d::ds)
theorem DS.mono {lo hi hi':Nat}{ds:List Deferred}(h:DS w lo hi ds)(hh:hi<=hi'):DS w lo hi' ds:=by
 cases h with
 |nil=>exact .nil _
 |cons hr hl ht hb hd=>exact .cons (Nat.lt_of_lt_of_le hr hh) hl ht hb hd
theorem DS.keep {lo hi:Nat}{ds:List Deferred}(h:DS w lo hi ds)(hk:∀r:Nat,r < hi->w.heap[r]?=some (.deferred (some []))->w'.heap[r]?=some (.deferred (some []))):DS w' lo hi ds:=by
 induction h with
 |nil=>exact .nil _
 |cons hr hl ht hb hd ih=>exact .cons hr hl ht (hk _ hr hb) (ih fun r hr'=>hk r (Nat.lt_trans hr' hr))
theorem HR.not_deferred (H:HR G Y h w base){r:Nat}{x:Option (List Deferred)}(hr:w.heap[r]?=some (.deferred x)){i:Nat}{o:VO}(hi:h.get i=some o):(Y i).b≠r:=by
 intro e;cases o with
 |row cs e' own=>
  obtain⟨_,_,c,el,fr,h3,_⟩:=H.row i cs e' own hi;rw[e,hr]at h3;cases h3
 |map es=>
  obtain⟨_,S9,ck,h2,_⟩:=H.map i es hi;rw[e,hr]at h2;cases h2
 |loop sl ps as bd=>
  obtain⟨_,fn,tmps,dfr,h2,_⟩:=H.loop i sl ps as bd hi;rw[e,hr]at h2;cases h2
theorem DS.step {lo hi:Nat}{ds:List Deferred}(d:DS w lo hi ds)(H:HR G Y h w base)(T:TR Y h w YC h' w'):DS w' lo hi ds:=
 d.keep fun r _ hr=>by
  rw[T.block r (Array.getElem?_eq_some_iff.1 hr).1 fun i o hi _ _=>H.not_deferred hr hi];exact hr
theorem Zg7 (cs:List Frame):∀ {ds:List Deferred} {lo hi:Nat} {w:World} (fr:Frame),fr.mode=.returning->fr.defers=ds->DS w lo hi ds ->
  ∃w',Steps P (lone fr cs w) (lone {fr with defers:=[]} cs w')/\w'.os=w.os/\w'.tape=w.tape/\w'.output=w.output/\w'.heap.size=w.heap.size /\
   (∀b:Nat,w.heap[b]?≠some (.deferred (some []))->w'.heap[b]?=w.heap[b]?)/\(∀b:Nat,b < lo->w'.heap[b]?=w.heap[b]?)
 | _,lo,hi,w,fr,hm,hd,.nil _=>by
   refine⟨w,?_,rfl,rfl,rfl,rfl,fun _ _=>rfl,fun _ _=>rfl⟩;have:({fr with defers:=[]}:Frame)=fr:=by rw[<- hd]
   rw[this];exact .refl P _
 |d::ds,lo,hi,w,fr,hm,hd,.cons (r:=r) hr hl ht hb hds=>by
  have h1:=step_collected (P:=P) (cs:=cs) (fr:=fr) (by rw[hm];simp) hd ht (run_takeDeferred hb);have hds':DS (w.putObj r (.deferred none)) lo r ds:=hds.keep fun r' hr' hb'=>by rw[World.putObj_heap_other (by omega)];exact hb'
  obtain⟨w',g1,g2,g3,g4,g5,g6,g7⟩:=Zg7 cs {fr with defers:=[]++ds} hm rfl hds';refine⟨w',.head h1 g1,g2,g3,g4,by rw[g5];simp,fun b Yp=>?_,fun b hlt=>?_⟩
  .have hbr:b≠r:=fun e=>Yp (e ▸ hb)
   rw[g6 b (by rw[World.putObj_heap_other hbr];exact Yp),World.putObj_heap_other hbr]
  .rw [g7 b hlt,World.putObj_heap_other (by omega)]
def Zk8 (tmps:Array Value):ResultVar->Sem Value
 | .tmp t=>pure (tmps.getD t undef)
 | .cell a t=>do loadVar t (<- asAddr (tmps.getD a undef))
theorem Z7a {t:Nat}{ty:Ty}{i o:Nat}{r:List Value}{v:Value}(H:HR G Y h w base)(ht:TyOk P t ty)(hl:h.load ⟨i,o,none⟩ ty.size=some r)(hv:toV ty.k.agg r=some v):
  ∃v',(loadVar t ⟨(Y i).b,(Y i).d+o,none⟩).run P w=.ok v' w/\VR Y h.next v v':=by
 obtain⟨r',h1,h2,h3,h4,h5⟩:=H.load (P:=P) hl;obtain⟨v',g1,g2,g3⟩:=Zi7 h2 hv;refine⟨v',?_,g1⟩;simp only[loadVar,Sem.run_bind,Sem.run_pure,Result.andThen_ok,ht.run_agg w];cases Zjw:ty.k.agg with
 |true=>simp[ht.run_size w,h1 w rfl,g2 Zjw]
 |false=>
  obtain⟨e1,e2⟩:=g3 Zjw;have hsz:ty.size=1:=by rw[<- h3,e1];rfl
  obtain⟨u',e3,e4⟩:=h5 v hsz e1;rw[e2]at e3;cases e3;simpa using e4
theorem Zgb {C:Ctx}(hC:TOk C P)(H:HR G Y h w base){sl:SL}{tmps:Array Value}(S:SR Y h.next sl tmps):∀ {rs:List ResultVar} {vs:List Value},Zhe C sl h rs=some vs ->
  ∃Qk,(rs.mapM (Zk8 tmps)).run P w=.ok Qk w/\VRs Y h.next vs Qk
 | [],vs,hv=>by
   simp only[Zhe,Option.some.injEq]at hv;subst hv;exact⟨[],by simp,.nil⟩
 | .tmp t::rs,vs,hv=>by
   simp only[Zhe]at hv;split at hv
   .rename_i x xs hx hxs;cases hv;obtain⟨Qk,g1,g2⟩:=Zgb hC H S hxs;obtain⟨x',h1,h2⟩:=S t x hx;refine⟨x'::Qk,?_,.cons h2 g2⟩;simp[List.mapM_cons,Zk8,h1,g1]
   .cases hv
 | .cell p t::rs,vs,hv=>by
   simp only[Zhe]at hv;split at hv
   .rename_i ad ty xs hx ht hxs;rw[Option.map_eq_some_iff]at hv;obtain⟨x,hx2,rfl⟩:=hv;rw[Option.bind_eq_some_iff]at hx2;obtain⟨r,hr1,hr2⟩:=hx2;obtain⟨Qk,g1,g2⟩:=Zgb hC H S hxs;obtain⟨x',h1,h2⟩:=S p _ hx;obtain⟨i,o,hlt,rfl,rfl⟩:=h2.spot;obtain⟨y',Y5,hy⟩:=Z7a (P:=P) H (hC _ _ ht) hr1 hr2;refine⟨y'::Qk,?_,.cons hy g2⟩;simp[List.mapM_cons,Zk8,h1,g1,asAddr,Y5]
   .cases hv
theorem Zx4 (fn:Func)(tmps:Array Value):results fn tmps=(do let vs <- fn.results.mapM (Zk8 tmps);pure (if h:vs.size=1 then vs[0] else .tuple vs)):=rfl
theorem Zx3 {C:Ctx}(hC:TOk C P)(H:HR G Y h w base){sl:SL}{tmps:Array Value}(S:SR Y h.next sl tmps){fn:Func}{vs:List Value}(hv:Zhe C sl h fn.results.toList=some vs):
  ∃v',(results fn tmps).run P w=.ok v' w/\VR Y h.next (Zoz vs) v':=by
 obtain⟨Qk,h1,h2⟩:=Zgb (P:=P) hC H S hv;refine⟨(if h:Qk.toArray.size=1 then Qk.toArray[0] else .tuple Qk.toArray),?_,?_⟩
 .rw [Zx4];simp[Array.mapM_eq_mapM_toList,h1]
 .cases h2 with
  |nil=>exact .tuple _ _ .nil
  |cons a r=>
   cases r with
   |nil=>exact a
   |cons a2 r2=>exact .tuple _ _ (.cons a (.cons a2 r2))
end
def Enters (P : Program) (f : Nat) : Prop := ∃ fn bd, P.funcs[f]? = some fn /\ (fn.name == "runtime.NumGoroutine") = false /\ fn.body = some bd
structure COk (C:Ctx)(P:Program):Prop where
 T:TOk C P
 F : ∀ f fn, C.F f = some fn -> P.funcs[f]? = some fn /\ (fn.name == "runtime.NumGoroutine") = false
 ext:∀f args v,C.ext f args=some v->Enters P f/\args.all (flat 4)=true/\flat 4 v=true/\∀w,Calls P f args.toArray w fun e w'=>e=.returned v/\Below w.heap.size w w'
def Zbn (C:Ctx)(P:Program)(cf:Nat->List Value->VH->Option (Value×VH)):Prop:=
 ∀f args h v h',cf f args h=some (v,h')->Enters P f/\∀Y w base (args':Array Value),HR C.G Y h w base->VRs Y h.next args args'.toList->∀cs,∃YC w' v' fr,
  Steps P (lone (Frame.enter P f args' .normal) cs w) (lone fr cs w')/\fr.fn=f/\fr.leaving P w' (.returned v')/\Holds C.G Y h w base v h' YC w' v'
def YfSound (C:Ctx)(P:Program)(yf:Nat->List Value->VH->Option (Value×VH)):Prop:=
 ∀l args h v h',yf l args h=some (v,h')->∀Y w base (args':Array Value),HR C.G Y h w base->VRs Y h.next args args'.toList->∃fn tmps as bd,
  (Instr.yield (Y l).b args').run P w=.ok (.round (Y l).b fn tmps as bd) w/\∀c cs,∃YC w' v',
    Steps P (lone (Frame.round (Y l).b fn tmps as bd .normal) (c::cs) w) (lone (c.finish v') cs w')/\Holds C.G Y h w base v h' YC w' v'
theorem Zhd {P:Program}{f:Nat}(he:Enters P f)(args:Array Value)(w:World):(callFunc f args).run P w=.ok (.enter f args) w:=by
 obtain⟨fn,bd,h1,h2,h3⟩:=he;simp only[callFunc,Sem.run_bind,program,Sem.run_pure];have h2' : fn.name ≠ "runtime.NumGoroutine" := by simpa using h2
 simp[Sem.run,h1,h2',h3]
section
variable {P:Program}{C:Ctx}{Y:Nat->Blk}{h:VH}{w:World}{base:Nat}{v:Value}{cf yf:Nat->List Value->VH->Option (Value×VH)}
theorem Zrl (hC:COk C P)(hcf:Zbn C P cf)(hyf:YfSound C P yf){sl:SL}{a:Act}{h':VH}{o:Oper}(b:Frame)(k:List Item)(cs:List Frame){ops:Array Oper}{i:Nat}(rest:List Nat)
  (H:HR C.G Y h w base) (S:SR Y h.next sl a.tmps) (hi:ops[i]?=some o) (hw:Region.wanted o (yielded ops a.tmps)=true) (ho:Xn C cf yf sl h o=some (v,h')):
  ∃YC w' v',Steps P (lone (b.atR a (.inRegion ops (i::rest)::k)) cs w) (lone (b.atR (a.put o.dst v') (.inRegion ops rest::k)) cs w')/\Holds C.G Y h w base v h' YC w' v':=by
 have hg:=stepGR_op (P:=P) (b:=b) (a:=a) (k:=k) (cs:=cs) (w:=w) (rest:=rest) hi hw
 have Xx:∀v,(b.atR a (.inRegion ops (i::rest)::k)).finish v=b.atR (a.put o.dst v) (.inRegion ops rest::k):=by
  intro v;rw[Frame.finish_atR,hi];rfl
 rw[Oper.semAt_eq _ _ _ (fun c hc=>by simp[Xn,hc]at ho)]at hg
 have Zv8:Zgw P C.G Y h w base (execOp a.eval o) v h'->∃YC w' v',Steps P (lone (b.atR a (.inRegion ops (i::rest)::k)) cs w) (lone (b.atR (a.put o.dst v') (.inRegion ops rest::k)) cs w')/\Holds C.G Y h w base v h' YC w' v':=by
  rintro⟨YC,w',v',nx,hr,Sj,hh⟩;refine⟨YC,w',v',.one (step_lone_go ?_),hh⟩;rcases Sj with rfl | ⟨rfl,rfl⟩
  .rw [hg,<- Xx];simp[stepG.apply,hr]
  .rw [hg,<- Xx];simp[stepG.apply,hr]
 by_cases Zko:∃c,o.op=.call c
 .obtain ⟨c,hc⟩:=Zko;simp only[Xn,hc]at ho;cases Ws:c.callee with
  |builtin bi=>
   refine Zv8 ?_;simp only[execOp,hc];exact Zww o.type hC.T H S Ws ho
  |invoke r n=>
   unfold U6 at ho;simp only[Ws]at ho;split at ho<;>cases ho
  |value f=>
   unfold U6 at ho;simp only[Ws]at ho;split at ho
   .cases ho
   .rename_i args Xt;have hv:=Zaj H S Xt;split at ho
    .rename_i g first captured hf
     have hfv:=Zs H S hf;obtain⟨hen,hgo⟩:=hcf _ _ _ _ _ ho;generalize hev:a.eval f=fv at hfv;cases hfv with
     |fn _ _ Zeo _ Sf h1 h2=>
      have hr:(execOp a.eval o).run P w=.ok (.enter g (Zeo++c.args.map a.eval++Sf)) w:=by
       simp only[execOp,hc,resolve,Ws,hev,Deferred.ofValue,Sem.run_bind,Sem.run_pure,Result.andThen_ok,invoke];exact Zhd hen _ w
      obtain⟨YC,w',v',fr,hs,_,hl,hh⟩:=hgo Y w base (Zeo++c.args.map a.eval++Sf) H (by
       simp only[Array.toList_append,Array.toList_map];exact (h1.append hv).append h2) (b.atR a (.inRegion ops (i::rest)::k)::cs)
      have Zej:step P (lone (b.atR a (.inRegion ops (i::rest)::k)) cs w)=.next (lone (Frame.enter P g (Zeo++c.args.map a.eval++Sf) .normal) (b.atR a (.inRegion ops (i::rest)::k)::cs) w):=
       step_lone_go (by rw[hg];simp[stepG.apply,hr,Frame.atR])
      refine⟨YC,w',v',.head Zej (hs.trans (.one ?_)),hh⟩;rw[<- Xx];exact step_leave_returned hl
    .rename_i l _ _ hf;have hfv:=Zs H S hf;generalize hev:a.eval f=fv at hfv;cases hfv with
     |yield _ hlt=>
      obtain⟨fn,tmps,as,bd,Y5,hgo⟩:=hyf _ _ _ _ _ ho Y w base (c.args.map a.eval) H (by simpa using hv);obtain⟨YC,w',v',hs,hh⟩:=hgo (b.atR a (.inRegion ops (i::rest)::k)) cs
      have hr:(execOp a.eval o).run P w=.ok (.round (Y l).b fn tmps as bd) w:=by
       simp only[execOp,hc,resolve,Ws,hev,Deferred.ofValue,Sem.run_bind,Sem.run_pure,Result.andThen_ok,invoke,Array.empty_append];exact Y5
      have Zej:step P (lone (b.atR a (.inRegion ops (i::rest)::k)) cs w)=.next (lone (Frame.round (Y l).b fn tmps as bd .normal) (b.atR a (.inRegion ops (i::rest)::k)::cs) w):=
       step_lone_go (by rw[hg];simp[stepG.apply,hr,Frame.atR])
      refine⟨YC,w',v',.head Zej ?_,hh⟩;rw[<- Xx];exact hs
    .cases ho
 .exact Zv8 (Z20 hC.T H S (fun c hc=>Zko ⟨c,hc⟩) ho)
theorem Rr {sl:SL}{n:Nat}{ops:Array Oper}{tmps:Array Value}(S:SR Y n sl tmps){o:Oper}{r:Bool}(hw:Qp ops.toList sl o=some r):Region.wanted o (yielded ops tmps)=r:=by
 unfold Qp at hw;unfold Region.wanted;cases hg:o.guard with
 |none=>simp only[hg]at hw;cases hw;rfl
 |some jw=>
  obtain⟨j,want⟩:=jw;simp only[hg]at hw;simp only[yielded];have hto:ops.toList[j]?=ops[j]?:=by simp
  rw[hto]at hw;cases hb:(ops[j]?).bind (·.dst) with
  |none=>simp only[hb]at hw;cases hw;simp
  |some d=>
   simp only[hb]at hw;split at hw
   .rename_i x hx;cases hw;obtain⟨x',h1,h2⟩:=S d _ hx;cases h2;simp[h1]
   .rename_i u Yp hx;cases hw;obtain⟨x',h1,h2⟩:=S d _ hx;simp only[Option.bind_some,h1];cases h2<;>first | exact absurd rfl (Yp _) | rfl
   .cases hw
theorem SR.putV {sl:SL}{a:Act}{dst:Option Nat}{n:Nat}{v v':Value}(S:SR Y n sl a.tmps)(hd:∀d,dst=some d->d < a.tmps.size)(hv:VR Y n v v'):SR Y n (putV sl dst v) (a.put dst v').tmps:=by
 cases dst with
 |none=>exact S
 |some d=>exact S.put (hd d rfl) hv
theorem Zd2 (a:Act)(dst:Option Nat)(v:Value):(a.put dst v).tmps.size=a.tmps.size:=by cases dst<;>simp[Act.put]
theorem Zgc (a:Act)(dst:Option Nat)(v:Value):(a.put dst v).defers=a.defers:=by cases dst<;>rfl
def Zu3 (n:Nat)(ops:Array Oper):Prop:=∀(i:Nat) (o:Oper) (d:Nat),ops[i]?=some o->o.dst=some d->d < n
theorem Z6z {n:Nat}{ops:Array Oper}{id:Nat}{dr:Bool}(h:X9 n (.region id ops dr)=true):Zu3 n ops:=by
 intro i o d hi hd
 have Sg:o∈ops.toList:=by
  rw[Array.mem_toList_iff];exact Array.mem_of_getElem? hi
 have:=List.all_eq_true.1 h o Sg;simp only[hd]at this;rw[Nat.blt_eq]at this;exact this
theorem Zya (hC:COk C P)(hcf:Zbn C P cf)(hyf:YfSound C P yf){ops:Array Oper}(b:Frame)(k:List Item)(cs:List Frame):∀(m i:Nat) {sl Y6:SL} {h h':VH} {Y:Nat->Blk} {w:World} {a:Act},i+m=ops.size ->
  HR C.G Y h w base->SR Y h.next sl a.tmps->Zu3 a.tmps.size ops->Zhm C cf yf ops.toList (ops.toList.drop i) sl h=some (Y6,h') ->
  ∃YC w' a',Steps P (lone (b.atR a (.inRegion ops (List.range' i m)::k)) cs w) (lone (b.atR a' (.inRegion ops []::k)) cs w')/\HR C.G YC h' w' base/\SR YC h'.next Y6 a'.tmps/\TR Y h w YC h' w'/\a'.tmps.size=a.tmps.size/\a'.defers=a.defers:=by
 intro m
 induction m with
 |zero=>
  intro i sl Y6 h h' Y w a hm H S hd ho;rw[List.drop_eq_nil_of_le (by simp;omega)]at ho;simp only[Zhm,Option.some.injEq,Prod.mk.injEq]at ho;obtain⟨rfl,rfl⟩:=ho;exact⟨Y,w,a,.refl P _,H,S,TR.refl Y h w H.lt,rfl,rfl⟩
 |succ m ih=>
  intro i sl Y6 h h' Y w a hm H S hd ho;have hlt:i < ops.toList.length:=by simp;omega
  rw[List.drop_eq_getElem_cons hlt]at ho;have hi:ops[i]?=some ops.toList[i]:=by simp[Array.getElem?_eq_getElem (show i < ops.size by omega)]
  generalize ops.toList[i]=o at ho hi;simp only[Zhm]at ho;rw[List.range'_succ];split at ho
  .rename_i hw;split at ho
   .rename_i v h1 X6;obtain⟨YG,w1,v',s1,hh⟩:=Zrl hC hcf hyf b k cs (List.range' (i+1) m) H S hi (Rr S hw) X6;have S1:SR YG h1.next sl a.tmps:=S.mono hh.tr.sig hh.tr.next;obtain⟨YH,w2,a2,s2,H2,S2,T2,z2,d2⟩:=ih (i+1) (a:=a.put o.dst v') (by omega) hh.hr (S1.putV (fun d hdd=>hd i o d hi hdd) hh.vr) (by rw[Zd2];exact hd) ho;exact⟨YH,w2,a2,s1.trans s2,H2,S2,hh.tr.trans T2,z2.trans (Zd2 ..),d2.trans (Zgc ..)⟩
   .cases ho
  .rename_i hw;have hwf:=Rr S hw;have s1:=stepR_op_skip (P:=P) (b:=b) (a:=a) (k:=k) (cs:=cs) (w:=w) (ops:=ops) (i:=i) (rest:=List.range' (i+1) m) (by simp[hi,hwf]);simp only[hi,Option.bind_some]at s1;obtain⟨YH,w2,a2,s2,H2,S2,T2,z2,d2⟩:=ih (i+1) (a:=a.put o.dst undef) (by omega) H (S.putV (fun d hdd=>hd i o d hi hdd) (.tuple _ _ .nil)) (by rw[Zd2];exact hd) ho;exact⟨YH,w2,a2,.head s1 s2,H2,S2,T2,z2.trans (Zd2 ..),d2.trans (Zgc ..)⟩
  .cases ho
end
def Zamb (code:Code)(it:Item):Prop:=it=.code code\/∃b,code=.loop b/\it=.inLoop b
def Ends (P:Program)(b:Frame)(a:Act)(k:List Item)(cs:List Frame)(w:World)(it:Item)(x:Ex)(a':Act)(w':World):Prop:=
 match x with
 | .normal=>Steps P (lone (b.atR a (it::k)) cs w) (lone (b.atR a' k) cs w')
 | .exit id=>∀k',exitTo id k=some k'->Steps P (lone (b.atR a (it::k)) cs w) (lone (b.atR a' k') cs w')
 | .ret=>b.roundOf=none->∃todo,Steps P (lone (b.atR a (it::k)) cs w) (lone {b.atR a' todo with mode:=.returning} cs w')
def Zs6 (C:Ctx)(P:Program)(ex:Code->SL->VH->Option (Ex×SL×VH))(Xs:Bool):Prop:=
 ∀code sl h x Y6 h',ex code sl h=some (x,Y6,h')->∀Y w base (b:Frame) (a:Act) k cs lo it,HR C.G Y h w base->SR Y h.next sl a.tmps->X9 a.tmps.size code=true->(Xs=true->b.roundOf=none) ->
  DS w lo w.heap.size a.defers->lo<=w.heap.size->Zamb code it->∃YC w' a',HR C.G YC h' w' base/\SR YC h'.next Y6 a'.tmps/\TR Y h w YC h' w'/\a'.tmps.size=a.tmps.size/\DS w' lo w'.heap.size a'.defers /\
   (Xs=false->a'.defers=a.defers)/\Ends P b a k cs w it x a' w'
theorem Zu4 {n m:Nat}(hm:n<=m):∀ {c:Code},X9 n c=true->X9 m c=true:=by
 intro c
 induction c with
 |region id ops d=>
  intro h;refine List.all_eq_true.2 fun o ho=>?_
  have:=List.all_eq_true.1 h o ho;cases hd:o.dst with
  |none=>rfl
  |some d=>
   simp only[hd]at this ⊢;rw[Nat.blt_eq]at this ⊢;omega
 |seq a b iha ihb=>intro h;simp only[X9,Bool.and_eq_true]at h ⊢;exact⟨iha h.1,ihb h.2⟩
 |cond c a b iha ihb=>intro h;simp only[X9,Bool.and_eq_true]at h ⊢;exact⟨iha h.1,ihb h.2⟩
 |block id b ih=>exact ih
 |loop b ih=>exact ih
 |rangeFunc f ps a b iha ihb=>
  intro h;simp only[X9,Bool.and_eq_true]at h ⊢;refine⟨⟨List.all_eq_true.2 fun p hp=>?_,iha h.1.2⟩,ihb h.2⟩;have:=List.all_eq_true.1 h.1.1 p hp;rw[Nat.blt_eq]at this ⊢;omega
 |scope b ih=>exact ih
 | _=>intro _;rfl
section
variable {P:Program}{C:Ctx}{Y YC:Nat->Blk}{h h':VH}{w w':World}{base:Nat}{v v':Value}
theorem TR.still (H:HR C.G Y h w base)(hB:Below w.heap.size w w'):TR Y h w Y h w':=
 ⟨fun _ _=>rfl,Nat.le_refl _,Nat.le_refl _,fun i o _ h1 h2=>⟨o,h1,h2⟩,fun i o hi h1 _=>absurd (H.lt i o h1) (by omega),fun _ _ _=>rfl,hB.os,hB.tape,hB.output,hB.size,fun b hb _=>hB.block b hb⟩
theorem Z2s (H:HR C.G Y h w base)(H':HR C.G YC h' w' base)(T:TR Y {h with wr:=h.next} w YC h' w')(hv:VR YC h'.next v v')(raw:Bool):∃YH,Holds C.G Y h w base (settle raw h v h').1 (settle raw h v h').2 YH w' v':=by
 unfold settle;split
 .rename_i hc;simp only[Bool.and_eq_true,Nat.ble_eq]at hc
  have hb:∀b,b < w.heap.size->w'.heap[b]?=w.heap[b]?:=fun b hb=>T.block b hb fun i o hi _ hw=>by
   have:=H.lt i o hi;omega
  refine⟨Y,H.move T.size fun i o hi=>hb _ (H.block_lt hi),?_,TR.still H ⟨T.os,T.tape,T.output,T.size,hb⟩⟩;rw[hv.eq_of_flat 4 hc.1.2];exact VR.of_flat 4 _ hc.1.2
 .refine ⟨YC,H'.sub rfl (fun _ _ h=>h),hv,T.sig,T.next,Nat.min_le_left _ _,T.old,?_,?_,T.os,T.tape,T.output,T.size,?_⟩
  .intro i o hi ho hm;rcases T.new i o hi ho hm with h | ⟨j,o0,x,y,z,u⟩
   .exact .inl h
   .exact .inr ⟨j,o0,x,y,Nat.le_trans (Nat.min_le_right _ _) z,u⟩
  .intro i hi hw;exact T.same i hi (Nat.lt_of_lt_of_le hw (Nat.min_le_right _ _))
  .intro b hb hc;exact T.block b hb fun i o hi hm hw=>hc i o hi hm (Nat.le_trans (Nat.min_le_right _ _) hw)
theorem Zkw {ex:Code->SL->VH->Option (Ex×SL×VH)}(hC:COk C P)(Ua:∀f fn c,C.F f=some fn->fn.body=some c->X9 fn.ntmps c=true)(hex:Zs6 C P ex true):Zbn C P (callF C ex):=by
 intro f args h v h' hc;unfold callF at hc;split at hc
 .rename_i u Ur;cases hc;obtain⟨hen,hfa,hfv,Zakl⟩:=hC.ext _ _ _ Ur;refine⟨hen,fun Y w base args' H Xt cs=>?_⟩;have Zy7:args'.toList=args:=VRs.eq_of_flat 4 Xt hfa;obtain⟨e,w',fr,⟨rfl,hB⟩,Z8v,Qi,hl⟩:=Zakl w cs;rw[<- Zy7]at Z8v;refine⟨Y,w',v,fr,Z8v,Qi,hl,H.move hB.size fun i o hi=>hB.block _ (H.block_lt hi),VR.of_flat 4 _ hfv,TR.still H hB⟩
 .split at hc
  .cases hc
  .rename_i fn hF;split at hc
   .cases hc
   .rename_i c Zqc;obtain⟨Qi,Znf⟩:=hC.F _ _ hF;refine⟨⟨fn,c,Qi,Znf,Zqc⟩,fun Y w base args' H Xt cs=>?_⟩
    have key:∀x Y6 h2,(x=.normal\/x=.ret)->ex c (Ub 0 args) {h with wr:=h.next}=some (x,Y6,h2)->(Zhe C Y6 h2 fn.results.toList).map (fun vs=>settle (C.raw f) h (Zoz vs) h2)=some (v,h') ->
      ∃YC w' v' fr,Steps P (lone (Frame.enter P f args' .normal) cs w) (lone fr cs w')/\fr.fn=f/\fr.leaving P w' (.returned v')/\Holds C.G Y h w base v h' YC w' v':=by
     intro x Y6 h2 hx Z8s Td;rw[Option.map_eq_some_iff]at Td;obtain⟨vs,Td,Tm⟩:=Td
     let b:Frame:={(default:Frame) with fn:=f,kind:=.normal,roundOf:=none}
     have Zej:Frame.enter P f args' .normal=b.atR {tmps:=args'++Array.replicate (fn.ntmps - args'.size) undef,defers:=[]} [.code c]:=by
      simp[Frame.enter,Frame.atR,Qi,Zqc,b]
     have H0:HR C.G Y {h with wr:=h.next} w base:=H.sub rfl (fun _ _ h=>h)
     obtain⟨YG,w1,a1,H1,S1,T1,_,D1,_,E1⟩:=hex _ _ _ _ _ _ Z8s Y w base b {tmps:=args'++Array.replicate (fn.ntmps - args'.size) undef,defers:=[]} [] cs w.heap.size (.code c) H0 (SR.enter Xt _)
      (Zu4 (by simp;omega) (Ua _ _ _ hF Zqc)) (fun _=>rfl) (.nil _) (Nat.le_refl _) (.inl rfl)
     have hret:∃todo,Steps P (lone (Frame.enter P f args' .normal) cs w) (lone {b.atR a1 todo with mode:=.returning} cs w1):=by
      rw[Zej];rcases hx with rfl | rfl
      .exact ⟨[],Steps.trans E1 (.one (stepR_end rfl))⟩
      .exact E1 rfl
     obtain⟨todo,s1⟩:=hret;obtain⟨w2,s2,g1,g2,g3,g4,g5,g6⟩:=Zg7 cs (P:=P) {b.atR a1 todo with mode:=.returning} rfl rfl D1;have H2:HR C.G YG h2 w2 base:=H1.move (by omega) fun i o hi=>g5 _ fun hd=>H1.not_deferred hd hi rfl
     have T2:TR Y {h with wr:=h.next} w YG h2 w2:=⟨T1.sig,T1.next,T1.wr,T1.old,T1.new,T1.same,g1.trans T1.os,g2.trans T1.tape,g3.trans T1.output,by rw[g4];exact T1.size,fun b hb hcb=>(g6 b hb).trans (T1.block b hb hcb)⟩
     obtain⟨v',r1,r2⟩:=Zx3 (P:=P) hC.T H2 S1 Td;obtain⟨YH,hh⟩:=Z2s H H2 T2 r2 (C.raw f);rw[Tm]at hh;exact⟨YH,w2,v',_,s1.trans s2,rfl,⟨rfl,rfl,rfl,fn,Qi,r1⟩,hh⟩
    split at hc
    .rename_i Y6 h2 Z8s;exact key _ _ _ (.inl rfl) Z8s hc
    .rename_i Y6 h2 Z8s;exact key _ _ _ (.inr rfl) Z8s hc
    .cases hc
end
section
variable {P:Program}{C:Ctx}{G:Nat}{Y YC:Nat->Blk}{h h':VH}{w w':World}{base:Nat}{v v':Value}
theorem TR.putObj (T:TR Y h w YC h' w')(B:Nat)(x:Obj)(hB:B < w.heap.size):TR Y h (w.putObj B x) YC h' (w'.putObj B x):=
 ⟨T.sig,T.next,T.wr,T.old,fun i o hi ho hm=>by
   rcases T.new i o hi ho hm with h | h
   .exact .inl (by simpa using h)
   .exact .inr h,T.same,T.os,T.tape,T.output,by simpa using T.size,fun b hb hc=>by
  by_cases e:b=B
  .subst e;rw[World.putObj_heap_same hB,World.putObj_heap_same (Nat.lt_of_lt_of_le hB T.size)]
  .rw [World.putObj_heap_other e,World.putObj_heap_other e];exact T.block b (by simpa using hb) hc⟩
theorem TR.change {w0 w1:World}(T:TR Y h w YC h' w')(h1:w.os=w0.os)(h2:w.tape=w0.tape)(h3:w.output=w0.output)(h4:w.heap.size=w0.heap.size)(h5:∀b:Nat,w.heap[b]?=w0.heap[b]?)
  (k1:w'.os=w1.os) (k2:w'.tape=w1.tape) (k3:w'.output=w1.output) (k4:w'.heap.size=w1.heap.size) (k5:∀b:Nat,w'.heap[b]?=w1.heap[b]?):TR Y h w0 YC h' w1:=
 ⟨T.sig,T.next,T.wr,T.old,fun i o hi ho hm=>by
   rcases T.new i o hi ho hm with h | h
   .exact .inl (by rw[<- h4];exact h)
   .exact .inr h,T.same,k1.symm.trans (T.os.trans h1),k2.symm.trans (T.tape.trans h2),k3.symm.trans (T.output.trans h3),by rw[<- h4,<- k4];exact T.size,fun b hb hc=>by
  rw[<- k5,<- h5];exact T.block b (by rw[h4];exact hb) hc⟩
theorem Zeg (H:HR G Y h w base){l:Nat}{o:VO}(hl:h.get l=some o)(hm:Ue o=true)(T:TR Y (h.put l none) w YC h' w'):∀i oi,h'.get i=some oi->Ue oi=true->(YC i).b≠(Y l).b:=by
 have Zys:∀j oj,(h.put l none).get j=some oj->j≠l/\h.get j=some oj:=fun j oj hj=>by
  rw[VH.put_get]at hj;by_cases e:j=l
  .simp [e]at hj
  .exact ⟨e,by simpa[e]using hj⟩
 intro i oi hi hmi he;by_cases hlt:i < h.next
 .obtain ⟨o0,h0,m0⟩:=T.old i oi hlt hi hmi;obtain⟨n1,n2⟩:=Zys _ _ h0;rw[T.sig i hlt]at he;exact n1 (H.inj i l o0 o n2 hl m0 hm he)
 .rcases T.new i oi (by show h.next<=i;omega) hi hmi with hb | ⟨j,o0,x,y,_,u⟩
  .have:=H.block_lt hl;omega
  .obtain ⟨n1,n2⟩:=Zys _ _ x;exact n1 (H.inj j l o0 o n2 hl y hm (u.symm.trans he))
theorem HR.loop_not_row (H:HR G Y h w base){B:Nat}{r:Loop}(hB:w.heap[B]?=some (.loop r))(hf:∀i oi,h.get i=some oi->Ue oi=true->(Y i).b≠B):∀i oi,h.get i=some oi->(Y i).b≠B:=by
 intro i oi hi;cases hm:Ue oi with
 |true=>exact hf i oi hi hm
 |false=>
  intro e;cases oi with
  |row cs e' own=>
   obtain⟨_,_,c,el,fr,h3,_⟩:=H.row i cs e' own hi;rw[e,hB]at h3;cases h3
  |map es=>cases hm
  |loop sl ps as bd=>cases hm
theorem Zig {n:Nat}:∀ {ps:List Nat} {args args':List Value} {sl:SL} {tmps:Array Value},SR Y n sl tmps->VRs Y n args args'->ps.length=args.length->ps.all (fun p=>Nat.blt p tmps.size)=true ->
  SR Y n (Zd3 sl (ps.zip args)) ((ps.zip args').foldl (fun (tmps:Array Value) (x:Nat×Value)=>tmps.setIfInBounds x.1 x.2) tmps)/\((ps.zip args').foldl (fun (tmps:Array Value) (x:Nat×Value)=>tmps.setIfInBounds x.1 x.2) tmps).size=tmps.size
 | [],args,args',sl,tmps,S,hv,hl,hp=>by
   cases hv with
   |nil=>exact⟨S,rfl⟩
   |cons _ _=>simp at hl
 |p::ps,_,_,sl,tmps,S,hv,hl,hp=>by
  cases hv with
  |nil=>simp at hl
  |cons hv r=>
   simp only[List.all_cons,Bool.and_eq_true]at hp;have hlt:p < tmps.size:=by have:=hp.1;rw[Nat.blt_eq]at this;exact this
   obtain⟨g1,g2⟩:=Zig (S.put hlt hv) r (by simpa using hl) (by simpa using hp.2);exact⟨by simpa only[List.zip_cons_cons,Zd3,List.foldl_cons]using g1,by simpa only[List.zip_cons_cons,List.foldl_cons,Array.size_setIfInBounds]using g2⟩
theorem Zq2 {ex:Code->SL->VH->Option (Ex×SL×VH)}(hex:Zs6 C P ex false):YfSound C P (yieldF ex):=by
 intro l args h v h' hy Y w base args' H Xt;unfold yieldF at hy;split at hy
 .rename_i Uc ps as bd hl;obtain⟨Zahf,fn,tmps,dfr,Zr5,S0,ok1,ok2,Te⟩:=H.loop l _ _ _ _ hl;split at hy
  .rename_i hlen;have hlt:=H.block_lt hl;have Zqa:args'.size=args.length:=by have:=Xt.length;simpa using this
   have Y5:=run_yield (P:=P) (args:=args') Zr5 (by simp only[List.size_toArray];omega);refine⟨fn,_,as,bd,Y5,fun c cs=>?_⟩
   have Zard:(ps.toArray.zip args').foldl (fun (tmps:Array Value) (x:Nat×Value)=>match x with | (t,a)=>tmps.setIfInBounds t a) tmps=(ps.zip args'.toList).foldl (fun (tmps:Array Value) (x:Nat×Value)=>tmps.setIfInBounds x.1 x.2) tmps:=by
    rw[<- Array.foldl_toList];simp
   obtain⟨Sp,zp⟩:=Zig (Y:=Y) (n:=h.next) S0 Xt hlen Te;simp only[]at Y5 ⊢;rw[Zard];generalize hT:(ps.zip args'.toList).foldl (fun (tmps:Array Value) (x:Nat×Value)=>tmps.setIfInBounds x.1 x.2) tmps=Z6a at Sp zp;split at hy
   .rename_i Qr h1 hex1;split at hy
    .rename_i h2 hex2;cases hy
     let b:Frame:={(default:Frame) with fn:=fn,kind:=.normal,roundOf:=some (Y l).b}
     have hb0:Frame.round (Y l).b fn Z6a as bd .normal=b.atR {tmps:=Z6a,defers:=[]} [.code as,.beginRound,.code bd]:=by simp[Frame.round,Frame.atR,b]
     have H0:HR C.G Y (h.put l none) w base:=H.sub rfl fun j oj hj=>by
      rw[VH.put_get]at hj;by_cases e:j=l
      .simp [e]at hj
      .simpa [e]using hj
     obtain⟨YG,w1,a1,H1,S1,T1,z1,_,df1,E1⟩:=hex _ _ _ _ _ _ hex1 Y w base b {tmps:=Z6a,defers:=[]} [.beginRound,.code bd] (c::cs) w.heap.size (.code as) H0 Sp (by rw[zp];exact ok1) (fun e=>by cases e) (.nil _) (Nat.le_refl _) (.inl rfl)
     have Zahe:w1.heap[(Y l).b]?=some (.loop {state:=.ready,pending:=none,fn,tmps,params:=ps.toArray,assign:=as,body:=bd,defers:=dfr}):=by
      rw[T1.block _ hlt fun i oi hi hm _ he=>?_]
      .exact Zr5
      .exact Zeg H hl rfl (TR.refl Y (h.put l none) w H0.lt) i oi hi hm he
     have Z8q:=H1.loop_not_row Zahe (Zeg H hl rfl T1);have s2:=stepR_beginRound (P:=P) (b:=b) (a:=a1) (k:=[.code bd]) (cs:=c::cs) (w:=w1) rfl (run_beginRound Zahe rfl);generalize Z82:(Obj.loop {state:=.busy,pending:=none,fn,tmps,params:=ps.toArray,assign:=as,body:=bd,defers:=dfr})=busy at s2;have Zr1:(Y l).b < w1.heap.size:=Nat.lt_of_lt_of_le hlt T1.size;have H1b:HR C.G YG h1 (w1.putObj (Y l).b busy) base:=H1.move (by simp) fun i oi hi=>World.putObj_heap_other (Z8q i oi hi)
     obtain⟨YH,w2,a2,H2,S2,T2,_,_,df2,E2⟩:=hex _ _ _ _ _ _ hex2 YG (w1.putObj (Y l).b busy) base b a1 [] (c::cs) 0 (.code bd) H1b S1 (by rw[z1];simp only[zp];exact ok2) (fun e=>by cases e) (by rw[df1 rfl];exact .nil _) (Nat.zero_le _) (.inl rfl);have T12:TR Y (h.put l none) (w.putObj (Y l).b busy) YH h2 w2:=(T1.putObj (Y l).b busy hlt).trans T2
     have Zni:w2.heap[(Y l).b]?=some busy:=by
      rw[T2.block _ (by simpa using Zr1) fun i oi hi hm _ he=>?_]
      .exact World.putObj_heap_same Zr1
      .exact Z8q i oi hi he
     have Zng:(Y l).b < w2.heap.size:=(Array.getElem?_eq_some_iff.1 Zni).1;subst Z82;have s4:=stepR_round_end (P:=P) (b:=b) (a:=a2) (c:=c) (cs:=cs) (w:=w2) rfl rfl (run_endRound none Zni);simp only[Option.isNone_none,if_true]at s4;generalize hrd:(Obj.loop {state:=.ready,pending:=none,fn,tmps,params:=ps.toArray,assign:=as,body:=bd,defers:=dfr})=rd at s4 Zr5;generalize Z82:(Obj.loop {state:=.busy,pending:=none,fn,tmps,params:=ps.toArray,assign:=as,body:=bd,defers:=dfr})=busy at T12 Zni T2 H1b
     have T3:TR Y (h.put l none) w YH h2 (w2.putObj (Y l).b rd):=(T12.putObj (Y l).b rd (by simpa using hlt)).change rfl rfl rfl (by simp) (fun k=>by
      by_cases e:k=(Y l).b
      .subst e;rw[World.putObj_heap_same (by simpa using hlt),Zr5]
      .rw [World.putObj_heap_other e,World.putObj_heap_other e]) rfl rfl rfl rfl (fun _=>rfl)
     have Zy1:∀i oi,h2.get i=some oi->(YH i).b≠(Y l).b:=by
      subst Z82;exact H2.loop_not_row Zni (Zeg H hl rfl T3)
     have H3:HR C.G YH h2 (w2.putObj (Y l).b rd) base:=H2.move (by simp) fun i oi hi=>World.putObj_heap_other (Zy1 i oi hi)
     have hln:l < h.next:=H.lt _ _ hl;have hlσ:YH l=Y l:=T3.sig l hln
     have Zk:∀j oj,(h2.put l (some (.loop Uc ps as bd))).get j=some oj->j=l/\oj=.loop Uc ps as bd\/j≠l/\h2.get j=some oj:=fun j oj hj=>by
      rw[VH.put_get]at hj;by_cases e:j=l
      .simp [e]at hj;exact .inl ⟨e,hj.symm⟩
      .exact .inr ⟨e,by simpa[e]using hj⟩
     have Sj:h.next<=h2.next:=T3.next;refine⟨YH,w2.putObj (Y l).b rd,.bool true,?_,?_,.bool true,?_⟩
     .rw [hb0];exact Steps.trans E1 (.head s2 (Steps.trans E2 (.one s4)))
     .refine ⟨fun i oi hi=>?_,H3.glob,H3.base_,fun i cs e own hi=>?_,fun i es hi=>?_,fun i sl ps' as' bd' hi=>?_,fun i j oi oj hi hj mi mj he=>?_⟩
      .rcases Zk _ _ hi with⟨rfl,_⟩ | ⟨_,hi⟩
       .exact Nat.lt_of_lt_of_le hln Sj
       .exact H3.lt i oi hi
      .rcases Zk _ _ hi with⟨_,e⟩ | ⟨_,hi⟩
       .cases e
       .exact H3.row i cs _ own hi
      .rcases Zk _ _ hi with⟨_,e⟩ | ⟨_,hi⟩
       .cases e
       .exact H3.map i es hi
      .rcases Zk _ _ hi with⟨rfl,e⟩ | ⟨_,hi⟩
       .cases e;rw[hlσ];exact⟨Zahf,fn,tmps,dfr,by rw[hrd];exact World.putObj_heap_same Zng,S0.mono T3.sig Sj,ok1,ok2,Te⟩
       .exact H3.loop i sl ps' as' bd' hi
      .rcases Zk _ _ hi with⟨e1,_⟩ | ⟨n1,hi'⟩<;>rcases Zk _ _ hj with⟨e2,_⟩ | ⟨n2,hj'⟩
       .rw [e1,e2]
       .rw [e1,hlσ]at he;exact absurd he.symm (Zy1 j oj hj')
       .rw [e2,hlσ]at he;exact absurd he (Zy1 i oi hi')
       .exact H3.inj i j oi oj hi' hj' mi mj he
     .refine ⟨T3.sig,Sj,T3.wr,fun i o hi ho hm=>?_,fun i o hi ho hm=>?_,fun i hi hwi=>?_,T3.os,T3.tape,T3.output,T3.size,fun k hk hc=>?_⟩
      .rcases Zk _ _ ho with⟨rfl,rfl⟩ | ⟨n1,ho⟩
       .exact ⟨_,hl,rfl⟩
       .obtain ⟨o0,x,y⟩:=T3.old i o hi ho hm;rw[VH.put_get,if_neg n1]at x;exact⟨o0,x,y⟩
      .rcases Zk _ _ ho with⟨rfl,rfl⟩ | ⟨n1,ho⟩
       .omega
       .rcases T3.new i o hi ho hm with hb | ⟨j,o0,x,y,z,u⟩
        .exact .inl hb
        .rw [VH.put_get]at x;by_cases e:j=l
         .simp [e]at x
         .exact .inr ⟨j,o0,by simpa[e]using x,y,z,u⟩
      .by_cases e:i=l
       .subst e;rw[VH.put_get,if_pos rfl,hl]
       .have:=T3.same i hi hwi;rw[VH.put_get,if_neg e]at this;rw[VH.put_get,if_neg e,this]
      .refine T3.block k hk fun i o hi hm hwi=>?_
       rw[VH.put_get]at hi;by_cases e:i=l
       .simp [e]at hi
       .exact hc i o (by simpa[e]using hi) hm hwi
    .cases hy
   .cases hy
  .cases hy
 .cases hy
end
def Zq1 (C:Ctx)(P:Program):Prop:=
 ∀cf yf,Zbn C P cf->YfSound C P yf->∀ops sl h Y6 h',Zil C cf yf ops sl h=some (Y6,h')->∀(t:Nat) Y w base (b:Frame) (a:Act) k cs,HR C.G Y h w base->SR Y h.next sl a.tmps->Zu3 a.tmps.size ops ->
  ∃YC w' a',Steps P (lone (b.atR a (.inRegion ops (Region.schedule (P.follows .mixedOrders) ops t)::k)) cs w) (lone (b.atR a' (.inRegion ops []::k)) cs w')/\HR C.G YC h' w' base/\SR YC h'.next Y6 a'.tmps/\TR Y h w YC h' w'/\a'.tmps.size=a.tmps.size/\a'.defers=a.defers
section
variable {P:Program}{C:Ctx}{G:Nat}{Y YC:Nat->Blk}{h h':VH}{w w':World}{base:Nat}{v v':Value}
theorem HR.loops_apart (H:HR G Y h w base){l:Nat}{o:VO}(hl:h.get l=some o)(hm:Ue o=true){r:Loop}(hb:w.heap[(Y l).b]?=some (.loop r)):∀i oi,h.get i=some oi->i≠l->(Y i).b≠(Y l).b:=by
 intro i oi hi Yp e;cases hmi:Ue oi with
 |true=>exact Yp (H.inj i l oi o hi hl hmi hm e)
 |false=>
  cases oi with
  |row cs e' own=>
   obtain⟨_,_,c,el,fr,h3,_⟩:=H.row i cs e' own hi;rw[e,hb]at h3;cases h3
  |map es=>cases hmi
  |loop sl ps as bd=>cases hmi
theorem Zul {cf:Nat->List Value->VH->Option (Value×VH)}(hcf:Zbn C P cf){f:Operand}{ps:Array Nat}{as bd:Code}{sl:SL}{g:Nat}{first captured:Array Value}{u:Value}{h2:VH}{Qr:SL}{ps1:List Nat}{as1 bd1:Code}
  (b:Frame) (a:Act) (k:List Item) (cs:List Frame) {lo:Nat} (H:HR C.G Y h w base) (S:SR Y h.next sl a.tmps) (hok:X9 a.tmps.size (.rangeFunc f ps as bd)=true) (hro:b.roundOf=none)
  (D:DS w lo w.heap.size a.defers) (Sh:lo<=w.heap.size) (hf:opd C sl f=some (.func (.func g) first captured))
  (Zko:cf g (first.toList++[.func (.yield h.next) #[] #[]]++captured.toList) (h.new (.loop sl ps.toList as bd))=some (u,h2)) (Zk:h2.get h.next=some (.loop Qr ps1 as1 bd1)):
  ∃YC w' a',HR C.G YC (h2.put h.next none) w' base/\SR YC h2.next sl a'.tmps/\TR Y h w YC (h2.put h.next none) w'/\a'.tmps.size=a.tmps.size/\DS w' lo w'.heap.size a'.defers /\
   Steps P (lone (b.atR a (.code (.rangeFunc f ps as bd)::k)) cs w) (lone (b.atR a' k) cs w'):=by
 simp only[X9,Bool.and_eq_true]at hok;obtain⟨⟨Te,hok1⟩,hok2⟩:=hok;have Zej:=run_enterLoop_outer (P:=P) (w:=w) b.fn a.tmps ps as bd;generalize W4:(w.alloc (.deferred (some []))).alloc (.loop {state:=.ready,pending:=none,fn:=b.fn,tmps:=a.tmps,params:=ps,assign:=as,body:=bd,defers:=w.heap.size})=w1 at Zej;have hsz1:w1.heap.size=w.heap.size+2:=by rw[<- W4];simp
 have Zaj2:w1.heap[w.heap.size+1]?=some (.loop {state:=.ready,pending:=none,fn:=b.fn,tmps:=a.tmps,params:=ps,assign:=as,body:=bd,defers:=w.heap.size}):=by
  rw[<- W4];have:=World.alloc_heap_new (w.alloc (.deferred (some []))) (.loop {state:=.ready,pending:=none,fn:=b.fn,tmps:=a.tmps,params:=ps,assign:=as,body:=bd,defers:=w.heap.size});rw[World.size_alloc]at this;exact this
 have Zvv:∀k,k < w.heap.size->(w.alloc (.deferred (some []))).heap[k]?=w.heap[k]?:=fun k hk=>Below.heap_alloc _ _ _ hk
 have Zvu:∀k,k < w.heap.size+1->w1.heap[k]?=(w.alloc (.deferred (some []))).heap[k]?:=fun k hk=>by
  rw[<- W4];exact Below.heap_alloc _ _ _ (by simpa using hk)
 have Zag9:w1.heap[w.heap.size]?=some (.deferred (some [])):=by
  rw[Zvu _ (by omega)];exact World.alloc_heap_new w _
 have HB:Below w.heap.size w (w.alloc (.deferred (some []))):=⟨rfl,rfl,rfl,by simp,Zvv⟩
 have H0:HR C.G Y h (w.alloc (.deferred (some []))) base:=H.move (by simp) fun i o hi=>Zvv _ (H.block_lt hi)
 have T0:TR Y h w Y h (w.alloc (.deferred (some []))):=TR.still H HB
 have H1:HR C.G (upd Y h.next ⟨w.heap.size+1,0,0,0,true,true⟩) (h.new (.loop sl ps.toList as bd)) w1 base:=by
  refine HR.new H0 _ _ (fun i o hi e=>?_) (by have:=H.base_;show base<=w.heap.size+1;omega) (by rw[hsz1];simp) (fun k hk _=>Zvu k (by simpa using hk)) (fun _ _ _ e=>by cases e) (fun _ e=>by cases e) ?_
  .have:=H.block_lt hi;dsimp only at e;omega
  .intro Y6 ps' as' bd' e;cases e;refine⟨b.fn,a.tmps,w.heap.size,by simpa using Zaj2,S.mono (Zcp Y h.next _) (Nat.le_succ _),hok1,hok2,Te⟩
 have T1:TR Y h w (upd Y h.next ⟨w.heap.size+1,0,0,0,true,true⟩) (h.new (.loop sl ps.toList as bd)) w1:=
  T0.trans (TR.ofNew H0 _ _ (by simp) (by rw[hsz1];simp) (fun k hk=>Zvu k (by simpa using hk)) (by rw[<- W4];rfl) (by rw[<- W4];rfl) (by rw[<- W4];rfl))
 have hfv:=Zs H S hf;obtain⟨hen,hgo⟩:=hcf _ _ _ _ _ Zko;generalize hev:a.eval f=fv at hfv;cases hfv with
 |fn _ _ Zeo _ Sf v1 v2=>
  have Td:(resolve a.eval (rangeCall f (w.heap.size+1)) 0).run P w1=.ok {target:=.fn (.func g) Sf,args:=Zeo++#[.func (.yield (w.heap.size+1)) #[] #[]]} w1:=by
   have hm:Array.map a.eval #[.const (.func (.yield (w.heap.size+1)) #[] #[])]=#[.func (.yield (w.heap.size+1)) #[] #[]]:=by simp[Act.eval]
   simp only[resolve,rangeCall,hev,Deferred.ofValue,hm];rfl
  have hinv:(invoke (.fn (.func g) Sf) (Zeo++#[.func (.yield (w.heap.size+1)) #[] #[]])).run P w1=.ok (.enter g (Zeo++#[.func (.yield (w.heap.size+1)) #[] #[]]++Sf)) w1:=Zhd hen _ w1;have s1:=stepR_rangeFunc (P:=P) (b:=b) (a:=a) (k:=k) (cs:=cs) (by rw[hro];exact Zej) Td hinv
  have hyv:VR (upd Y h.next ⟨w.heap.size+1,0,0,0,true,true⟩) (h.next+1) (.func (.yield h.next) #[] #[]) (.func (.yield (w.heap.size+1)) #[] #[]):=by
   have:=VR.yield (Y:=upd Y h.next ⟨w.heap.size+1,0,0,0,true,true⟩) (n:=h.next+1) h.next ⟨Nat.lt_succ_self _,by rw[Zr]⟩;simpa only[Zr]using this
  obtain⟨YH,w2,v',fr,s2,_,hl,hh⟩:=hgo _ w1 base (Zeo++#[.func (.yield (w.heap.size+1)) #[] #[]]++Sf) H1 (by
   simp only[Array.toList_append];exact ((v1.mono (Zcp Y h.next _) (Nat.le_succ _)).append (.cons hyv .nil)).append (v2.mono (Zcp Y h.next _) (Nat.le_succ _)))
   (b.atR {a with defers:=[{target:=.collected w.heap.size,args:=#[]}]++a.defers} (.inRangeFunc (w.heap.size+1)::k)::cs)
  have s3:=step_leave_returned (c:=b.atR {a with defers:=[{target:=.collected w.heap.size,args:=#[]}]++a.defers} (.inRangeFunc (w.heap.size+1)::k)) (cs:=cs) hl;rw[finish_atR_inRangeFunc]at s3;have hσ:YH h.next=⟨w.heap.size+1,0,0,0,true,true⟩:=by rw[hh.tr.sig h.next (Nat.lt_succ_self _),Zr]
  obtain⟨_,fn2,Zaom,dfr2,Zni,_⟩:=hh.hr.loop _ _ _ _ _ Zk;have Zy6:=Zni;rw[hσ]at Zy6;dsimp only at Zy6;have s4:=stepR_endRangeFunc (P:=P) (b:=b) (a:={a with defers:=[{target:=.collected w.heap.size,args:=#[]}]++a.defers}) (k:=k) (cs:=cs) (run_endLoop Zy6 (by simp));simp only[Option.map_none,Option.toList_none,List.nil_append]at s4;generalize (Obj.loop {state:=.exhausted,pending:=none,fn:=fn2,tmps:=Zaom,params:=ps1.toArray,assign:=as1,body:=bd1,defers:=dfr2})=ex at s4;have T2:TR Y h w YH h2 w2:=T1.trans hh.tr
  have Zys:∀j oj,(h2.put h.next none).get j=some oj->j≠h.next/\h2.get j=some oj:=fun j oj hj=>by
   rw[VH.put_get]at hj;by_cases e:j=h.next
   .simp [e]at hj
   .exact ⟨e,by simpa[e]using hj⟩
  refine⟨YH,w2.putObj (w.heap.size+1) ex,{a with defers:=[{target:=.collected w.heap.size,args:=#[]}]++a.defers},?_,S.mono T2.sig T2.next,?_,rfl,?_,.head s1 (s2.trans (.head s3 (.one s4)))⟩
  .refine (hh.hr.sub (h':=h2.put h.next none) rfl fun j oj hj=>(Zys j oj hj).2).move (by simp) fun i o hi=>?_
   obtain⟨n1,hi⟩:=Zys _ _ hi;have:=hh.hr.loops_apart Zk rfl Zni i o hi n1;rw[hσ]at this;exact World.putObj_heap_other this
  .refine ⟨T2.sig,T2.next,T2.wr,fun i o hi ho hm=>T2.old i o hi (Zys _ _ ho).2 hm,fun i o hi ho hm=>T2.new i o hi (Zys _ _ ho).2 hm,fun i hi hw=>?_,T2.os,T2.tape,T2.output,by simpa using T2.size,fun k hk hc=>?_⟩
   .rw [VH.put_get,if_neg (by omega)];exact T2.same i hi hw
   .rw [World.putObj_heap_other (by omega)];exact T2.block k hk hc
  .have hd2:(w2.putObj (w.heap.size+1) ex).heap[w.heap.size]?=some (.deferred (some [])):=by
    rw[World.putObj_heap_other (by omega),hh.tr.block _ (by omega) fun i o hi _ _=>H1.not_deferred Zag9 hi];exact Zag9
   refine .cons ?_ Sh rfl hd2 ((D.step H T2).keep fun r hr hb=>?_)
   .have:=T2.size;simp only[World.putObj_size];have h3:=hh.tr.size;omega
   .rw [World.putObj_heap_other (by omega)];exact hb
theorem Zzj (hC:COk C P)(Ua:∀f fn c,C.F f=some fn->fn.body=some c->X9 fn.ntmps c=true)(hD:Zq1 C P):∀n Xs,Zs6 C P (exec C n Xs) Xs:=by
 intro n
 induction n with
 |zero=>intro Xs code sl h x Y6 h' he;simp only[exec]at he;cases he
 |succ n ih=>
  intro Xs code sl h x Y6 h' he Y w base b a k cs lo it H S hok hro D Sh Xr;have hcf:=Zkw hC Ua (ih true);have hyf:YfSound C P (yieldF (exec C n false)):=Zq2 (ih false)
  have plain:(∀b,code≠.loop b)->it=.code code:=fun Yp=>by
   rcases Xr with e | ⟨c,e,_⟩
   .exact e
   .exact absurd e (Yp c)
  cases code with
  |skip=>
   have:=plain (fun _=>by simp);subst this;simp only[exec,Option.some.injEq,Prod.mk.injEq]at he;obtain⟨rfl,rfl,rfl⟩:=he;exact⟨Y,w,a,H,S,TR.refl Y h w H.lt,rfl,D,fun _=>rfl,.one stepR_skip⟩
  |region id ops draw=>
   have:=plain (fun _=>by simp);subst this;have Rb:=Z6z hok;simp only[exec]at he;rw[Option.map_eq_some_iff]at he;obtain⟨⟨sl2,h2⟩,he,e⟩:=he;cases e;cases draw with
   |false=>
    simp only[Bool.false_eq_true,if_false]at he;obtain⟨YH,w2,a2,s2,H2,S2,T2,z2,d2⟩:=Zya hC hcf hyf b k cs ops.size 0 (by omega) H S Rb (by simpa using he);refine⟨YH,w2,a2,H2,S2,T2,z2,by rw[d2];exact (D.step H T2).mono T2.size,fun _=>d2,.head stepR_region ?_⟩;rw[List.range_eq_range'];exact s2.trans (.one stepR_region_end)
   |true=>
    simp only[if_true]at he;have Hd:HR C.G Y h {w with drawn:=w.drawn+1} base:=H.move (Nat.le_refl _) fun _ _ _=>rfl
    obtain⟨YH,w2,a2,s2,H2,S2,T2,z2,d2⟩:=hD _ _ hcf hyf _ _ _ _ _ he (w.tape w.drawn (.order b.fn id)) Y {w with drawn:=w.drawn+1} base b a k cs Hd S Rb;have T2':TR Y h w YH h2 w2:=T2.change rfl rfl rfl rfl (fun _=>rfl) rfl rfl rfl rfl (fun _=>rfl);refine⟨YH,w2,a2,H2,S2,T2',z2,by rw[d2];exact (D.step H T2').mono T2'.size,fun _=>d2,.head stepR_region_draw (s2.trans (.one stepR_region_end))⟩
  |seq p q=>
   have:=plain (fun _=>by simp);subst this;simp only[X9,Bool.and_eq_true]at hok;simp only[exec]at he;have s0:=stepR_seq (P:=P) (b:=b) (a:=a) (k:=k) (cs:=cs) (w:=w) (x:=p) (y:=q);split at he
   .rename_i Qr h1 h1e;obtain⟨YG,w1,a1,H1,S1,T1,z1,D1,f1,E1⟩:=ih Xs _ _ _ _ _ _ h1e Y w base b a (.code q::k) cs lo _ H S hok.1 hro D Sh (.inl rfl);obtain⟨YH,w2,a2,H2,S2,T2,z2,D2,f2,E2⟩:=ih Xs _ _ _ _ _ _ he YG w1 base b a1 k cs lo _ H1 S1 (by rw[z1];exact hok.2) hro D1 (Nat.le_trans Sh T1.size) (.inl rfl);refine⟨YH,w2,a2,H2,S2,T1.trans T2,z2.trans z1,D2,fun hr=>(f2 hr).trans (f1 hr),?_⟩;have s01:=Steps.head s0 E1;cases x with
    |normal=>exact s01.trans E2
    |exit id=>exact fun k' hk=>s01.trans (E2 k' hk)
    |ret=>exact fun hb=>by obtain⟨t,st⟩:=E2 hb;exact⟨t,s01.trans st⟩
   .rename_i Yp;obtain⟨YG,w1,a1,H1,S1,T1,z1,D1,f1,E1⟩:=ih Xs _ _ _ _ _ _ he Y w base b a (.code q::k) cs lo _ H S hok.1 hro D Sh (.inl rfl);refine⟨YG,w1,a1,H1,S1,T1,z1,D1,f1,?_⟩;cases x with
    |normal=>exact absurd he (Yp _ _)
    |exit id=>exact fun k' hk=>.head s0 (E1 k' (by simpa[exitTo]using hk))
    |ret=>exact fun hb=>by obtain⟨t,st⟩:=E1 hb;exact⟨t,.head s0 st⟩
  |cond c p q=>
   have:=plain (fun _=>by simp);subst this;simp only[X9,Bool.and_eq_true]at hok;simp only[exec]at he;split at he
   .rename_i hc;have hv:=Zs H S hc;have hev:a.eval c=.bool true:=by generalize a.eval c=cv at hv;cases hv;rfl
    have s0:=stepR_cond (P:=P) (b:=b) (a:=a) (k:=k) (cs:=cs) (w:=w) (x:=p) (y:=q) hev;simp only[if_true]at s0;obtain⟨YG,w1,a1,H1,S1,T1,z1,D1,f1,E1⟩:=ih Xs _ _ _ _ _ _ he Y w base b a k cs lo _ H S hok.1 hro D Sh (.inl rfl);refine⟨YG,w1,a1,H1,S1,T1,z1,D1,f1,?_⟩;cases x with
    |normal=>exact .head s0 E1
    |exit id=>exact fun k' hk=>.head s0 (E1 k' hk)
    |ret=>exact fun hb=>by obtain⟨t,st⟩:=E1 hb;exact⟨t,.head s0 st⟩
   .rename_i hc;have hv:=Zs H S hc;have hev:a.eval c=.bool false:=by generalize a.eval c=cv at hv;cases hv;rfl
    have s0:=stepR_cond (P:=P) (b:=b) (a:=a) (k:=k) (cs:=cs) (w:=w) (x:=p) (y:=q) hev;simp only[Bool.false_eq_true,if_false]at s0;obtain⟨YG,w1,a1,H1,S1,T1,z1,D1,f1,E1⟩:=ih Xs _ _ _ _ _ _ he Y w base b a k cs lo _ H S hok.2 hro D Sh (.inl rfl);refine⟨YG,w1,a1,H1,S1,T1,z1,D1,f1,?_⟩;cases x with
    |normal=>exact .head s0 E1
    |exit id=>exact fun k' hk=>.head s0 (E1 k' hk)
    |ret=>exact fun hb=>by obtain⟨t,st⟩:=E1 hb;exact⟨t,.head s0 st⟩
   .cases he
  |block id c=>
   have:=plain (fun _=>by simp);subst this;simp only[exec]at he;have s0:=stepR_block (P:=P) (b:=b) (a:=a) (k:=k) (cs:=cs) (w:=w) (id:=id) (c:=c);split at he
   .rename_i id' Qr h1 h1e;obtain⟨YG,w1,a1,H1,S1,T1,z1,D1,f1,E1⟩:=ih Xs _ _ _ _ _ _ h1e Y w base b a (.inBlock id::k) cs lo _ H S hok hro D Sh (.inl rfl);split at he
    .rename_i hid;cases he;subst hid;exact⟨YG,w1,a1,H1,S1,T1,z1,D1,f1,.head s0 (E1 k (by simp[exitTo]))⟩
    .rename_i hid;cases he;refine⟨YG,w1,a1,H1,S1,T1,z1,D1,f1,fun k' hk=>.head s0 (E1 k' ?_)⟩;simp only[exitTo];rw[if_neg (by simpa using fun e=>hid e.symm)];exact hk
   .rename_i Yp;obtain⟨YG,w1,a1,H1,S1,T1,z1,D1,f1,E1⟩:=ih Xs _ _ _ _ _ _ he Y w base b a (.inBlock id::k) cs lo _ H S hok hro D Sh (.inl rfl);refine⟨YG,w1,a1,H1,S1,T1,z1,D1,f1,?_⟩;cases x with
    |normal=>exact .head s0 (Steps.trans E1 (.one stepR_inBlock))
    |exit id'=>exact absurd he (Yp _ _ _)
    |ret=>exact fun hb=>by obtain⟨t,st⟩:=E1 hb;exact⟨t,.head s0 st⟩
  |loop c=>
   simp only[exec]at he
   have s0:step P (lone (b.atR a (it::k)) cs w)=.next (lone (b.atR a (.code c::.inLoop c::k)) cs w):=by
    rcases Xr with rfl | ⟨c',e,rfl⟩
    .exact stepR_loop
    .cases e;exact stepR_inLoop
   split at he
   .rename_i Qr h1 h1e;obtain⟨YG,w1,a1,H1,S1,T1,z1,D1,f1,E1⟩:=ih Xs _ _ _ _ _ _ h1e Y w base b a (.inLoop c::k) cs lo _ H S hok hro D Sh (.inl rfl);obtain⟨YH,w2,a2,H2,S2,T2,z2,D2,f2,E2⟩:=ih Xs _ _ _ _ _ _ he YG w1 base b a1 k cs lo (.inLoop c) H1 (S1.take _) (by rw[z1];exact hok) hro D1 (Nat.le_trans Sh T1.size) (.inr ⟨c,rfl,rfl⟩);refine⟨YH,w2,a2,H2,S2,T1.trans T2,z2.trans z1,D2,fun hr=>(f2 hr).trans (f1 hr),?_⟩;have s01:=Steps.head s0 E1;cases x with
    |normal=>exact s01.trans E2
    |exit id=>exact fun k' hk=>s01.trans (E2 k' hk)
    |ret=>exact fun hb=>by obtain⟨t,st⟩:=E2 hb;exact⟨t,s01.trans st⟩
   .rename_i Yp;obtain⟨YG,w1,a1,H1,S1,T1,z1,D1,f1,E1⟩:=ih Xs _ _ _ _ _ _ he Y w base b a (.inLoop c::k) cs lo _ H S hok hro D Sh (.inl rfl);refine⟨YG,w1,a1,H1,S1,T1,z1,D1,f1,?_⟩;cases x with
    |normal=>exact absurd he (Yp _ _)
    |exit id=>exact fun k' hk=>.head s0 (E1 k' (by simpa[exitTo]using hk))
    |ret=>exact fun hb=>by obtain⟨t,st⟩:=E1 hb;exact⟨t,.head s0 st⟩
  |exit id=>
   have:=plain (fun _=>by simp);subst this;simp only[exec,Option.some.injEq,Prod.mk.injEq]at he;obtain⟨rfl,rfl,rfl⟩:=he;exact⟨Y,w,a,H,S,TR.refl Y h w H.lt,rfl,D,fun _=>rfl,fun k' hk=>.one (stepR_exit hk)⟩
  |ret=>
   have:=plain (fun _=>by simp);subst this;simp only[exec,Option.some.injEq,Prod.mk.injEq]at he;obtain⟨rfl,rfl,rfl⟩:=he;exact⟨Y,w,a,H,S,TR.refl Y h w H.lt,rfl,D,fun _=>rfl,fun hb=>⟨_,.one (stepR_ret hb)⟩⟩
  |rangeFunc f ps as bd=>
   have:=plain (fun _=>by simp);subst this;simp only[exec]at he;split at he
   .rename_i hr;split at he
    .rename_i g first captured hf
     split at he
     .rename_i u h2 Zko;split at he
      .rename_i Qr ps1 as1 bd1 Zk;cases he;obtain⟨YH,w2,a2,H2,S2,T2,z2,D2,st⟩:=Zul hcf b a k cs H S hok (hro hr) D Sh hf Zko Zk;exact⟨YH,w2,a2,H2,S2,T2,z2,D2,(fun e=>by rw[e]at hr;cases hr),st⟩
      .cases he
     .cases he
    .cases he
   .cases he
  | _=>simp only[exec]at he;cases he
end
section
variable {Y YC:Nat->Blk}{n n':Nat}
mutual
theorem VR.back (hs:∀i,Lv Y n i->YC i=Y i):∀ {u u0 u':Value},VR Y n u u0->VR YC n' u u'->VR Y n u u'
 | _,_,_,.bool b,.bool _=>.bool b
 | _,_,_,.int k i,.int _ _=>.int k i
 | _,_,_,.float k i,.float _ _=>.float k i
 | _,_,_,.complex k i j,.complex _ _ _=>.complex k i j
 | _,_,_,.string s,.string _=>.string s
 | _,_,_,.nilptr,.nilptr=>.nilptr
 | _,_,_,.ptr i o h,.ptr _ _ _=>by rw[hs i h];exact .ptr i o h
 | _,_,_,.nilslice,.nilslice=>.nilslice
 | _,_,_,.slice i o len cap W1 h hl hb,.slice _ _ _ _ Z9x _ hl' hb'=>by rw[hs i h]at hb' ⊢;exact .slice i o len cap Z9x h hl' hb'
 | _,_,_,.slice i o _ cap W1 h hl hb,.empty _ _ o' _ _=>by rw[hs i h];exact .empty i o o' cap h
 | _,_,_,.empty i o o' cap h,.slice _ _ _ _ Z9x _ hl' hb'=>by rw[hs i h]at hb' ⊢;exact .slice i o 0 cap Z9x h hl' hb'
 | _,_,_,.empty i o o' cap h,.empty _ _ o'' _ _=>by rw[hs i h];exact .empty i o o'' cap h
 | _,_,_,.nilmap,.nilmap=>.nilmap
 | _,_,_,.map i h,.map _ _=>by rw[hs i h];exact .map i h
 | _,_,_,.nilchan,.nilchan=>.nilchan
 | _,_,_,.fn g a a' c c' h1 h2,.fn _ _ a'' _ c'' k1 k2=>.fn g a a'' c c'' (VRs.back hs h1 k1) (VRs.back hs h2 k2)
 | _,_,_,.yield i h,.yield _ _=>by rw[hs i h];exact .yield i h
 | _,_,_,.nilFunc,.nilFunc=>.nilFunc
 | _,_,_,.nilIface,.nilIface=>.nilIface
 | _,_,_,.iface t v v' h,.iface _ _ v'' k=>.iface t v v'' (VR.back hs h k)
 | _,_,_,.agg cs cs' h,.agg _ cs'' k=>.agg cs cs'' (VRs.back hs h k)
 | _,_,_,.tuple cs cs' h,.tuple _ cs'' k=>.tuple cs cs'' (VRs.back hs h k)
theorem VRs.back (hs:∀i,Lv Y n i->YC i=Y i):∀ {l l0 l':List Value},VRs Y n l l0->VRs YC n' l l'->VRs Y n l l'
 | _,_,_,.nil,.nil=>.nil
 | _,_,_,.cons h r,.cons k s=>.cons (VR.back hs h k) (VRs.back hs r s)
end
theorem MR.back (hs:∀i,Lv Y n i->YC i=Y i):∀ {l:List (Value×Value)} {l0 l':List MapEntry},MR Y n l l0->MR YC n' l l'->MR Y n l l'
 | _,_,_,.nil,.nil=>.nil
 | _,_,_,.cons h v r,.cons k x s=>.cons (h.back hs k) (v.back hs x) (r.back hs s)
theorem SR.back (hs:∀i,Lv Y n i->YC i=Y i){sl:SL}{t0 t1:Array Value}(h:SR Y n sl t0)(k:SR YC n' sl t1):SR Y n sl t1:=fun t v hv=>by
 obtain⟨v0,_,h2⟩:=h t v hv;obtain⟨v',k1,k2⟩:=k t v hv;exact⟨v',k1,h2.back hs k2⟩
theorem SR.mono' (hs:∀i,Lv Y n i->YC i=Y i)(hn:n<=n'){sl:SL}{tmps:Array Value}(h:SR Y n sl tmps):SR YC n' sl tmps:=fun t v hv=>by
 obtain⟨v',h1,h2⟩:=h t v hv;exact⟨v',h1,h2.mono' hs hn⟩
theorem MR.mono' (hs:∀i,Lv Y n i->YC i=Y i)(hn:n<=n'):∀ {l:List (Value×Value)} {l':List MapEntry},MR Y n l l'->MR YC n' l l'
 | _,_,.nil=>.nil
 | _,_,.cons h v r=>.cons (h.mono' hs hn) (v.mono' hs hn) (r.mono' hs hn)
end
section
variable {P:Program}{C:Ctx}{G:Nat}{Y YG:Nat->Blk}{h h1:VH}{w w1:World}{base:Nat}
theorem HR.back (H:HR G Y h w base)(H1:HR G YG h1 w1 base)(hs:∀i,i < h.next->YG i=Y i)(hg:∀i o,h.get i=some o->h1.get i=some o):HR G Y h w1 base where
 lt:=H.lt
 glob:=H.glob
 base_:=H1.base_
 row:=fun i cs e own hi=>by
  have hi':=H.lt i _ hi;obtain⟨_,_,c0,el0,fr0,_,h4,_⟩:=H.row i cs e own hi;obtain⟨k1,k2,c,el,fr,k3,k4,k5,k6⟩:=H1.row i cs e own (hg i _ hi);rw[hs i hi']at k1 k3 k4 k5 k6;refine⟨k1,k2,c,el,fr,k3,fun j v hj=>?_,k5,k6⟩;obtain⟨v0,_,g2⟩:=h4 j v hj;obtain⟨v',g3,g4⟩:=k4 j v hj;exact⟨v',g3,g2.back (fun i hi=>hs i hi.1) g4⟩
 map:=fun i es hi=>by
  obtain⟨_,es0,_,_,h3⟩:=H.map i es hi;obtain⟨k1,S9,ck,k2,k3⟩:=H1.map i es (hg i _ hi);rw[hs i (H.lt i _ hi)]at k1 k2;exact⟨k1,S9,ck,k2,h3.back (fun i hi=>hs i hi.1) k3⟩
 loop:=fun i sl ps as bd hi=>by
  obtain⟨_,_,_,_,_,h3,_⟩:=H.loop i sl ps as bd hi;obtain⟨k1,fn,tmps,dfr,k2,k3,k4⟩:=H1.loop i sl ps as bd (hg i _ hi);rw[hs i (H.lt i _ hi)]at k1 k2;exact⟨k1,fn,tmps,dfr,k2,h3.back (fun i hi=>hs i hi.1) k3,k4⟩
 inj:=H.inj
theorem Ux (Y:Nat->Blk){i j:Nat}(k:Blk)(h:i≠j):upd Y j k i=Y i:=by simp[upd,h]
theorem HR.addAt (H:HR G Y h w base){j:Nat}(k:Blk)(o:VO)(hj:j < h.next)(hG:G<=j)(hd:(Y j).live=false)(hk:∀i o,h.get i=some o->(Y i).b≠k.b)
  (V7:∀cs e own,o=.row cs e own->k.own=own/\(∀v∈cs,cellB v=true)/\∃c el fr,w.heap[k.b]?=some (.cells c el fr)/\(∀j v,cs[j]?=some v->∃v',c[k.d+j]?=some v'/\VR Y h.next v v') /\
    (own=true->k.e=e/\base<=k.b/\k.d+k.N=c.size/\cs.length<=k.N/\∀j,j < c.size->¬ (fr.1<=j/\j < fr.2))/\(own=false->k.b < base))
  (hmap:∀es,o=.map es->base<=k.b/\∃S9 ck,w.heap[k.b]?=some (.map S9 ck)/\MR Y h.next es S9.toList)
  (Z8h:∀sl ps as bd,o≠.loop sl ps as bd):HR G (upd Y j k) (h.put j (some o)) w base:=by
 have hlv:∀i,Lv Y h.next i->upd Y j k i=Y i:=fun i hi=>Ux Y k fun e=>by rw[e]at hi;rw[hi.2]at hd;cases hd
 have Zk:∀i oi,(h.put j (some o)).get i=some oi->i=j/\oi=o\/i≠j/\h.get i=some oi:=fun i oi hi=>by
  rw[VH.put_get]at hi;by_cases e:i=j
  .simp [e]at hi;exact .inl ⟨e,hi.symm⟩
  .exact .inr ⟨e,by simpa[e]using hi⟩
 refine⟨fun i oi hi=>?_,⟨H.glob.1,fun g hg=>by rw[Ux Y k (by omega)];exact H.glob.2 g hg⟩,H.base_,fun i cs e own hi=>?_,fun i es hi=>?_,fun i sl ps as bd hi=>?_,fun i i' oi oi' hi hi' m m' he=>?_⟩
 .rcases Zk _ _ hi with⟨rfl,_⟩ | ⟨_,hi⟩
  .exact hj
  .exact H.lt i oi hi
 .rcases Zk _ _ hi with⟨rfl,e1⟩ | ⟨n1,hi⟩
  .obtain ⟨a1,a2,c,el,fr,a3,a4,a5,a6⟩:=V7 cs e own e1.symm;refine⟨by rw[Zr];exact a1,a2,c,el,fr,by rw[Zr];exact a3,fun q v hq=>?_,by rw[Zr];exact a5,by rw[Zr];exact a6⟩;obtain⟨v',g1,g2⟩:=a4 q v hq;exact⟨v',by rw[Zr];exact g1,g2.mono' hlv (Nat.le_refl _)⟩
  .obtain ⟨a1,a2,c,el,fr,a3,a4,a5,a6⟩:=H.row i cs e own hi;refine⟨by rw[Ux Y k n1];exact a1,a2,c,el,fr,by rw[Ux Y k n1];exact a3,fun q v hq=>?_,by rw[Ux Y k n1];exact a5,by rw[Ux Y k n1];exact a6⟩;obtain⟨v',g1,g2⟩:=a4 q v hq;exact⟨v',by rw[Ux Y k n1];exact g1,g2.mono' hlv (Nat.le_refl _)⟩
 .rcases Zk _ _ hi with⟨rfl,e1⟩ | ⟨n1,hi⟩
  .obtain ⟨a1,S9,ck,a2,a3⟩:=hmap es e1.symm;rw[Zr];exact⟨a1,S9,ck,a2,a3.mono' hlv (Nat.le_refl _)⟩
  .obtain ⟨a1,S9,ck,a2,a3⟩:=H.map i es hi;rw[Ux Y k n1];exact⟨a1,S9,ck,a2,a3.mono' hlv (Nat.le_refl _)⟩
 .rcases Zk _ _ hi with⟨rfl,e1⟩ | ⟨n1,hi⟩
  .exact absurd e1.symm (Z8h _ _ _ _)
  .obtain ⟨a1,fn,tmps,dfr,a2,a3,a4⟩:=H.loop i sl ps as bd hi;rw[Ux Y k n1];exact⟨a1,fn,tmps,dfr,a2,a3.mono' hlv (Nat.le_refl _),a4⟩
 .rcases Zk _ _ hi with⟨e1,_⟩ | ⟨n1,hi1⟩<;>rcases Zk _ _ hi' with⟨e2,_⟩ | ⟨n2,hi2⟩
  .rw [e1,e2]
  .rw [e1,Zr,Ux Y k n2]at he;exact absurd he.symm (hk _ _ hi2)
  .rw [e2,Zr,Ux Y k n1]at he;exact absurd he (hk _ _ hi1)
  .rw [Ux Y k n1,Ux Y k n2]at he;exact H.inj _ _ _ _ hi1 hi2 m m' he
def Zaav (Y:Nat->Blk)(n:Nat):VO->Prop
 | .row cs _ own=>own=true/\∃cs',VRs Y n cs cs'
 | .map es=>es=[]
 | .loop _ _ _ _=>False
theorem HR.renew {YI:Nat->Blk}{h0:VH}{w0:World}(H:HR G Y h w base){o:VO}{sh:Shape}{v':Value}(hh:Holds G Y h w base (sh.val h.next) (h.new o) YG w1 v')(hc:Zaav Y h.next o)
  {j:Nat} (hj:j < h.next) (hG:G<=j) (hd:(Y j).live=false) (hn:h.get j=none) (T:TR YI h0 w0 Y h w) (h0j:h0.next<=j):
  ∃YH,HR G YH (h.put j (some o)) w1 base/\VR YH h.next (sh.val j) v'/\TR YI h0 w0 YH (h.put j (some o)) w1/\(∀i,Lv Y h.next i->YH i=Y i)/\(∀i,i≠j->YH i=Y i):=by
 have hm:Ue o=true:=by
  cases o with
  |row cs e own=>exact hc.1
  |map _=>rfl
  |loop _ _ _ _=>exact hc.elim
 have hgn:(h.new o).get h.next=some o:=by rw[VH.new_get,if_pos rfl]
 have hgo:∀i oi,h.get i=some oi->(h.new o).get i=some oi:=fun i oi hi=>by
  have:=H.lt i oi hi;rw[VH.new_get,if_neg (by omega)];exact hi
 have Hb:HR G Y h w1 base:=H.back hh.hr (fun i hi=>hh.tr.sig i hi) hgo
 have hk:∀i oi,h.get i=some oi->(Y i).b≠(YG h.next).b:=by
  intro i oi hi e;have hlt:=H.lt i oi hi;rw[<- hh.tr.sig i hlt]at e;cases hmi:Ue oi with
  |true=>
   have:=hh.hr.inj i h.next oi o (hgo i oi hi) hgn hmi hm e;omega
  |false=>
   cases oi with
   |map _=>cases hmi
   |loop _ _ _ _=>cases hmi
   |row cs e' own=>
    obtain⟨_,_,_,_,_,_,_,_,r6⟩:=hh.hr.row i cs e' own (hgo i _ hi);have hb:=r6 hmi;rw[e]at hb;cases o with
    |row cs2 e2 Zux=>
     obtain⟨_,_,_,_,_,_,_,r5,_⟩:=hh.hr.row _ cs2 e2 Zux hgn;have:=(r5 hc.1).2.1;omega
    |map es=>
     have:=(hh.hr.map _ es hgn).1;omega
    |loop _ _ _ _=>exact hc.elim
 have hlv:∀i,Lv Y h.next i->upd Y j (YG h.next) i=Y i:=fun i hi=>Ux Y _ fun e=>by rw[e]at hi;rw[hi.2]at hd;cases hd
 refine⟨upd Y j (YG h.next),Hb.addAt _ o hj hG hd hk (fun cs e own eo=>?_) (fun es eo=>?_) (fun sl ps as bd eo=>?_),?_,?_,hlv,fun i hi=>Ux Y _ hi⟩
 .subst eo;obtain⟨cs',hcs⟩:=hc.2;obtain⟨r1,r2,c,el,fr,r3,r4,r5,r6⟩:=hh.hr.row _ cs e own hgn;refine⟨r1,r2,c,el,fr,r3,fun q v hq=>?_,r5,r6⟩;obtain⟨v',g1,g2⟩:=r4 q v hq;obtain⟨v0,_,g4⟩:=hcs.get hq;exact⟨v',g1,g4.back (fun i hi=>hh.tr.sig i hi.1) g2⟩
 .subst eo;obtain⟨r1,S9,ck,r2,r3⟩:=hh.hr.map _ es hgn;cases hc;cases hl:S9.toList with
  |nil=>exact⟨r1,S9,ck,r2,by rw[hl];exact .nil⟩
  |cons a l=>rw[hl]at r3;cases r3
 .subst eo;exact hc.elim
 .have hv:=hh.vr;cases sh with
  |ptr=>
   simp only[Shape.val]at hv ⊢;cases hv with
   |ptr _ _ hl=>
    have:=VR.ptr (Y:=upd Y j (YG h.next)) (n:=h.next) j 0 ⟨hj,by rw[Zr];exact hl.2⟩
    rwa [Zr]at this
  |slice m=>
   simp only[Shape.val]at hv ⊢;cases hv with
   |slice _ _ _ _ W1 hl h2 h3=>
    have:=VR.slice (Y:=upd Y j (YG h.next)) (n:=h.next) j 0 m m W1 ⟨hj,by rw[Zr];exact hl.2⟩ h2 (by rw[Zr];exact h3)
    rwa [Zr]at this
   |empty _ _ o' _ hl=>
    have:=VR.empty (Y:=upd Y j (YG h.next)) (n:=h.next) j 0 o' 0 ⟨hj,by rw[Zr];exact hl.2⟩
    rwa [Zr]at this
  |map=>
   simp only[Shape.val]at hv ⊢;cases hv with
   |map _ hl=>
    have:=VR.map (Y:=upd Y j (YG h.next)) (n:=h.next) j ⟨hj,by rw[Zr];exact hl.2⟩
    rwa [Zr]at this
 .have T1:=T.trans hh.tr;have Yp:∀i,i < h0.next->i≠j:=fun i hi e=>by omega
  refine⟨fun i hi=>by rw[Ux Y _ (Yp i hi)];exact T.sig i hi,T.next,T1.wr,fun i oi hi ho hm'=>?_,fun i oi hi ho hm'=>?_,fun i hi hw=>?_,T1.os,T1.tape,T1.output,T1.size,T1.block⟩
  .rw [VH.put_get,if_neg (Yp i hi)]at ho;exact T.old i oi hi ho hm'
  .by_cases e:i=j
   .subst e;rw[Zr];exact T1.new h.next o T.next hgn hm
   .rw [VH.put_get,if_neg e]at ho;rw[Ux Y _ e];exact T.new i oi hi ho hm'
  .rw [VH.put_get,if_neg (Yp i hi)];exact T.same i hi hw
theorem Zyk {sl:SL}{a:Act}{o:Oper}{sh:Shape}{ob:VO}(hC:TOk C P)(H:HR C.G Y h w base)(S:SR Y h.next sl a.tmps)(ho:Qa C sl o=some (sh,ob)):
  Zaav Y h.next ob/\(∃YC w' v',(execOp a.eval o).run P w=.ok (.value v') w'/\Holds C.G Y h w base (sh.val h.next) (h.new ob) YC w' v'):=by
 have fin:∀ {s:Sem Value},Yj P C.G Y h w base s (sh.val h.next) (h.new ob)->(execOp a.eval o=do pure (.value (<- s)))->∃YC w' v',(execOp a.eval o).run P w=.ok (.value v') w'/\Holds C.G Y h w base (sh.val h.next) (h.new ob) YC w' v':=by
  rintro s ⟨YC,w',v',hr,hh⟩ he;exact⟨YC,w',v',by rw[he];simp[hr],hh⟩
 unfold Qa at ho;split at ho
 .rename_i t X6;split at ho
  .rename_i ty ht;cases ho;exact⟨⟨rfl,_,VRs.of_flat 1 _ (hC _ _ ht).zflat⟩,fin (Zw5 H (hC _ _ ht)) (by simp only[execOp,X6])⟩
  .cases ho
 .rename_i t x X6;split at ho
  .rename_i u hu;split at ho
   .rename_i hcb;cases ho;have hv:=Zs H S hu;exact⟨⟨rfl,_,hv.cells⟩,fin (Z98 (t:=t) H hv hcb) (by simp only[execOp,X6])⟩
   .cases ho
  .cases ho
 .rename_i t len ps X6;split at ho
  .rename_i ty vs ht hvs;have Te:=Zbg H S hvs;split at ho
   .rename_i e hk;split at ho
    .rename_i te Vw;split at ho
     .rename_i Wm;rw[Option.map_eq_some_iff]at ho;obtain⟨cs,h1,h2⟩:=ho;cases h2;obtain⟨cs',g1,g2,_⟩:=Zii (place':=fun i=>some (i*te.size,te.size)) (fun i p hp=>hp) Te (Zb1 (Y:=Y) (h:=h) (hC _ _ Vw).zflat len) h1;refine⟨⟨rfl,cs',g2⟩,fin (Zf3 (t:=t) H (hC _ _ ht) hk (hC _ _ Vw) Wm Te h1) ?_⟩;simp only[execOp,X6];rw[Zs3]
     .cases ho
    .cases ho
   .cases ho
  .cases ho
 .rename_i t l c X6;split at ho
  .rename_i ty kn n km m ht hn hm;split at ho
   .rename_i e hk;split at ho
    .rename_i te Vw;split at ho
     .rename_i Wm;cases ho;have g1:=Zs H S hn;have g2:=Zs H S hm;generalize Qc:a.eval l=lv at g1;generalize hg2:a.eval c=cv at g2;cases g1;cases g2;exact⟨⟨rfl,_,Zb1 (Y:=Y) (h:=h) (hC _ _ Vw).zflat n.toNat⟩,fin (Zhw (t:=t) (kn:=kn) (km:=km) H (hC _ _ ht) hk (hC _ _ Vw) Wm.1 Wm.2.1 Wm.2.2.1 Wm.2.2.2) (by simp only[execOp,X6,Qc,hg2])⟩
     .cases ho
    .cases ho
   .cases ho
  .cases ho
 .rename_i t X6;cases ho;exact⟨rfl,fin (Zmu (t:=t) H) (by simp only[execOp,X6,Option.map_none])⟩
 .cases ho
end
def stg (st:DSt)(k:Nat):Option VH:=st.hs.reverse[k]?
def rcd (st:DSt)(j:Nat):Option Rec:=st.recs.reverse[j]?
def SlP (Uc:SL)(st:DSt)(i d:Nat)(v:Value):Prop:=
 (∃(j:Nat) (r:Rec),j < i/\rcd st j=some r/\r.o.dst=some d/\r.v=v)\/((∀(j:Nat) (r:Rec),j < i->rcd st j=some r->r.o.dst≠some d)/\Xf Uc d=some v)
section
variable (C:Ctx)(cf yf:Nat->List Value->VH->Option (Value×VH))(B M:Nat)(all:List Oper)(masks:Array Nat)
def Fact (st:DSt)(j:Nat)(r:Rec):Prop:=
 (r.kind=0/\Qp all r.pk r.o=some false/\r.v=.tuple #[]) \/
 (Qp all r.pk r.o=some true /\
   ((r.kind=1/\∃sh ob,Qa C r.pk r.o=some (sh,ob)/\r.v=sh.val (B+j) /\
      ∀k S,stg st k=some S->(∀(c:Nat) (q:Rec),rcd st c=some q->q.kind=3->q.k < k->(masks.getD c 0).testBit j=false)->S.get (B+j)=some ob) \/
    ((∀x,r.vis.testBit x=true↔(masks.getD j 0).testBit x=true/\x < j/\∃q,rcd st x=some q/\q.kind=1) /\
      ((r.kind=2/\∃S h',stg st r.k=some S/\Xn C cf yf r.pk (view B M r.vis S) r.o=some (r.v,h')/\h'.next=S.next/\h'.wr=S.next) \/
       (r.kind=3/\∃S S' h',stg st r.k=some S/\stg st (r.k+1)=some S'/\Xn C cf yf r.pk (view B M r.vis S) r.o=some (r.v,h')/\S'.next=h'.next/\S'.wr=min S.wr h'.wr/\∀x,S'.get x=(over B M r.vis S h').get x)))))
structure PInv (h0:VH)(Uc:SL)(i:Nat)(st:DSt):Prop where
 first:∃S,stg st 0=some S/\S.next=M/\S.wr=h0.wr/\∀x,¬ (B<=x/\x < M)->S.get x=h0.get x
 len:st.recs.length=i
 hlen:st.hs.length=st.k+1
 sl:∀d v,Xf st.sl d=some v->SlP Uc st i d v
 made:∀j,st.made.testBit j=true↔∃r,rcd st j=some r/\r.kind=1
 op:∀j r,rcd st j=some r->all[j]?=some r.o/\(∀d v,Xf r.pk d=some v->d∈Yc all r.o/\SlP Uc st j d v)/\Fact C cf yf B M all masks st j r
 nothing:∀k S j,stg st k=some S->B<=j->j < M->st.made.testBit (j - B)=false->S.get j=none
 wk:∀k,k < st.k->∃c r,rcd st c=some r/\r.kind=3/\r.k=k
 wb:∀(c:Nat) (r:Rec),rcd st c=some r->r.kind=3->r.k < st.k
variable {C cf yf B M all masks}
theorem Zf9 (sl:SL):∀(ds:List Nat) (d:Nat) (v:Value),Xf (pick sl ds) d=some v->d∈ds/\Xf sl d=some v
 | [],d,v,h=>by simp[pick,Xf]at h
 |e::ds,d,v,h=>by
  simp only[pick]at h;split at h
  .rename_i u hu;simp only[Xf]at h;by_cases he:e=d
   .subst he;have:Nat.beq e e=true:=Nat.beq_refl e;rw[this]at h;simp only[cond_true,Option.some.injEq]at h;subst h;exact⟨by simp,hu⟩
   .rw [Tt he]at h;simp only[cond_false]at h;obtain⟨h1,h2⟩:=Zf9 sl ds d v h;exact⟨by simp[h1],h2⟩
  .obtain ⟨h1,h2⟩:=Zf9 sl ds d v h;exact⟨by simp[h1],h2⟩
theorem W0 {st st':DSt}{r:Rec}{i:Nat}(hr:st'.recs=r::st.recs)(hl:st.recs.length=i)(c:Nat):rcd st' c=if c=i then some r else rcd st c:=by
 unfold rcd;rw[hr,List.reverse_cons,List.getElem?_append];split
 .rename_i h;rw[List.length_reverse]at h;rw[if_neg (by omega)]
 .rename_i h;rw[List.length_reverse]at h;by_cases e:c=i
  .subst e;simp[hl]
  .rw [if_neg e,List.getElem?_eq_none (by simp;omega),List.getElem?_eq_none (by simp;omega)]
theorem Zcw {st:DSt}{i c:Nat}{r:Rec}(hl:st.recs.length=i)(h:rcd st c=some r):c < i:=by
 have:=(List.getElem?_eq_some_iff.1 h).1;simpa[hl]using this
theorem SlP.push {Uc:SL}{st st':DSt}{r:Rec}{i j d:Nat}{v:Value}(hr:st'.recs=r::st.recs)(hl:st.recs.length=i)(hj:j<=i)(h:SlP Uc st j d v):SlP Uc st' j d v:=by
 rcases h with⟨j',r',h1,h2,h3⟩ | ⟨h1,h2⟩
 .exact .inl ⟨j',r',h1,by rw[W0 hr hl,if_neg (by omega)];exact h2,h3⟩
 .refine .inr ⟨fun j' r' hj' hr'=>?_,h2⟩;rw[W0 hr hl,if_neg (by omega)]at hr';exact h1 j' r' hj' hr'
theorem SlP.put {Uc:SL}{st st':DSt}{r:Rec}{i:Nat}(hr:st'.recs=r::st.recs)(hl:st.recs.length=i)(h:∀d v,Xf st.sl d=some v->SlP Uc st i d v)(hs:st'.sl=putV st.sl r.o.dst r.v):
  ∀d v,Xf st'.sl d=some v->SlP Uc st' (i+1) d v:=by
 intro d v hd;rw[hs]at hd
 have keep:r.o.dst≠some d->Xf st.sl d=some v->SlP Uc st' (i+1) d v:=by
  intro Yp hd;rcases (h d v hd).push hr hl (Nat.le_refl _) with⟨j',r',h1,h2⟩ | ⟨h1,h2⟩
  .exact .inl ⟨j',r',by omega,h2⟩
  .refine .inr ⟨fun j' r' hj' hr'=>?_,h2⟩;by_cases e:j'=i
   .subst e;rw[W0 hr hl,if_pos rfl]at hr';cases hr';exact Yp
   .exact h1 j' r' (by omega) hr'
 cases Rb:r.o.dst with
 |none=>
  rw[Rb]at hd;exact keep (by simp[Rb]) hd
 |some e=>
  rw[Rb]at hd;simp only[putV,Zpm]at hd;by_cases he:e=d
  .subst he;simp only[if_true,Option.some.injEq]at hd;exact .inl ⟨i,r,by omega,by rw[W0 hr hl,if_pos rfl],Rb,hd⟩
  .rw [if_neg he]at hd;exact keep (by simp[Rb,he]) hd
structure Nudge (B i:Nat)(f:VH->VH):Prop where
 next:∀S,(f S).next=S.next
 wr:∀S,(f S).wr=S.wr
 get:∀S x,x≠B+i->(f S).get x=S.get x
 at_:∀S S':VH,S.get (B+i)=S'.get (B+i)->(f S).get (B+i)=(f S').get (B+i)
theorem Nudge.id {i:Nat}:Nudge B i (fun S=>S):=⟨fun _=>rfl,fun _=>rfl,fun _ _ _=>rfl,fun _ _ h=>h⟩
theorem Nudge.put {i:Nat}(o:Option VO):Nudge B i (·.put (B+i) o):=⟨fun _=>rfl,fun _=>rfl,fun S x h=>by rw[VH.put_get,if_neg h],fun S S' _=>by rw[VH.put_get,VH.put_get,if_pos rfl,if_pos rfl]⟩
theorem Zh4 {B M x:Nat}:(Nat.ble B x&&Nat.blt x M)=true↔B<=x/\x < M:=by
 rw[Bool.and_eq_true,Nat.ble_eq,Nat.blt_eq]
theorem Wb (p:Nat->Bool)(S:VH)(x:Nat):(X0 B M p S).get x=if B<=x/\x < M then (if p (x - B)=true then S.get x else none) else S.get x:=by
 simp only[X0];by_cases h:B<=x/\x < M
 .rw [Zh4.2 h,if_pos h];cases p (x - B)<;>rfl
 .rw [if_neg h]
  have:(Nat.ble B x&&Nat.blt x M)=false:=by
   cases e:(Nat.ble B x&&Nat.blt x M)
   .rfl
   .exact absurd (Zh4.1 e) h
  rw[this];rfl
theorem over_get (vis:Nat)(S h':VH)(x:Nat):(over B M vis S h').get x=if B<=x/\x < M/\vis.testBit (x - B)=false then S.get x else h'.get x:=by
 simp only[over];by_cases h:B<=x/\x < M
 .rw [Zh4.2 h];cases hb:vis.testBit (x - B)
  .rw [if_pos ⟨h.1,h.2,rfl⟩];rfl
  .rw [if_neg (by simp)];rfl
 .rw [if_neg (fun hh=>h ⟨hh.1,hh.2.1⟩)]
  have:(Nat.ble B x&&Nat.blt x M)=false:=by
   cases e:(Nat.ble B x&&Nat.blt x M)
   .rfl
   .exact absurd (Zh4.1 e) h
  rw[this];rfl
theorem Nudge.view {f:VH->VH}{i vis:Nat}(N:Nudge B i f)(hi:B+i < M)(hv:vis.testBit i=false)(S:VH):view B M vis (f S)=view B M vis S:=by
 have:(X0 B M vis.testBit (f S)).get=(X0 B M vis.testBit S).get:=by
  funext x;rw[Wb,Wb];by_cases hx:x=B+i
  .subst hx;have hb:B<=B+i/\B+i < M:=⟨by omega,hi⟩
   rw[if_pos hb,if_pos hb,Nat.add_sub_cancel_left,hv];rfl
  .rw [N.get S x hx]
 simp only[Virt.view,X0]at this ⊢;rw[this,N.next]
theorem Fact.nudge {st st':DSt}{i j:Nat}{r rn:Rec}{f:VH->VH}(hr:st'.recs=rn::st.recs)(hl:st.recs.length=i)(hi:B+i < M)(hj:j < i)(N:Nudge B i f)
  (Xr:∀k,k<=st.k->stg st' k=(stg st k).map f) (hlen:st.hs.length=st.k+1)
  (Z8g:∀ob k S',st.k < k->stg st' k=some S'->(∀(c:Nat) (q:Rec),rcd st' c=some q->q.kind=3->q.k < k->(masks.getD c 0).testBit j=false) ->
    (∀k S,stg st k=some S->(∀(c:Nat) (q:Rec),rcd st c=some q->q.kind=3->q.k < k->(masks.getD c 0).testBit j=false)->S.get (B+j)=some ob)->S'.get (B+j)=some ob)
  (F:Fact C cf yf B M all masks st j r):Fact C cf yf B M all masks st' j r:=by
 have hrc:∀c q,rcd st c=some q->rcd st' c=some q:=fun c q hq=>by
  have:=Zcw hl hq;rw[W0 hr hl,if_neg (by omega)];exact hq
 have hk:∀k S,stg st k=some S->stg st' k=some (f S):=fun k S hS=>by
  have hlt:k < st.hs.length:=by simpa using (List.getElem?_eq_some_iff.1 hS).1
  rw[Xr k (by omega),hS];rfl
 rcases F with h0 | ⟨hw,F⟩
 .exact .inl h0
 .refine .inr ⟨hw,?_⟩;rcases F with⟨k1,sh,ob,m1,m2,m3⟩ | ⟨Zvq,F⟩
  .refine .inl ⟨k1,sh,ob,m1,m2,fun k S' hS' hc=>?_⟩;by_cases hkk:k<=st.k
   .rw [Xr k hkk]at hS';rw[Option.map_eq_some_iff]at hS';obtain⟨S,hS,rfl⟩:=hS';rw[N.get S _ (by omega)];exact m3 k S hS fun c q hq=>hc c q (hrc c q hq)
   .exact Z8g ob k S' (by omega) hS' hc m3
  .have hvi:r.vis.testBit i=false:=by
    cases e:r.vis.testBit i
    .rfl
    .have:=((Zvq i).1 e).2.1;omega
   refine .inr ⟨fun x=>?_,?_⟩
   .rw [Zvq x];constructor
    .rintro ⟨a1,a2,q,a3,a4⟩;exact⟨a1,a2,q,hrc _ _ a3,a4⟩
    .rintro ⟨a1,a2,q,a3,a4⟩;rw[W0 hr hl,if_neg (by omega)]at a3;exact⟨a1,a2,q,a3,a4⟩
   .rcases F with⟨k2,S,h',f1,f2,f3,f4⟩ | ⟨k3,S,S',h',f1,f2,f3,f4,f5,f6⟩
    .exact .inl ⟨k2,f S,h',hk _ _ f1,by rw[N.view hi hvi];exact f2,by rw[N.next];exact f3,by rw[N.next];exact f4⟩
    .refine .inr ⟨k3,f S,f S',h',hk _ _ f1,hk _ _ f2,by rw[N.view hi hvi];exact f3,by rw[N.next];exact f4,by rw[N.wr,N.wr];exact f5,fun x=>?_⟩;by_cases hx:x=B+i
     .subst hx;have h6:=f6 (B+i);rw[over_get,if_pos ⟨by omega,hi,by rw[Nat.add_sub_cancel_left];exact hvi⟩]at h6 ⊢;exact N.at_ _ _ h6
     .rw [N.get S' x hx,f6 x,over_get,over_get,N.get S x hx]
end
section
variable {C:Ctx}{cf yf:Nat->List Value->VH->Option (Value×VH)}{B M:Nat}{all:List Oper}{masks:Array Nat}
theorem PInv.push {h0:VH}{Uc:SL}{i:Nat}{st st':DSt}{rn:Rec}{f:VH->VH}(H:PInv C cf yf B M all masks h0 Uc i st)(hr:st'.recs=rn::st.recs)(hsl:st'.sl=putV st.sl rn.o.dst rn.v)(hi:B+i < M)
  (N:Nudge B i f) (Xr:∀k,k<=st.k->stg st' k=(stg st k).map f) (Zqa:st'.hs.length=st'.k+1) (Zaq0:∀j,st'.made.testBit j=true↔st.made.testBit j=true\/(j=i/\rn.kind=1))
  (X6:all[i]?=some rn.o) (hpk:rn.pk=pick st.sl (Yc all rn.o)) (hF:Fact C cf yf B M all masks st' i rn) (hrk:rn.k=st.k) (hk3:rn.kind=3/\st'.k=st.k+1\/rn.kind≠3/\st'.k=st.k)
  (Z8g:∀j ob k S',j < i->st.k < k->stg st' k=some S'->(∀(c:Nat) (q:Rec),rcd st' c=some q->q.kind=3->q.k < k->(masks.getD c 0).testBit j=false) ->
    (∀k S,stg st k=some S->(∀(c:Nat) (q:Rec),rcd st c=some q->q.kind=3->q.k < k->(masks.getD c 0).testBit j=false)->S.get (B+j)=some ob)->S'.get (B+j)=some ob)
  (Zkj:∀k S j,stg st' k=some S->B<=j->j < M->st'.made.testBit (j - B)=false->S.get j=none):PInv C cf yf B M all masks h0 Uc (i+1) st' where
 first:=by
  obtain⟨S,h1,h2,h3,h4⟩:=H.first;refine⟨f S,by rw[Xr 0 (Nat.zero_le _),h1];rfl,by rw[N.next];exact h2,by rw[N.wr];exact h3,fun x hx=>?_⟩;rw[N.get S x (fun e=>hx ⟨by omega,by omega⟩)];exact h4 x hx
 len:=by rw[hr,List.length_cons,H.len]
 hlen:=Zqa
 sl:=SlP.put hr H.len H.sl hsl
 made:=fun j=>by
  rw[Zaq0,H.made];constructor
  .rintro (⟨r,h1,h2⟩ | ⟨rfl,h2⟩)
   .have:=Zcw H.len h1;exact⟨r,by rw[W0 hr H.len,if_neg (by omega)];exact h1,h2⟩
   .exact ⟨rn,by rw[W0 hr H.len,if_pos rfl],h2⟩
  .rintro ⟨r,h1,h2⟩;rw[W0 hr H.len]at h1;by_cases e:j=i
   .subst e;rw[if_pos rfl]at h1;cases h1;exact .inr ⟨rfl,h2⟩
   .rw [if_neg e]at h1;exact .inl ⟨r,h1,h2⟩
 op:=fun j r hj=>by
  rw[W0 hr H.len]at hj;by_cases e:j=i
  .subst e;rw[if_pos rfl]at hj;cases hj;refine⟨X6,fun d v hd=>?_,hF⟩;rw[hpk]at hd;obtain⟨h1,h2⟩:=Zf9 _ _ _ _ hd;exact⟨h1,(H.sl d v h2).push hr H.len (Nat.le_refl _)⟩
  .rw [if_neg e]at hj;have hlt:=Zcw H.len hj;obtain⟨a1,a2,a3⟩:=H.op j r hj;exact⟨a1,fun d v hd=>⟨(a2 d v hd).1,(a2 d v hd).2.push hr H.len (Nat.le_of_lt hlt)⟩,a3.nudge hr H.len hi hlt N Xr H.hlen (fun ob k S'=>Z8g j ob k S' hlt)⟩
 nothing:=Zkj
 wk:=fun k hk=>by
  have old:k < st.k->∃c r,rcd st' c=some r/\r.kind=3/\r.k=k:=fun hk=>by
   obtain⟨c,r,h1,h2⟩:=H.wk k hk;have:=Zcw H.len h1;exact⟨c,r,by rw[W0 hr H.len,if_neg (by omega)];exact h1,h2⟩
  rcases hk3 with⟨h3,hk'⟩ | ⟨h3,hk'⟩
  .by_cases e:k=st.k
   .exact ⟨i,rn,by rw[W0 hr H.len,if_pos rfl],h3,by rw[hrk,e]⟩
   .exact old (by omega)
  .exact old (by omega)
 wb:=fun c r hc h3=>by
  rw[W0 hr H.len]at hc;by_cases e:c=i
  .rw [if_pos e]at hc;cases hc;rcases hk3 with⟨_,hk'⟩ | ⟨hn,_⟩
   .omega
   .exact absurd h3 hn
  .rw [if_neg e]at hc;have:=H.wb c r hc h3;rcases hk3 with⟨_,hk'⟩ | ⟨_,hk'⟩<;>omega
theorem Zxx {st:DSt}{k:Nat}{S:VH}(h:stg st k=some S):k < st.hs.length:=by
 simpa using (List.getElem?_eq_some_iff.1 h).1
theorem Zt7 {st:DSt}{S:VH}{r:List VH}(h:st.hs=S::r):stg st r.length=some S:=by
 unfold stg;rw[h,List.reverse_cons,List.getElem?_append_right (by simp)];simp
theorem Zkc (a i j:Nat):(a|||2^i).testBit j=true↔a.testBit j=true\/j=i:=by
 rw[Nat.testBit_or,Nat.testBit_two_pow,Bool.or_eq_true,decide_eq_true_iff];constructor
 .rintro (h | h)
  .exact .inl h
  .exact .inr h.symm
 .rintro (h | h)
  .exact .inl h
  .exact .inr h.symm
theorem PInv.step {h0:VH}{Uc:SL}{i:Nat}{st st':DSt}{o:Oper}(H:PInv C cf yf B M all masks h0 Uc i st)(hi:B+i < M)(X6:all[i]?=some o)(Za01:(masks.getD i 0).testBit i=false)
  (hs:Zda C cf yf B M all masks o i st=some st'):PInv C cf yf B M all masks h0 Uc (i+1) st':=by
 have idst:∀ {st':DSt},st'.hs=st.hs->∀k,k<=st.k->stg st' k=(stg st k).map (fun S=>S):=fun e k _=>by unfold stg;rw[e];simp
 have Zyb:∀ {st':DSt},st'.hs.length=st.hs.length->∀ {k:Nat} {S':VH},st.k < k->stg st' k=some S'->False:=fun {st'} e {k} {S'} h1 h2=>by
  have:=Zxx h2;have:=H.hlen;omega
 have Za0p:st.made.testBit i=false:=by
  cases e:st.made.testBit i
  .rfl
  .obtain ⟨r,h1,_⟩:=(H.made i).1 e;have:=Zcw H.len h1;omega
 rcases hw:Qp all (pick st.sl (Yc all o)) o with _ | (_ | _)
 .simp only [Zda,hw]at hs;cases hs
 .simp only [Zda,hw]at hs;cases hs
  refine H.push (rn:=⟨o,pick st.sl (Yc all o),.tuple #[],0,st.k,0⟩) (f:=fun S=>S) rfl rfl hi Nudge.id (idst rfl) H.hlen (fun j=>by simp) X6 rfl (.inl ⟨rfl,hw,rfl⟩) rfl (.inr ⟨by simp,rfl⟩)
   (fun j ob k S' _ h1 h2=>(Zyb (st':={st with sl:=putV st.sl o.dst (.tuple #[]),recs:=⟨o,pick st.sl (Yc all o),.tuple #[],0,st.k,0⟩::st.recs}) rfl h1 h2).elim) (fun k S j h1=>H.nothing k S j h1)
 .rcases hm:Qa C (pick st.sl (Yc all o)) o with _ | ⟨sh,ob⟩
  rotate_left
  ·
   simp only[Zda,hw,hm]at hs;cases hs
   have hstg:∀k,stg {sl:=putV st.sl o.dst (sh.val (B+i)),recs:=⟨o,pick st.sl (Yc all o),sh.val (B+i),1,st.k,0⟩::st.recs,hs:=st.hs.map (·.put (B+i) (some ob)),k:=st.k,made:=st.made|||2^i} k=(stg st k).map (·.put (B+i) (some ob)):=fun k=>by
    unfold stg;rw[<- List.map_reverse,List.getElem?_map]
   refine H.push (rn:=⟨o,pick st.sl (Yc all o),sh.val (B+i),1,st.k,0⟩) (f:=(·.put (B+i) (some ob))) rfl rfl hi (Nudge.put _) (fun k _=>hstg k) (by simp[H.hlen]) (fun j=>?_) X6 rfl ?_ rfl (.inr ⟨by simp,rfl⟩)
    (fun j ob' k S' _ h1 h2=>(Zyb (st':={sl:=putV st.sl o.dst (sh.val (B+i)),recs:=⟨o,pick st.sl (Yc all o),sh.val (B+i),1,st.k,0⟩::st.recs,hs:=st.hs.map (·.put (B+i) (some ob)),k:=st.k,made:=st.made|||2^i}) (by simp) h1 h2).elim) ?_
   .show (st.made|||2^i).testBit j=true↔_;rw[Zkc];simp
   .refine .inr ⟨hw,.inl ⟨rfl,sh,ob,hm,rfl,fun k S hS _=>?_⟩⟩;rw[hstg,Option.map_eq_some_iff]at hS;obtain⟨S0,_,rfl⟩:=hS;rw[VH.put_get,if_pos rfl]
   .intro k S j hS h1 h2 h3;rw[hstg,Option.map_eq_some_iff]at hS;obtain⟨S0,hS0,rfl⟩:=hS
    have h3':¬ (st.made|||2^i).testBit (j - B)=true:=by
     change (st.made|||2^i).testBit (j - B)=false at h3;rw[h3];simp
    rw[Zkc]at h3';rw[VH.put_get,if_neg (fun e=>h3' (.inr (by omega)))];exact H.nothing k S0 j hS0 h1 h2 (by cases e:st.made.testBit (j - B)<;>simp_all)
  .simp only [Zda,hw,hm]at hs;rcases hhs:st.hs with _ | ⟨S,r⟩
   .rw [hhs]at hs;cases hs
   .rw [hhs]at hs;dsimp only at hs
    have Z09:stg st st.k=some S:=by
     have:=Zt7 hhs;have hl:=H.hlen;rw[hhs]at hl;simp only[List.length_cons]at hl
     rwa [show r.length=st.k by omega]at this
    rcases Y5:Xn C cf yf (pick st.sl (Yc all o)) (view B M (masks.getD i 0&&&st.made) S) o with _ | ⟨v,h'⟩
    .rw [Y5]at hs;cases hs
    .rw [Y5]at hs;dsimp only at hs
     have Zvq:∀(Z0i:List Rec) (rn:Rec),Z0i=rn::st.recs->∀x,(masks.getD i 0&&&st.made).testBit x=true↔(masks.getD i 0).testBit x=true/\x < i/\∃q,Z0i.reverse[x]?=some q/\q.kind=1:=by
      intro Z0i rn he x;rw[Nat.testBit_and,Bool.and_eq_true,H.made];have hp:=W0 (st:=st) (st':={st with recs:=Z0i}) (r:=rn) he H.len x;unfold rcd at hp;dsimp only at hp;rw[hp];constructor
      .rintro ⟨a1,q,a2,a3⟩;have:=Zcw H.len a2;exact⟨a1,this,q,by rw[if_neg (by omega)];exact a2,a3⟩
      .rintro ⟨a1,a2,q,a3,a4⟩;rw[if_neg (by omega)]at a3;exact⟨a1,q,a3,a4⟩
     split at hs
     ·
      rename_i hq;rw[Bool.and_eq_true,Nat.beq_eq,Nat.beq_eq]at hq;rw[<- hhs]at hs;cases hs
      refine H.push (rn:=⟨o,pick st.sl (Yc all o),v,2,st.k,masks.getD i 0&&&st.made⟩) (f:=fun S=>S) rfl rfl hi Nudge.id (idst rfl) H.hlen (fun j=>by simp) X6 rfl ?_ rfl (.inr ⟨by simp,rfl⟩)
       (fun j ob k S' _ h1 h2=>(Zyb (st':={st with sl:=putV st.sl o.dst v,recs:=⟨o,pick st.sl (Yc all o),v,2,st.k,masks.getD i 0&&&st.made⟩::st.recs}) rfl h1 h2).elim) (fun k S j h1=>H.nothing k S j h1)
      exact .inr ⟨hw,.inr ⟨Zvq _ _ rfl,.inl ⟨rfl,S,h',Z09,Y5,hq.1,hq.2⟩⟩⟩
     ·
      cases hs
      have S4:∀k,stg {sl:=putV st.sl o.dst v,recs:=⟨o,pick st.sl (Yc all o),v,3,st.k,masks.getD i 0&&&st.made⟩::st.recs,hs:=over B M (masks.getD i 0&&&st.made) S h'::S::r,k:=st.k+1,made:=st.made} k =
        if k=st.k+1 then some (over B M (masks.getD i 0&&&st.made) S h') else stg st k:=fun k=>by
       unfold stg;have hl:=H.hlen;rw[<- hhs,List.reverse_cons,List.getElem?_append];split
       .rename_i hlt;rw[List.length_reverse]at hlt;rw[if_neg (by omega)]
       .rename_i hlt;rw[List.length_reverse]at hlt;by_cases e:k=st.k+1
        .rw [if_pos e];simp[e,hl]
        .rw [if_neg e,List.getElem?_eq_none (by simp;omega),List.getElem?_eq_none (by simp;omega)]
      refine H.push (rn:=⟨o,pick st.sl (Yc all o),v,3,st.k,masks.getD i 0&&&st.made⟩) (f:=fun S=>S) rfl rfl hi Nudge.id (fun k hk=>by rw[S4,if_neg (by omega)];simp) (by rw[<- hhs,List.length_cons,H.hlen]) (fun j=>by simp) X6 rfl ?_ rfl (.inl ⟨rfl,rfl⟩) ?_ ?_
      .refine .inr ⟨hw,.inr ⟨Zvq _ _ rfl,.inr ⟨rfl,S,over B M (masks.getD i 0&&&st.made) S h',h',?_,?_,Y5,rfl,rfl,fun _=>rfl⟩⟩⟩
       .rw [S4,if_neg (by simp)];exact Z09
       .rw [S4,if_pos rfl]
      .intro j ob k S' hj h1 hS' hc Xa;rw[S4]at hS';by_cases e:k=st.k+1
       .rw [if_pos e]at hS';cases hS';have hb:(masks.getD i 0).testBit j=false:=hc i ⟨o,pick st.sl (Yc all o),v,3,st.k,masks.getD i 0&&&st.made⟩ (by rw[W0 rfl H.len,if_pos rfl]) rfl (by show st.k < k;omega);rw[over_get,if_pos ⟨by omega,by omega,by rw[Nat.add_sub_cancel_left,Nat.testBit_and,hb];rfl⟩];refine Xa st.k S Z09 fun c q hq h3 hlt=>hc c q ?_ h3 (by omega)
        have:=Zcw H.len hq;rw[W0 rfl H.len,if_neg (by omega)];exact hq
       .rw [if_neg e]at hS';have:=Zxx hS';have hl:=H.hlen;omega
      .intro k S' j hS' h1 h2 h3;rw[S4]at hS';by_cases e:k=st.k+1
       .rw [if_pos e]at hS';cases hS';change st.made.testBit (j - B)=false at h3;rw[over_get,if_pos ⟨h1,h2,by rw[Nat.testBit_and,h3,Bool.and_false]⟩];exact H.nothing st.k S j Z09 h1 h2 h3
       .rw [if_neg e]at hS';exact H.nothing k S' j hS' h1 h2 h3
theorem PInv.pass {h0:VH}{Uc:SL}:∀(l:List Oper) (i:Nat) {st st':DSt},PInv C cf yf B M all masks h0 Uc i st->all.drop i=l->B+all.length<=M->(∀j,j < all.length->(masks.getD j 0).testBit j=false) ->
  Zb3 C cf yf B M all masks l i st=some st'->PInv C cf yf B M all masks h0 Uc all.length st'
 | [],i,st,st',H,hl,hM,hm,hs=>by
   simp only[Zb3,Option.some.injEq]at hs;subst hs;have:all.length<=i:=by rw[List.drop_eq_nil_iff]at hl;exact hl
   have hlen:=H.len;by_cases e:i=all.length
   .rw [<- e];exact H
   .exfalso;have hlt:i - 1 < st.recs.length:=by omega
    have hex:∃r,rcd st (i - 1)=some r:=⟨st.recs.reverse[i - 1]'(by simpa using hlt),List.getElem?_eq_getElem _⟩
    obtain⟨r,hr⟩:=hex;have:=(H.op _ _ hr).1;have:=(List.getElem?_eq_some_iff.1 this).1;omega
 |o::l,i,st,st',H,hl,hM,hm,hs=>by
  have hlt:i < all.length:=by
   rcases Nat.lt_or_ge i all.length with h | h
   .exact h
   .rw [List.drop_eq_nil_of_le h]at hl;cases hl
  rw[List.drop_eq_getElem_cons hlt]at hl;injection hl with h1 h2
  simp only[Zb3]at hs;split at hs
  .rename_i st1 h1s;exact PInv.pass l (i+1) (H.step (by omega) (by rw[<- h1];exact List.getElem?_eq_getElem hlt) (hm i hlt) h1s) h2 hM hm hs
  .cases hs
end
mutual
theorem Zmd:∀(n:Nat) {a b:Value},Xg n a b=true->a=b
 |n,.bool a,b,h=>by cases b<;>cases n<;>simp[Xg]at h<;>simp[h]
 |n,.int j a,b,h=>by cases b<;>cases n<;>simp[Xg]at h<;>simp[h]
 |n,.string a,b,h=>by
  cases b with
  |string s=>
   have h':a.data.toList=s.data.toList:=by cases n<;>simpa[Xg]using h
   have:a=s:=by
    cases a;cases s;simp only[ByteArray.mk.injEq];exact Array.toList_inj.1 h'
   rw[this]
  | _=>cases n<;>simp[Xg]at h
 |n,.pointer a,b,h=>by cases b<;>cases n<;>simp[Xg]at h<;>simp[h]
 |n,.slice a l c,b,h=>by cases b<;>cases n<;>simp[Xg]at h<;>simp[h]
 |n,.map a,b,h=>by cases b<;>cases n<;>simp[Xg]at h<;>simp[h]
 |n,.nilFunc,b,h=>by cases b<;>cases n<;>simp[Xg]at h<;>rfl
 |n,.nilIface,b,h=>by cases b<;>cases n<;>simp[Xg]at h<;>rfl
 |n,.float _ _,b,h=>by cases b<;>cases n<;>simp[Xg]at h
 |n,.complex _ _ _,b,h=>by cases b<;>cases n<;>simp[Xg]at h
 |n,.chan _,b,h=>by cases b<;>cases n<;>simp[Xg]at h
 | 0,.func _ _ _,b,h=>by cases b<;>simp[Xg]at h
 |n+1,.func f a c,b,h=>by
  cases b with
  |func g a' c'=>
   simp only[Xg,Bool.and_eq_true,beq_iff_eq]at h;have h1:a.toList=a'.toList:=Zdy n h.1.2;have h2:c.toList=c'.toList:=Zdy n h.2;rw[h.1.1,Array.toList_inj.1 h1,Array.toList_inj.1 h2]
  | _=>simp[Xg]at h
 | 0,.iface _ _,b,h=>by cases b<;>simp[Xg]at h
 |n+1,.iface t v,b,h=>by
  cases b with
  |iface t' v'=>
   simp only[Xg,Bool.and_eq_true,beq_iff_eq]at h;rw[h.1,Zmd n h.2]
  | _=>simp[Xg]at h
 | 0,.agg _,b,h=>by cases b<;>simp[Xg]at h
 |n+1,.agg cs,b,h=>by
  cases b with
  |agg cs'=>
   have hh:cs.toList=cs'.toList:=Zdy n (by simpa only[Xg]using h);rw[Array.toList_inj.1 hh]
  | _=>simp[Xg]at h
 | 0,.tuple _,b,h=>by cases b<;>simp[Xg]at h
 |n+1,.tuple cs,b,h=>by
  cases b with
  |tuple cs'=>
   have hh:cs.toList=cs'.toList:=Zdy n (by simpa only[Xg]using h);rw[Array.toList_inj.1 hh]
  | _=>simp[Xg]at h
theorem Zdy:∀(n:Nat) {l m:List Value},Xg.sames n l m=true->l=m
 |n,[],[],_=>rfl
 |n,[],_::_,h=>by simp[Xg.sames]at h
 |n,_::_,[],h=>by simp[Xg.sames]at h
 |n,a::l,b::m,h=>by
  simp only[Xg.sames,Bool.and_eq_true]at h;rw[Zmd n h.1,Zdy n h.2]
end
theorem Zx1 {n:Nat}{v:Value}{x:Option (Value×VH)}(h:Zhc n v x=true):∃h',x=some (v,h')/\h'.next=n/\h'.wr=n:=by
 cases x with
 |none=>cases h
 |some p=>
  obtain⟨u,h'⟩:=p;simp only[Zhc,Bool.and_eq_true,Nat.beq_eq]at h;exact⟨h',by rw[Zmd 3 h.1.1],h.1.2,h.2⟩
section
variable {all:List Oper}{masks:Array Nat}
theorem Zbh {α:Type}{l:List α}{i:Nat}{x:α}(h:l[i]?=some x):(x,i)∈l.zipIdx:=by
 rw[List.mem_zipIdx_iff_getElem?];exact h
theorem Zma (h:Sq all masks=true){i:Nat}{o:Oper}(hi:all[i]?=some o){e:Edge}(he:e∈o.after)(hb:Region.binds .any e=true):e.on < i:=by
 have h1:=List.all_eq_true.1 h _ (Zbh hi);dsimp only at h1;rw[Bool.and_eq_true]at h1;have h2:=Array.all_eq_true_iff_forall_mem.1 h1.1 e he;simpa[hb]using h2
theorem Zcs (h:Sq all masks=true){i j d:Nat}{o p:Oper}(hi:all[i]?=some o)(hj:all[j]?=some p)(Yp:i≠j)(hd:p.dst=some d):
  o.dst≠some d/\(d∈Yc all o->(j < i->(masks.getD i 0).testBit j=true)/\(i < j->(masks.getD j 0).testBit i=true)):=by
 have h1:=List.all_eq_true.1 h _ (Zbh hi);dsimp only at h1;rw[Bool.and_eq_true]at h1;have h2:=List.all_eq_true.1 h1.2 _ (Zbh hj);dsimp only at h2;rw[Tt Yp,Bool.false_or,hd]at h2;dsimp only at h2;rw[Bool.and_eq_true]at h2;refine⟨fun e=>?_,fun hl=>?_⟩
 .rw [e]at h2;simp at h2
 .have h3:=h2.2;have hc:(Yc all o).contains d=true:=by simpa using hl
  rw[hc,Bool.not_true,Bool.false_or]at h3;refine⟨fun hlt=>?_,fun hlt=>?_⟩
  .rw [Nat.blt_eq.mpr hlt]at h3;exact h3
  .have:Nat.blt j i=false:=by
    cases e:Nat.blt j i
    .rfl
    .rw [Nat.blt_eq]at e;omega
   rw[this]at h3;exact h3
theorem Zg1 {recs:List Rec}(h:Zbw masks recs.zipIdx=true){i j:Nat}{r q:Rec}(hi:recs[i]?=some r)(hj:recs[j]?=some q)(hr:r.kind=3)(hq:q.kind=3)(Yp:i≠j):
  (r.k < q.k/\(masks.getD j 0).testBit i=true)\/(q.k < r.k/\(masks.getD i 0).testBit j=true):=by
 have h1:=List.all_eq_true.1 h _ (Zbh hi);dsimp only at h1;rw[hr]at h1;have h2:=List.all_eq_true.1 (by simpa using h1:(recs.zipIdx.all fun (q,j)=>!Nat.beq q.kind 3||Nat.beq i j||(Nat.blt r.k q.k&&(masks.getD j 0).testBit i)||(Nat.blt q.k r.k&&(masks.getD i 0).testBit j))=true) _ (Zbh hj);dsimp only at h2;rw[hq,Tt Yp]at h2;simp only[Nat.beq_refl,Bool.not_true,Bool.false_or,Bool.or_eq_true,Bool.and_eq_true]at h2;rw[Nat.blt_eq,Nat.blt_eq]at h2;exact h2
theorem Zzy {recs:List Rec}{i k:Nat}(h:∀(c:Nat) (q:Rec),recs[c]?=some q->q.kind=3->((masks.getD i 0).testBit c=true->q.k < k)/\((masks.getD c 0).testBit i=true->k<=q.k)):Zix masks recs.zipIdx i k=true:=by
 refine List.all_eq_true.2 ?_;rintro⟨q,c⟩ hm;rw[List.mem_zipIdx_iff_getElem?]at hm;dsimp only at hm ⊢;by_cases h3:q.kind=3
 .obtain ⟨h1,h2⟩:=h c q hm h3;rw[h3];simp only[Nat.beq_refl,Bool.not_true,Bool.false_or,Bool.and_eq_true,Bool.not_eq_true',Bool.and_eq_false_iff];refine⟨?_,?_⟩
  .cases e:(masks.getD i 0).testBit c
   .exact .inl rfl
   .refine .inr ?_;have:=h1 e;cases e2:Nat.ble k q.k
    .rfl
    .rw [Nat.ble_eq]at e2;omega
  .cases e:(masks.getD c 0).testBit i
   .exact .inl rfl
   .refine .inr ?_;have:=h2 e;cases e2:Nat.blt q.k k
    .rfl
    .rw [Nat.blt_eq]at e2;omega
 .rw [Tt h3];rfl
theorem Z6n {C:Ctx}{cf yf:Nat->List Value->VH->Option (Value×VH)}{B M:Nat}{recs:List Rec}{hs:List VH}(h:Zhg C cf yf B M masks recs.zipIdx hs.zipIdx=true){i k:Nat}{r:Rec}{S:VH}(hi:recs[i]?=some r)(hr:r.kind=2)
  (hk:hs[k]?=some S) (Yp:k≠r.k) (ha:Zix masks recs.zipIdx i k=true):∃h',Xn C cf yf r.pk (view B M r.vis S) r.o=some (r.v,h')/\h'.next=S.next/\h'.wr=S.next:=by
 have h1:=List.all_eq_true.1 h _ (Zbh hi);dsimp only at h1;rw[hr,Nat.beq_refl,Bool.not_true,Bool.false_or]at h1;have h2:=List.all_eq_true.1 h1 _ (Zbh hk);dsimp only at h2;rw[Tt Yp,ha,Bool.not_true,Bool.false_or,Bool.false_or]at h2;exact Zx1 h2
end
theorem Zoe:∀(l:List Oper) (acc:Array Nat) (done:List Oper),acc.size=done.length ->
  (∀i j,(acc.getD i 0).testBit j=true->∃o,done[i]?=some o/\∃e∈o.after,Region.binds .any e=true/\(j=e.on\/(acc.getD e.on 0).testBit j=true)) ->
  let m:=l.foldl (fun acc o=>acc.push (o.after.foldl (fun s e=>if Region.binds .any e then s|||2^e.on|||acc.getD e.on 0 else s) 0)) acc
  ∀i j,(m.getD i 0).testBit j=true->∃o,(done++l)[i]?=some o/\∃e∈o.after,Region.binds .any e=true/\(j=e.on\/(m.getD e.on 0).testBit j=true)
 | [],acc,done,_,h=>by simpa using h
 |o::l,acc,done,hl,h=>by
  have key:∀(es:List Edge) (s:Nat) (j:Nat),(es.foldl (fun s e=>if Region.binds .any e then s|||2^e.on|||acc.getD e.on 0 else s) s).testBit j=true->s.testBit j=true\/∃e∈es,Region.binds .any e=true/\(j=e.on\/(acc.getD e.on 0).testBit j=true):=by
   intro es
   induction es with
   |nil=>intro s j hj;exact .inl hj
   |cons e es ih=>
    intro s j hj;rw[List.foldl_cons]at hj;rcases ih _ j hj with h1 | ⟨e',h1,h2⟩
    .split at h1
     .rename_i hb;rw[Nat.testBit_or,Nat.testBit_or,Nat.testBit_two_pow,Bool.or_eq_true,Bool.or_eq_true,decide_eq_true_iff]at h1;rcases h1 with (h1 | h1) | h1
      .exact .inl h1
      .exact .inr ⟨e,by simp,hb,.inl h1.symm⟩
      .exact .inr ⟨e,by simp,hb,.inr h1⟩
     .exact .inl h1
    .exact .inr ⟨e',by simp[h1],h2⟩
  rw[List.foldl_cons];have:=Zoe l (acc.push (o.after.foldl (fun s e=>if Region.binds .any e then s|||2^e.on|||acc.getD e.on 0 else s) 0)) (done++[o]) (by simp[hl]) (fun i j hij=>?_)
  .simpa using this
  .have grow:∀i j,(acc.getD i 0).testBit j=true->((acc.push (o.after.foldl (fun s e=>if Region.binds .any e then s|||2^e.on|||acc.getD e.on 0 else s) 0)).getD i 0).testBit j=true:=by
    intro i j hij;rcases Nat.lt_or_ge i acc.size with hlt | hge
    .simp only [Array.getD_eq_getD_getElem?]at hij ⊢;rw[Array.getElem?_push,if_neg (by omega)];exact hij
    .simp [Array.getElem?_eq_none hge]at hij
   by_cases hi:i=acc.size
   .subst hi;simp only[Array.getD_eq_getD_getElem?,Array.getElem?_push,if_true,Option.getD_some]at hij;rw[<- Array.foldl_toList]at hij;have hij':=key o.after.toList 0 j (by simpa only[Array.getD_eq_getD_getElem?]using hij);rcases hij' with h1 | ⟨e,h1,h2,h3⟩
    .simp at h1
    .refine ⟨o,by rw[hl];simp,e,by simpa using h1,h2,h3.imp (fun h=>h) (grow _ _)⟩
   .have hlt:i < acc.size:=by
     rcases Nat.lt_trichotomy i acc.size with h | h | h
     .exact h
     .exact absurd h hi
     .simp only [Array.getD_eq_getD_getElem?,Array.getElem?_push,if_neg hi]at hij;rw[Array.getElem?_eq_none (by omega)]at hij;simp at hij
    simp only[Array.getD_eq_getD_getElem?,Array.getElem?_push,if_neg hi]at hij;obtain⟨o',h1,e,h2,h3,h4⟩:=h i j (by simpa only[Array.getD_eq_getD_getElem?]using hij);exact⟨o',by rw[List.getElem?_append_left (by omega)];exact h1,e,h2,h3,h4.imp (fun h=>h) (grow _ _)⟩
theorem Zky (ops:Array Oper){i j:Nat}(h:((Region.before ops).getD i 0).testBit j=true):∃o,ops[i]?=some o/\∃e∈o.after,Region.binds .any e=true/\(j=e.on\/((Region.before ops).getD e.on 0).testBit j=true):=by
 have hb:Region.before ops=ops.toList.foldl (fun acc o=>acc.push (o.after.foldl (fun s e=>if Region.binds .any e then s|||2^e.on|||acc.getD e.on 0 else s) 0)) #[]:=by
  unfold Region.before;rw[<- Array.foldl_toList]
 have:=Zoe ops.toList #[] [] rfl (fun i j hij=>by simp at hij) i j (by rw[<- hb];exact h)
 rw[<- hb]at this;simpa using this
section
variable {P:Program}{C:Ctx}{G:Nat}{Y YC:Nat->Blk}{h h' V O:VH}{w w':World}{base:Nat}
theorem HR.widen (H:HR G Y h w base)(hs:∀i,i < h.next->YC i=Y i)(hn:h.next<=h'.next)(hg:∀i o,h'.get i=some o->h.get i=some o):HR G YC h' w base where
 lt:=fun i o hi=>Nat.lt_of_lt_of_le (H.lt i o (hg i o hi)) hn
 glob:=⟨Nat.le_trans H.glob.1 hn,fun g hgg=>by rw[hs g (Nat.lt_of_lt_of_le hgg H.glob.1)];exact H.glob.2 g hgg⟩
 base_:=H.base_
 row:=fun i cs e own hi=>by
  have hi':=H.lt i _ (hg i _ hi);obtain⟨k1,k2,c,el,fr,k3,k4,k5,k6⟩:=H.row i cs e own (hg i _ hi);rw[<- hs i hi']at k1 k3 k4 k5 k6;refine⟨k1,k2,c,el,fr,k3,fun j v hj=>?_,k5,k6⟩;obtain⟨v',g1,g2⟩:=k4 j v hj;exact⟨v',g1,g2.mono hs hn⟩
 map:=fun i es hi=>by
  obtain⟨k1,S9,ck,k2,k3⟩:=H.map i es (hg i _ hi);rw[<- hs i (H.lt i _ (hg i _ hi))]at k1 k2;exact⟨k1,S9,ck,k2,k3.mono hs hn⟩
 loop:=fun i sl ps as bd hi=>by
  obtain⟨k1,fn,tmps,dfr,k2,k3,k4⟩:=H.loop i sl ps as bd (hg i _ hi);rw[<- hs i (H.lt i _ (hg i _ hi))]at k1 k2;exact⟨k1,fn,tmps,dfr,k2,k3.mono hs hn,k4⟩
 inj:=fun i j oi oj hi hj mi mj he=>by
  rw[hs i (H.lt i _ (hg i _ hi)),hs j (H.lt j _ (hg j _ hj))]at he;exact H.inj i j oi oj (hg i _ hi) (hg j _ hj) mi mj he
theorem frame (H:HR G Y h w base)(hid:Nat->Prop)(hVn:V.next=h.next)(hV1:∀j,hid j->V.get j=none)(hV2:∀j,¬ hid j->V.get j=h.get j)(Zh9:∀j,hid j->j < h.next)(H':HR G YC h' w' base)(T:TR Y V w YC h' w')
  (hOn:O.next=h'.next) (hOw1:O.wr<=h.wr) (hOw2:O.wr<=h'.wr) (hO1:∀j,hid j->O.get j=h.get j) (hO2:∀j,¬ hid j->O.get j=h'.get j):HR G YC O w' base/\TR Y h w YC O w':=by
 have Zh6:∀j o,V.get j=some o->h.get j=some o:=fun j o hj=>by
  by_cases hh:hid j
  .rw [hV1 j hh]at hj;cases hj
  .rw [<- hV2 j hh];exact hj
 have Zdj:∀i,i < h.next->YC i=Y i:=fun i hi=>T.sig i (by rw[hVn];exact hi)
 have Zarc:∀j o,hid j->h.get j=some o->Ue o=true->w'.heap[(Y j).b]?=w.heap[(Y j).b]?:=fun j o hj ho hm=>by
  refine T.block _ (H.block_lt ho) fun i oi hi hmi _ e=>?_
  have:=H.inj i j oi o (Zh6 i oi hi) ho hmi hm e;subst this;rw[hV1 i hj]at hi;cases hi
 have Zcd:∀j o,hid j->h.get j=some o->w'.heap[(Y j).b]?=w.heap[(Y j).b]?:=fun j o hj ho=>by
  cases hm:Ue o with
  |true=>exact Zarc j o hj ho hm
  |false=>
   cases o with
   |map _=>cases hm
   |loop _ _ _ _=>cases hm
   |row cs e own=>
    obtain⟨_,_,_,_,_,_,_,_,r6⟩:=H.row j cs e own ho;have hb:=r6 hm;refine T.block _ (H.block_lt ho) fun i oi hi hmi _ e=>?_
    have hi':=Zh6 i oi hi;cases oi with
    |row cs2 e2 Zux=>
     obtain⟨_,_,_,_,_,_,_,r5,_⟩:=H.row i cs2 e2 Zux hi';have:=(r5 hmi).2.1;omega
    |map es=>have:=(H.map i es hi').1;omega
    |loop sl ps as bd=>have:=(H.loop i sl ps as bd hi').1;omega
 have Z8e:h.next<=h'.next:=by rw[<- hVn];exact T.next
 have Zkn:∀i o,O.get i=some o->(hid i/\h.get i=some o)\/(¬ hid i/\h'.get i=some o):=fun i o hi=>by
  by_cases hh:hid i
  .exact .inl ⟨hh,by rw[<- hO1 i hh];exact hi⟩
  .exact .inr ⟨hh,by rw[<- hO2 i hh];exact hi⟩
 have Z8t:∀i j oi oj,hid i->h.get i=some oi->Ue oi=true->h'.get j=some oj->Ue oj=true->(YC j).b=(Y i).b->False:=by
  intro i j oi oj hi hoi hmi hoj hmj he;by_cases hj:j < V.next
  .obtain ⟨o0,x,y⟩:=T.old j oj hj hoj hmj;rw[T.sig j hj]at he;have:=H.inj j i o0 oi (Zh6 j o0 x) hoi y hmi he;subst this;rw[hV1 j hi]at x;cases x
  .rcases T.new j oj (by omega) hoj hmj with hb | ⟨q,o0,x,y,_,u⟩
   .have:=H.block_lt hoi;omega
   .have:=H.inj q i o0 oi (Zh6 q o0 x) hoi y hmi (u.symm.trans he);subst this;rw[hV1 q hi]at x;cases x
 refine⟨⟨fun i o hi=>?_,?_,H'.base_,fun i cs e own hi=>?_,fun i es hi=>?_,fun i sl ps as bd hi=>?_,fun i j oi oj hi hj mi mj he=>?_⟩,?_⟩
 .rw [hOn];rcases Zkn i o hi with⟨h1,h2⟩ | ⟨_,h2⟩
  .exact Nat.lt_of_lt_of_le (Zh9 i h1) Z8e
  .exact H'.lt i o h2
 .rw [hOn];exact H'.glob
 .rw [hOn];rcases Zkn i _ hi with⟨h1,h2⟩ | ⟨_,h2⟩
  .obtain ⟨k1,k2,c,el,fr,k3,k4,k5,k6⟩:=H.row i cs e own h2;rw[<- Zcd i _ h1 h2]at k3;rw[<- Zdj i (Zh9 i h1)]at k1 k3 k4 k5 k6;refine⟨k1,k2,c,el,fr,k3,fun j v hj=>?_,k5,k6⟩;obtain⟨v',g1,g2⟩:=k4 j v hj;exact⟨v',g1,g2.mono Zdj Z8e⟩
  .exact H'.row i cs e own h2
 .rw [hOn];rcases Zkn i _ hi with⟨h1,h2⟩ | ⟨_,h2⟩
  .obtain ⟨k1,S9,ck,k2,k3⟩:=H.map i es h2;rw[<- Zcd i _ h1 h2]at k2;rw[<- Zdj i (Zh9 i h1)]at k1 k2;exact⟨k1,S9,ck,k2,k3.mono Zdj Z8e⟩
  .exact H'.map i es h2
 .rw [hOn];rcases Zkn i _ hi with⟨h1,h2⟩ | ⟨_,h2⟩
  .obtain ⟨k1,fn,tmps,dfr,k2,k3,k4⟩:=H.loop i sl ps as bd h2;rw[<- Zcd i _ h1 h2]at k2;rw[<- Zdj i (Zh9 i h1)]at k1 k2;exact⟨k1,fn,tmps,dfr,k2,k3.mono Zdj Z8e,k4⟩
  .exact H'.loop i sl ps as bd h2
 .rcases Zkn i _ hi with⟨h1,h2⟩ | ⟨h1,h2⟩<;>rcases Zkn j _ hj with⟨k1,k2⟩ | ⟨k1,k2⟩
  .rw [Zdj i (Zh9 i h1),Zdj j (Zh9 j k1)]at he;exact H.inj i j oi oj h2 k2 mi mj he
  .rw [Zdj i (Zh9 i h1)]at he;exact (Z8t i j oi oj h1 h2 mi k2 mj he.symm).elim
  .rw [Zdj j (Zh9 j k1)]at he;exact (Z8t j i oj oi k1 k2 mj h2 mi he).elim
  .exact H'.inj i j oi oj h2 k2 mi mj he
 .refine ⟨Zdj,by rw[hOn];exact Z8e,hOw1,fun i o hi ho hm=>?_,fun i o hi ho hm=>?_,fun i hi hw=>?_,T.os,T.tape,T.output,T.size,fun b hb hc=>?_⟩
  .rcases Zkn i _ ho with⟨h1,h2⟩ | ⟨h1,h2⟩
   .exact ⟨o,h2,hm⟩
   .obtain ⟨o0,x,y⟩:=T.old i o (by rw[hVn];exact hi) h2 hm;exact⟨o0,Zh6 i o0 x,y⟩
  .rcases Zkn i _ ho with⟨h1,h2⟩ | ⟨h1,h2⟩
   .have:=Zh9 i h1;omega
   .rcases T.new i o (by rw[hVn];exact hi) h2 hm with hb | ⟨j,o0,x,y,z,u⟩
    .exact .inl hb
    .exact .inr ⟨j,o0,Zh6 j o0 x,y,Nat.le_trans hOw2 z,u⟩
  .by_cases hh:hid i
   .exact hO1 i hh
   .rw [hO2 i hh,T.same i (by rw[hVn];exact hi) (Nat.lt_of_lt_of_le hw hOw2),hV2 i hh]
  .exact T.block b hb fun i o hi hm hw=>hc i o (Zh6 i o hi) hm (Nat.le_trans hOw2 hw)
end
def SlL (Uc:SL)(st:DSt)(L:Nat->Bool)(d:Nat)(v:Value):Prop:=
 (∃(j:Nat) (r:Rec),L j=true/\rcd st j=some r/\r.o.dst=some d/\r.v=v)\/((∀(j:Nat) (r:Rec),L j=true->rcd st j=some r->r.o.dst≠some d)/\Xf Uc d=some v)
structure At (G:Nat)(B M:Nat)(masks:Array Nat)(st:DSt)(Uc:SL)(h0:VH)(YI:Nat->Blk)(w0:World)(a0:Act)(base n:Nat)(L:Nat->Bool)(k:Nat)(S:VH)(Y:Nat->Blk)(w:World)(a:Act):Prop where
 stage:stg st k=some S
 big:M<=S.next
 low:S.wr<=S.next
 wr:∀(c:Nat) (r:Rec),rcd st c=some r->r.kind=3->(L c=true↔r.k < k)
 hr:HR G Y (X0 B M L S) w base
 dead:∀j,j < n->L j=false->(Y (B+j)).live=false
 sl:∀d v,SlL Uc st L d v->∃v',a.tmps[d]?=some v'/\VR Y S.next v v'
 tr:TR YI h0 w0 Y (X0 B M L S) w
 size:a.tmps.size=a0.tmps.size
 dfr:a.defers=a0.defers
 down:∀i,L i=true->∀j,(masks.getD i 0).testBit j=true->L j=true
section
variable {P:Program}{C:Ctx}{cf yf:Nat->List Value->VH->Option (Value×VH)}{B M:Nat}{ops:Array Oper}{st:DSt}{Uc:SL}{h0:VH}{YI Y:Nat->Blk}{w0 w:World}{a0 a:Act}{base:Nat}{k:Nat}{S:VH}
theorem Zug {L L':Nat->Bool}{i:Nat}(hn:S.get (B+i)=none)(hL:∀x,x≠i->L' x=L x):X0 B M L' S=X0 B M L S:=by
 have:(X0 B M L' S).get=(X0 B M L S).get:=by
  funext x;rw[Wb,Wb];by_cases hx:B<=x/\x < M
  .rw [if_pos hx,if_pos hx];by_cases e:x - B=i
   .have:x=B+i:=by omega
    subst this;simp[hn]
   .rw [hL _ e]
  .rw [if_neg hx,if_neg hx]
 simp only[X0]at this ⊢;rw[this]
theorem SlL.add {L L':Nat->Bool}{i d:Nat}{v:Value}{r:Rec}(hL':L' i=true)(hL:∀x,x≠i->L' x=L x)(hi:L i=false)(hr:rcd st i=some r)
  (Zyt:∀j q,rcd st j=some q->j≠i->q.o.dst=some d->r.o.dst≠some d) (h:SlL Uc st L' d v):(r.o.dst=some d/\v=r.v)\/(r.o.dst≠some d/\SlL Uc st L d v):=by
 by_cases hd:r.o.dst=some d
 .refine .inl ⟨hd,?_⟩;rcases h with⟨j,q,h1,h2,h3,h4⟩ | ⟨h1,h2⟩
  .by_cases e:j=i
   .subst e;rw[hr]at h2;cases h2;exact h4.symm
   .exact absurd hd (Zyt j q h2 e h3)
  .exact absurd hd (h1 i r hL' hr)
 .refine .inr ⟨hd,?_⟩;rcases h with⟨j,q,h1,h2,h3,h4⟩ | ⟨h1,h2⟩
  .by_cases e:j=i
   .subst e;rw[hr]at h2;cases h2;exact absurd h3 hd
   .exact .inl ⟨j,q,by rw[<- hL j e];exact h1,h2,h3,h4⟩
  .refine .inr ⟨fun j q hj hq=>h1 j q ?_ hq,h2⟩;by_cases e:j=i
   .rw [e];exact hL'
   .rw [hL j e];exact hj
theorem At.more (hC:COk C P)(hcf:Zbn C P cf)(hyf:YfSound C P yf)(hp:PInv C cf yf B M ops.toList (Region.before ops) h0 Uc ops.size st)(hM:M=B+ops.size)(hB:B=h0.next)(hG:C.G<=B)
  (hs:Sq ops.toList (Region.before ops)=true) (hw:Zbw (Region.before ops) st.recs.reverse.zipIdx=true) (hrd:Zhg C cf yf B M (Region.before ops) st.recs.reverse.zipIdx st.hs.reverse.zipIdx=true) (Rb:Zu3 a0.tmps.size ops)
  {L:Nat->Bool} (A:At C.G B M (Region.before ops) st Uc h0 YI w0 a0 base ops.size L k S Y w a) {i:Nat} {o:Oper} (hi:ops[i]?=some o) (hLi:L i=false) (Zgm:∀j,((Region.before ops).getD i 0).testBit j=true->L j=true)
  {L':Nat->Bool} (hL':L' i=true) (hL:∀x,x≠i->L' x=L x) (b:Frame) (rest:List Nat) (kk:List Item) (cs:List Frame):
  ∃k' S' YC w' a',At C.G B M (Region.before ops) st Uc h0 YI w0 a0 base ops.size L' k' S' YC w' a'/\Steps P (lone (b.atR a (.inRegion ops (i::rest)::kk)) cs w) (lone (b.atR a' (.inRegion ops rest::kk)) cs w'):=by
 have Uv:i < ops.size:=(Array.getElem?_eq_some_iff.1 hi).1;have hrec:∃r,rcd st i=some r:=⟨st.recs.reverse[i]'(by simp[hp.len];exact Uv),List.getElem?_eq_getElem _⟩
 obtain⟨r,hr⟩:=hrec;obtain⟨X6,hpk,hF⟩:=hp.op i r hr
 have ho:r.o=o:=by
  have:ops.toList[i]?=some o:=by simpa using hi
  rw[this]at X6;exact (Option.some.inj X6).symm
 have hali:ops.toList[i]?=some o:=by simpa using hi
 have hLL:∀x,L x=true->L' x=true:=fun x hx=>by
  by_cases e:x=i
  .rw [e];exact hL'
  .rw [hL x e];exact hx
 have Z1a:∀x,L' x=true->∀j,((Region.before ops).getD x 0).testBit j=true->L' j=true:=fun x hx j hj=>by
  by_cases e:x=i
  .subst e;exact hLL j (Zgm j hj)
  .rw [hL x e]at hx;exact hLL j (A.down x hx j hj)
 have Zyt:∀d j q,rcd st j=some q->j≠i->q.o.dst=some d->r.o.dst≠some d:=fun d j q hq Yp hd=>by
  rw[ho];exact (Zcs hs hali (hp.op j q hq).1 (fun e=>Yp e.symm) hd).1
 have hSR:SR Y S.next r.pk a.tmps:=fun d v hv=>by
  obtain⟨Z8i,hsl⟩:=hpk d v hv;rw[ho]at Z8i;refine A.sl d v ?_;rcases hsl with⟨j,q,h1,h2,h3,h4⟩ | ⟨h1,h2⟩
  .exact .inl ⟨j,q,Zgm j (((Zcs hs hali (hp.op j q h2).1 (by omega) h3).2 Z8i).1 h1),h2,h3,h4⟩
  .refine .inr ⟨fun j q hj hq hd=>?_,h2⟩;rcases Nat.lt_trichotomy j i with hlt | heq | hgt
   .exact h1 j q hlt hq hd
   .rw [heq,hLi]at hj;cases hj
   .have:=((Zcs hs hali (hp.op j q hq).1 (by omega) hd).2 Z8i).2 hgt;have:=A.down j hj i this;rw[hLi]at this;cases this
 have Zru:∀ {YC:Nat->Blk} {n':Nat} {v':Value},(∀x,Lv Y S.next x->YC x=Y x)->S.next<=n'->VR YC n' r.v v'->∀d v,SlL Uc st L' d v->∃u,(a.put o.dst v').tmps[d]?=some u/\VR YC n' v u:=by
  intro YC n' v' hσ hn hv d v hd;rcases SlL.add hL' hL hLi hr (Zyt d) hd with⟨h1,h2⟩ | ⟨h1,h2⟩
  .rw [ho]at h1;have hlt:d < a.tmps.size:=by rw[A.size];exact Rb i o d hi h1
   refine⟨v',?_,by rw[h2];exact hv⟩;simp only[Act.put,h1];simp[hlt]
  .rw [ho]at h1;obtain⟨u,g1,g2⟩:=A.sl d v h2;refine⟨u,?_,g2.mono' hσ hn⟩;cases hdo:o.dst with
   |none=>exact g1
   |some e=>
    simp only[Act.put];rw[Array.getElem?_setIfInBounds_ne (fun ee=>h1 (by rw[hdo,ee]))];exact g1
 have Z1b:∀ {YC:Nat->Blk},(∀x,x < S.next->x≠B+i->YC x=Y x)->∀j,j < ops.size->L' j=false->(YC (B+j)).live=false:=fun hσ j hj hLj=>by
  have Yp:j≠i:=fun e=>by rw[e,hL']at hLj;cases hLj
  have:=A.big;rw[hσ (B+j) (by omega) (by omega)];exact A.dead j hj (by rw[<- hL j Yp];exact hLj)
 have Ze8:∀v',(a.put o.dst v').tmps.size=a0.tmps.size:=fun v'=>(Zd2 _ _ _).trans A.size
 have Zh7:∀v',(a.put o.dst v').defers=a0.defers:=fun v'=>(Zgc _ _ _).trans A.dfr
 have Zkj:r.kind≠1->S.get (B+i)=none:=fun h1=>by
  refine hp.nothing k S (B+i) A.stage (by omega) (by omega) ?_;rw[Nat.add_sub_cancel_left];cases e:st.made.testBit i
  .rfl
  .obtain ⟨q,g1,g2⟩:=(hp.made i).1 e;rw[hr]at g1;cases g1;exact absurd g2 h1
 have hwr:r.kind≠3->∀(c:Nat) (q:Rec),rcd st c=some q->q.kind=3->(L' c=true↔q.k < k):=fun h3 c q hq hq3=>by
  have Yp:c≠i:=fun e=>by
   subst e;rw[hr]at hq;cases hq;exact h3 hq3
  rw[hL c Yp];exact A.wr c q hq hq3
 have Zag4:∀(c:Nat) (q:Rec),rcd st c=some q->q.kind=3->q.k < k->((Region.before ops).getD c 0).testBit i=false:=fun c q hq h3 hlt=>by
  cases e:((Region.before ops).getD c 0).testBit i
  .rfl
  .have:=A.down c ((A.wr c q hq h3).2 hlt) i e;rw[hLi]at this;cases this
 rcases hF with⟨hk0,Zvp,hv0⟩ | ⟨Zvp,hF⟩
 ·
  rw[ho]at Zvp;have hwf:=Rr hSR Zvp;have s1:=stepR_op_skip (P:=P) (b:=b) (a:=a) (k:=kk) (cs:=cs) (w:=w) (ops:=ops) (i:=i) (rest:=rest) (by simp[hi,hwf]);simp only[hi,Option.bind_some]at s1;have heq:X0 B M L' S=X0 B M L S:=Zug (Zkj (by omega)) hL;refine⟨k,S,Y,w,a.put o.dst undef,⟨A.stage,A.big,A.low,hwr (by omega),by rw[heq];exact A.hr,Z1b (fun _ _ _=>rfl),Zru (fun _ _=>rfl) (Nat.le_refl _) (by rw[hv0];exact .tuple _ _ .nil),by rw[heq];exact A.tr,Ze8 _,Zh7 _,Z1a⟩,.one s1⟩
 .rw [ho]at Zvp;have hwt:=Rr hSR Zvp;rcases hF with⟨hk1,sh,ob,hm,hv1,hat⟩ | ⟨Zvq,hF⟩
  ·
   rw[ho]at hm;have hSR':SR Y (X0 B M L S).next r.pk a.tmps:=hSR;obtain⟨Zadn,YG,w1,v',Y5,hh⟩:=Zyk (P:=P) hC.T A.hr hSR' hm;have Tn:S.get (B+i)=some ob:=hat k S A.stage Zag4;have Zc0:=A.big
   have hgn:(X0 B M L S).get (B+i)=none:=by
    rw[Wb,if_pos ⟨by omega,by omega⟩,Nat.add_sub_cancel_left,hLi];rfl
   obtain⟨YH,H2,V2,T2,e1,e2⟩:=A.hr.renew hh Zadn (j:=B+i) (show B+i < S.next by omega) (by omega) (A.dead i Uv hLi) hgn A.tr (by omega)
   have heq:X0 B M L' S=(X0 B M L S).put (B+i) (some ob):=by
    have:(X0 B M L' S).get=((X0 B M L S).put (B+i) (some ob)).get:=by
     funext x;rw[Wb,VH.put_get,Wb];by_cases hx:x=B+i
     .subst hx;rw[if_pos ⟨by omega,by omega⟩,Nat.add_sub_cancel_left,if_pos hL',if_pos rfl,Tn]
     .rw [if_neg hx];by_cases hr:B<=x/\x < M
      .rw [if_pos hr,if_pos hr,hL (x - B) (by omega)]
      .rw [if_neg hr,if_neg hr]
    simp only[X0,VH.put]at this ⊢;rw[this]
   have hg:=stepGR_op (P:=P) (b:=b) (a:=a) (k:=kk) (cs:=cs) (w:=w) (rest:=rest) hi hwt
   have Xx:∀v,(b.atR a (.inRegion ops (i::rest)::kk)).finish v=b.atR (a.put o.dst v) (.inRegion ops rest::kk):=by
    intro v;rw[Frame.finish_atR,hi];rfl
   rw[Oper.semAt_eq _ _ _ (fun c hc=>by simp[Qa,hc]at hm)]at hg
   have s1:step P (lone (b.atR a (.inRegion ops (i::rest)::kk)) cs w)=.next (lone (b.atR (a.put o.dst v') (.inRegion ops rest::kk)) cs w1):=by
    refine step_lone_go ?_;rw[hg,<- Xx];simp[stepG.apply,Y5]
   refine⟨k,S,YH,w1,a.put o.dst v',⟨A.stage,A.big,A.low,hwr (by omega),by rw[heq];exact H2,Z1b (fun x _ hx=>e2 x hx),Zru (n':=S.next) e1 (Nat.le_refl _) (by rw[hv1];exact V2),by rw[heq];exact T2,Ze8 _,Zh7 _,Z1a⟩,.one s1⟩
  ·
   have hvL:∀x,r.vis.testBit x=true->L x=true:=fun x hx=>Zgm x ((Zvq x).1 hx).1
   have hvi:r.vis.testBit i=false:=by
    cases e:r.vis.testBit i
    .rfl
    .have:=((Zvq i).1 e).2.1;omega
   have Z86:∀x,(view B M r.vis S).get x=if B<=x/\x < M then (if r.vis.testBit (x - B)=true then S.get x else none) else S.get x:=fun x=>Wb _ _ _
   have HV:HR C.G Y (view B M r.vis S) w base:=A.hr.sub rfl fun x ob hx=>by
    rw[Z86]at hx;rw[Wb];by_cases hr:B<=x/\x < M
    .rw [if_pos hr]at hx ⊢;by_cases hb:r.vis.testBit (x - B)=true
     .rw [if_pos hb]at hx;rw[if_pos (hvL _ hb)];exact hx
     .rw [if_neg hb]at hx;cases hx
    .rw [if_neg hr]at hx ⊢;exact hx
   let hid:Nat->Prop:=fun x=>(B<=x/\x < M)/\¬ r.vis.testBit (x - B)=true
   have hV1:∀x,hid x->(view B M r.vis S).get x=none:=fun x hx=>by rw[Z86,if_pos hx.1,if_neg hx.2]
   have hV2:∀x,¬ hid x->(view B M r.vis S).get x=(X0 B M L S).get x:=fun x hx=>by
    rw[Z86,Wb];by_cases hr:B<=x/\x < M
    .have hb:r.vis.testBit (x - B)=true:=Classical.byContradiction fun hb=>hx ⟨hr,hb⟩
     rw[if_pos hr,if_pos hr,if_pos hb,if_pos (hvL _ hb)]
    .rw [if_neg hr,if_neg hr]
   have Zc0:=A.big;have Zh9:∀x,hid x->x < (X0 B M L S).next:=fun x hx=>Nat.lt_of_lt_of_le hx.1.2 Zc0
   have hSRv:SR Y (view B M r.vis S).next r.pk a.tmps:=hSR;rcases hF with⟨hk2,S1,h1',f1,f2,f3,f4⟩ | ⟨hk3,S1,S2,h1',f1,f2,f3,f4,f5,f6⟩
   ·
    have hex:∃h',Xn C cf yf r.pk (view B M r.vis S) r.o=some (r.v,h')/\h'.next=S.next/\h'.wr=S.next:=by
     by_cases e:k=r.k
     .have:S1=S:=by
       have:=A.stage;rw[e,f1]at this;exact Option.some.inj this
      rw[this]at f2 f3 f4;exact⟨h1',f2,f3,f4⟩
     .refine Z6n hrd hr hk2 A.stage e (Zzy fun c q hq h3=>⟨fun hb=>?_,fun hb=>?_⟩)
      .exact (A.wr c q hq h3).1 (Zgm c hb)
      .rcases Nat.lt_or_ge q.k k with hlt | hge
       .rw [Zag4 c q hq h3 hlt]at hb;cases hb
       .exact hge
    obtain⟨h',g1,g2,g3⟩:=hex;rw[ho]at g1;obtain⟨YG,w1,v',s1,hh⟩:=Zrl hC hcf hyf b kk cs rest HV hSRv hi hwt g1;have heq:X0 B M L' S=X0 B M L S:=Zug (Zkj (by omega)) hL
    have hgn:∀x,¬ hid x->(X0 B M L S).get x=h'.get x:=fun x hx=>by
     rw[<- hV2 x hx];rcases Nat.lt_or_ge x S.next with hlt | hge
     .exact (hh.tr.same x hlt (by rw[g3];exact hlt)).symm
     .cases e1:(view B M r.vis S).get x with
      |some ob=>have:=HV.lt x ob e1;change x < S.next at this;omega
      |none=>
       cases e2:h'.get x with
       |some ob=>have:=hh.hr.lt x ob e2;omega
       |none=>rfl
    have hlow:S.wr<=h'.wr:=by rw[g3];exact A.low
    obtain⟨H2,T2⟩:=frame (V:=view B M r.vis S) (O:=X0 B M L S) A.hr hid rfl hV1 hV2 Zh9 hh.hr hh.tr g2.symm (Nat.le_refl _) hlow (fun _ _=>rfl) hgn;have hv:VR YG S.next r.v v':=by have:=hh.vr;rw[g2]at this;exact this
    refine⟨k,S,YG,w1,a.put o.dst v',⟨A.stage,A.big,A.low,hwr (by omega),by rw[heq];exact H2,Z1b (fun x hx _=>hh.tr.sig x hx),Zru (fun x hx=>hh.tr.sig x hx.1) (Nat.le_refl _) hv,by rw[heq];exact A.tr.trans T2,Ze8 _,Zh7 _,Z1a⟩,s1⟩
   ·
    have hrk:r.k=k:=by
     have h1:¬ r.k < k:=fun hlt=>by
      have:=(A.wr i r hr hk3).2 hlt;rw[hLi]at this;cases this
     rcases Nat.lt_or_ge k r.k with hlt | hge
     .obtain ⟨c,q,q1,q2,q3⟩:=hp.wk k (Nat.lt_trans hlt (hp.wb i r hr hk3))
      have Yp:c≠i:=fun e=>by
       subst e;rw[hr]at q1;cases q1;omega
      rcases Zg1 hw q1 hr q2 hk3 Yp with⟨_,hb⟩ | ⟨Zng,_⟩
      .have:=(A.wr c q q1 q2).1 (Zgm c hb);omega
      .omega
     .omega
    have hS1:S1=S:=by
     have:=A.stage;rw[<- hrk,f1]at this;exact Option.some.inj this
    subst hS1;rw[ho]at f3;obtain⟨YG,w1,v',s1,hh⟩:=Zrl hC hcf hyf b kk cs rest HV hSRv hi hwt f3
    have hO1:∀x,hid x->(X0 B M L' S2).get x=(X0 B M L S1).get x:=fun x hx=>by
     have hov:S2.get x=S1.get x:=by
      rw[f6,over_get,if_pos ⟨hx.1.1,hx.1.2,by cases e:r.vis.testBit (x - B)<;>first | rfl | exact absurd e hx.2⟩]
     rw[Wb,Wb,if_pos hx.1,if_pos hx.1];by_cases e:x - B=i
     .have hxi:x=B+i:=by have:=hx.1.1;omega
      have hn:=Zkj (by omega);rw[<- hxi]at hn;rw[hov,hn];simp
     .rw [hL _ e,hov]
    have hO2:∀x,¬ hid x->(X0 B M L' S2).get x=h1'.get x:=fun x hx=>by
     rw[Wb];by_cases hr':B<=x/\x < M
     .have hb:r.vis.testBit (x - B)=true:=Classical.byContradiction fun hb=>hx ⟨hr',hb⟩
      rw[if_pos hr',if_pos (hLL _ (hvL _ hb)),f6,over_get,if_neg (fun hh=>by rw[hh.2.2]at hb;cases hb)]
     .rw [if_neg hr',f6,over_get,if_neg (fun hh=>hr' ⟨hh.1,hh.2.1⟩)]
    obtain⟨H2,T2⟩:=frame (V:=view B M r.vis S1) (O:=X0 B M L' S2) A.hr hid rfl hV1 hV2 Zh9 hh.hr hh.tr f4 (by show S2.wr<=S1.wr;rw[f5];exact Nat.min_le_left _ _) (by show S2.wr<=h1'.wr;rw[f5];exact Nat.min_le_right _ _) hO1 hO2;have Z8l:S1.next<=S2.next:=by rw[f4];exact hh.tr.next
    have hv:VR YG S2.next r.v v':=by rw[f4];exact hh.vr
    refine⟨k+1,S2,YG,w1,a.put o.dst v',⟨by rw[<- hrk];exact f2,Nat.le_trans Zc0 Z8l,by rw[f5];exact Nat.le_trans (Nat.min_le_left _ _) (Nat.le_trans A.low Z8l),fun c q hq hq3=>?_,H2,Z1b (fun x hx _=>hh.tr.sig x hx),Zru (fun x hx=>hh.tr.sig x hx.1) Z8l hv,A.tr.trans T2,Ze8 _,Zh7 _,Z1a⟩,s1⟩;by_cases e:c=i
    .subst e;rw[hr]at hq;cases hq;exact⟨fun _=>by omega,fun _=>hL'⟩
    .rw [hL c e,A.wr c q hq hq3];rcases Zg1 hw hq hr hq3 hk3 e with⟨h1,_⟩ | ⟨h1,_⟩
     .exact ⟨fun _=>by omega,fun _=>by omega⟩
     .exact ⟨fun _=>by omega,fun _=>by omega⟩
end
def unl (L:Nat->Bool):List Nat->Nat
 | []=>0
 |i::r=>(if L i=true then 0 else 1)+unl L r
theorem Zt3 {L L':Nat->Bool}(h:∀x,L x=true->L' x=true):∀r,unl L' r<=unl L r
 | []=>Nat.le_refl _
 |i::r=>by
  have:=Zt3 h r;simp only[unl];by_cases hi:L i=true
  .rw [if_pos hi,if_pos (h i hi)];omega
  .rw [if_neg hi];split<;>omega
theorem Zt2 {L L':Nat->Bool}(h:∀x,L x=true->L' x=true){i:Nat}(hi:L i=false)(hi':L' i=true):∀r,i∈r->unl L' r+1<=unl L r
 | [],hm=>by cases hm
 |j::r,hm=>by
  simp only[unl];by_cases e:j=i
  .subst e;have:=Zt3 h r;rw[if_pos hi',if_neg (by simp[hi])];omega
  .have:=Zt2 h hi hi' r (by
    cases hm with
    |head=>exact absurd rfl e
    |tail _ hm=>exact hm)
   by_cases hj:L j=true
   .rw [if_pos hj,if_pos (h j hj)];omega
   .rw [if_neg hj];split<;>omega
theorem Zt1 {L:Nat->Bool}:∀r,unl L r=0->∀i∈r,L i=true
 | [],_,i,hm=>by cases hm
 |j::r,h,i,hm=>by
  simp only[unl]at h
  have h1:L j=true:=by
   cases e:L j
   .rw [e]at h;simp at h
   .rfl
  cases hm with
  |head=>exact h1
  |tail _ hm=>exact Zt1 r (by rw[if_pos h1]at h;omega) i hm
theorem Z59 (L:Nat->Bool):∀r,unl L r<=r.length
 | []=>Nat.le_refl _
 |i::r=>by
  have:=Z59 L r;simp only[unl,List.length_cons];split<;>omega
section
variable {P:Program}{C:Ctx}{cf yf:Nat->List Value->VH->Option (Value×VH)}{B M:Nat}{ops:Array Oper}{st:DSt}{Uc:SL}{h0:VH}{YI:Nat->Blk}{w0:World}{a0:Act}{base:Nat}
theorem Zp4 (L:Nat->Bool):∀n,(∃i,i < n/\L i=false)->∃i,i < n/\L i=false/\∀j,j < i->L j=true
 | 0,⟨i,hi,_⟩=>by omega
 |n+1,⟨i,hi,hL⟩=>by
  by_cases h:∃i,i < n/\L i=false
  .obtain ⟨i,h1,h2,h3⟩:=Zp4 L n h;exact⟨i,by omega,h2,h3⟩
  .refine ⟨i,hi,hL,fun j hj=>?_⟩;cases e:L j
   .exact absurd ⟨j,by omega,e⟩ h
   .rfl
theorem Zuy (hC:COk C P)(hcf:Zbn C P cf)(hyf:YfSound C P yf)(hp:PInv C cf yf B M ops.toList (Region.before ops) h0 Uc ops.size st)(hM:M=B+ops.size)(hB:B=h0.next)(hG:C.G<=B)
  (hs:Sq ops.toList (Region.before ops)=true) (hw:Zbw (Region.before ops) st.recs.reverse.zipIdx=true) (hrd:Zhg C cf yf B M (Region.before ops) st.recs.reverse.zipIdx st.hs.reverse.zipIdx=true) (Rb:Zu3 a0.tmps.size ops)
  (b:Frame) (kk:List Item) (cs:List Frame):∀(fuel t:Nat) (listed:Array Bool) {k:Nat} {S:VH} {Y:Nat->Blk} {w:World} {a:Act},listed.size=ops.size->unl (fun i=>listed.getD i false) (List.range ops.size)<=fuel ->
  At C.G B M (Region.before ops) st Uc h0 YI w0 a0 base ops.size (fun i=>listed.getD i false) k S Y w a ->
  ∃(L:Nat->Bool) (k':Nat) (S':VH) (YC:Nat->Blk) (w':World) (a':Act),(∀i,i < ops.size->L i=true)/\At C.G B M (Region.before ops) st Uc h0 YI w0 a0 base ops.size L k' S' YC w' a' /\
   Steps P (lone (b.atR a (.inRegion ops (Region.linearise.go .any ops fuel t listed [])::kk)) cs w) (lone (b.atR a' (.inRegion ops []::kk)) cs w'):=by
 intro fuel
 induction fuel with
 |zero=>
  intro t listed k S Y w a hl hu A;exact⟨fun i=>listed.getD i false,k,S,Y,w,a,fun i hi=>Zt1 (List.range ops.size) (Nat.le_zero.1 hu) i (by simpa using hi),A,.refl P _⟩
 |succ fuel ih=>
  intro t listed k S Y w a hl hu A
  have hgo:Region.linearise.go .any ops (fuel+1) t listed []=(match (Region.ready .any ops listed)[t % (Region.ready .any ops listed).length]? with
   |some i=>Region.linearise.go .any ops fuel (t / (Region.ready .any ops listed).length) (listed.setIfInBounds i true) [i]
   |none=>[].reverse):=rfl
  rw[hgo];cases hi:(Region.ready .any ops listed)[t % (Region.ready .any ops listed).length]? with
  |none=>
   have Zgp:Region.ready .any ops listed=[]:=by
    cases hr:Region.ready .any ops listed with
    |nil=>rfl
    |cons x xs=>
     rw[hr]at hi;have hlt:t % (x::xs).length < (x::xs).length:=Nat.mod_lt _ (by simp);simp at hi;simp at hlt;omega
   refine⟨fun i=>listed.getD i false,k,S,Y,w,a,fun i Uv=>?_,A,.refl P _⟩;show listed.getD i false=true;cases e:listed.getD i false
   .exfalso;obtain⟨j,h1,h2,h3⟩:=Zp4 (fun i=>listed.getD i false) ops.size ⟨i,Uv,e⟩;have X6:ops[j]?=some ops[j]:=Array.getElem?_eq_getElem h1
    have:j∈Region.ready .any ops listed:=by
     rw[mem_ready];refine⟨?_,ops[j],X6,fun e' he hb=>h3 _ (Zma hs (by simp) he hb)⟩;have h2':listed.getD j false=false:=h2;rw[Array.getD_eq_getD_getElem?]at h2' ⊢;rw[Array.getElem?_eq_getElem (show j < listed.size by omega)]at h2' ⊢;simpa using h2'
    rw[Zgp]at this;cases this
   .rfl
  |some i=>
   have Sg:=List.mem_of_getElem? hi;rw[mem_ready]at Sg;obtain⟨m1,o,m2,m3⟩:=Sg;have Uv:i < ops.size:=(Array.getElem?_eq_some_iff.1 m2).1
   have hLi:listed.getD i false=false:=by
    rw[Array.getD_eq_getD_getElem?]at m1 ⊢;rw[Array.getElem?_eq_getElem (show i < listed.size by omega)]at m1 ⊢;simpa using m1
   have hL':(listed.setIfInBounds i true).getD i false=true:=by simp[show i < listed.size by omega]
   have hLne:∀x,x≠i->(listed.setIfInBounds i true).getD x false=listed.getD x false:=fun x hx=>getD_set_ne false (Ne.symm hx)
   have Zgm:∀j,((Region.before ops).getD i 0).testBit j=true->listed.getD j false=true:=fun j hj=>by
    obtain⟨o',g1,e,g2,g3,g4⟩:=Zky ops hj;rw[m2]at g1;cases g1;have:=m3 e g2 g3;rcases g4 with rfl | g4
    .exact this
    .exact A.down e.on this j g4
   obtain⟨k',S',YC,w',a',A',s1⟩:=A.more hC hcf hyf hp hM hB hG hs hw hrd Rb m2 hLi Zgm (L':=fun x=>(listed.setIfInBounds i true).getD x false) hL' hLne b (Region.linearise.go .any ops fuel (t / (Region.ready .any ops listed).length) (listed.setIfInBounds i true) []) kk cs
   have Zaqz:∀x,listed.getD x false=true->(listed.setIfInBounds i true).getD x false=true:=fun x hx=>by
    by_cases e:x=i
    .rw [e];exact hL'
    .rw [hLne x e];exact hx
   have hun:=Zt2 (L:=fun i=>listed.getD i false) (L':=fun x=>(listed.setIfInBounds i true).getD x false) Zaqz hLi hL' (List.range ops.size) (by simpa using Uv);obtain⟨L,k2,S2,YH,w2,a2,f1,A2,s2⟩:=ih (t / (Region.ready .any ops listed).length) (listed.setIfInBounds i true) (by simpa using hl) (by omega) A';refine⟨L,k2,S2,YH,w2,a2,f1,A2,?_⟩;dsimp only;rw[linearise_go_acc,List.reverse_singleton,List.singleton_append];exact s1.trans s2
theorem Z44 (hs:Sq ops.toList (Region.before ops)=true):∀(i j:Nat),((Region.before ops).getD i 0).testBit j=true->j < i:=by
 intro i
 induction i using Nat.strongRecOn with
 |ind i ih=>
  intro j hj;obtain⟨o,h1,e,h2,h3,h4⟩:=Zky ops hj;have hlt:=Zma hs (by simpa using h1) h2 h3;rcases h4 with rfl | h4
  .exact hlt
  .exact Nat.lt_trans (ih e.on hlt j h4) hlt
def Zbl:Blk:=⟨0,0,0,0,false,false⟩
theorem Zzl (hC:COk C P)(hmix:P.follows .mixedOrders=true):Zq1 C P:=by
 intro cf yf hcf hyf ops sl h Y6 h' hd t Y w base b a k cs H S Rb;unfold Zil at hd;dsimp only at hd;split at hd
 .cases hd
 .rename_i st Zag2;split at hd
  .cases hd
  .rename_i S1 r1 hhs;split at hd
   .rename_i Zek;rw[Bool.and_eq_true,Bool.and_eq_true,Bool.and_eq_true,Nat.ble_eq]at Zek;obtain⟨⟨⟨c1,c2⟩,c3⟩,c4⟩:=Zek;cases hd;have hlen:ops.toList.length=ops.size:=by simp
    rw[hlen]at Zag2 c4
    have hp0:PInv C cf yf h.next (h.next+ops.size) ops.toList (Region.before ops) h sl 0 {sl,recs:=[],hs:=[{h with next:=h.next+ops.size}],k:=0,made:=0}:=by
     refine⟨⟨{h with next:=h.next+ops.size},rfl,rfl,rfl,fun _ _=>rfl⟩,rfl,rfl,fun d v hv=>.inr ⟨fun j r hj=>by omega,hv⟩,fun j=>?_,fun j r hj=>?_,fun k S j hS h1 h2 _=>?_,fun k hk=>(by cases hk),fun c r hc=>?_⟩
     .simp [rcd]
     .simp [rcd]at hj
     .cases k with
      |zero=>
       simp[stg]at hS;subst hS;cases e:h.get j with
       |none=>rfl
       |some o=>have:=H.lt j o e;omega
      |succ k=>simp[stg]at hS
     .simp [rcd]at hc
    have hp:=PInv.pass ops.toList 0 hp0 rfl (by rw[hlen];exact Nat.le_refl _) (fun j hj=>by
     cases e:((Region.before ops).getD j 0).testBit j
     .rfl
     .have:=Z44 c2 j j e;omega) Zag2
    rw[hlen]at hp
    have Zajk:Region.schedule (P.follows .mixedOrders) ops t=Region.linearise.go .any ops ops.size t (Array.replicate ops.size false) []:=by
     simp only[Region.schedule,hmix,Bool.true_or,if_true];rfl
    rw[Zajk];obtain⟨S0,f1,f2,f3,f4⟩:=hp.first
    have Z8p:∀x o,(X0 h.next (h.next+ops.size) (fun i=>(Array.replicate ops.size false).getD i false) S0).get x=some o->h.get x=some o:=fun x o hx=>by
     rw[Wb]at hx;by_cases hr:h.next<=x/\x < h.next+ops.size
     .rw [if_pos hr]at hx;by_cases hh:x - h.next < ops.size
      .simp [hh]at hx
      .omega
     .rw [if_neg hr,f4 x hr]at hx;exact hx
    have Zdj:∀i,i < h.next->(fun j=>if j < h.next then Y j else Zbl) i=Y i:=fun i hi=>by simp[hi]
    have A0:At C.G h.next (h.next+ops.size) (Region.before ops) st sl h Y w a base ops.size (fun i=>(Array.replicate ops.size false).getD i false) 0 S0 (fun j=>if j < h.next then Y j else Zbl) w a:=by
     refine⟨f1,by omega,by omega,fun c r _ _=>?_,H.widen Zdj (by show h.next<=S0.next;omega) Z8p,fun j hj _=>?_,fun d v hv=>?_,?_,rfl,rfl,fun i hi=>?_⟩
     .constructor
      .intro hh;by_cases hc:c < ops.size<;>simp[hc]at hh
      .intro hh;omega
     .show (if h.next+j < h.next then Y (h.next+j) else Zbl).live=false;rw[if_neg (by omega)];rfl
     .rcases hv with⟨j,r,h1,_⟩ | ⟨_,h2⟩
      .by_cases hc:j < ops.size<;>simp[hc]at h1
      .obtain ⟨v',g1,g2⟩:=S d v h2;exact⟨v',g1,g2.mono Zdj (by omega)⟩
     .refine ⟨Zdj,by show h.next<=S0.next;omega,by show S0.wr<=h.wr;omega,fun i o hi ho hm=>⟨o,Z8p i o ho,hm⟩,fun i o hi ho hm=>?_,fun i hi hw=>?_,rfl,rfl,rfl,Nat.le_refl _,fun _ _ _=>rfl⟩
      .have:=H.lt i o (Z8p i o ho);omega
      .rw [Wb,if_neg (by omega)];exact f4 i (by omega)
     .by_cases hc:i < ops.size<;>simp[hc]at hi
    obtain⟨L,k',S',YC,w',a',g1,A',s1⟩:=Zuy hC hcf hyf hp rfl rfl (H.glob.1) c2 c3 c4 Rb b k cs ops.size t (Array.replicate ops.size false) (by simp) (by simpa using Z59 (fun i=>(Array.replicate ops.size false).getD i false) (List.range ops.size)) A0
    have hk:k'=st.k:=by
     have h1:=Zxx A'.stage;have h2:=hp.hlen;rcases Nat.lt_or_ge k' st.k with hlt | hge
     .obtain ⟨c,r,q1,q2,q3⟩:=hp.wk k' hlt;have:=(A'.wr c r q1 q2).1 (g1 c (Zcw hp.len q1));omega
     .omega
    have hS':S'=h':=by
     have h1:=Zt7 hhs;have h2:=hp.hlen;rw[hhs]at h2;simp only[List.length_cons]at h2;have h3:=A'.stage;rw[hk,show st.k=r1.length by omega,h1]at h3;exact (Option.some.inj h3).symm
    rw[hS']at A'
    have hre:X0 h.next (h.next+ops.size) L h'=h':=by
     have:(X0 h.next (h.next+ops.size) L h').get=h'.get:=by
      funext x;rw[Wb];by_cases hr:h.next<=x/\x < h.next+ops.size
      .rw [if_pos hr,if_pos (g1 _ (by omega))]
      .rw [if_neg hr]
     simp only[X0]at this ⊢;rw[this]
    have Hf:=A'.hr;have Tf:=A'.tr;rw[hre]at Hf Tf;refine⟨YC,w',a',s1,Hf,fun d v hv=>A'.sl d v ?_,Tf,A'.size,A'.dfr⟩;rcases hp.sl d v hv with⟨j,r,h1,h2,h3⟩ | ⟨h1,h2⟩
    .exact .inl ⟨j,r,g1 j h1,h2,h3⟩
    .exact .inr ⟨fun j r _ hr=>h1 j r (Zcw hp.len hr) hr,h2⟩
   .cases hd
end
structure Sound (C:Ctx)(P:Program):Prop where
 ok:COk C P
 code:∀f fn c,C.F f=some fn->fn.body=some c->X9 fn.ntmps c=true
 mix:P.follows .mixedOrders=true
theorem call_sound {C:Ctx}{P:Program}(hS:Sound C P)(n:Nat):Zbn C P (call C n):=
 Zkw hS.ok hS.code (Zzj hS.ok hS.code (Zzl hS.ok hS.mix) n true)
def VH.none:VH:={next:=0,get:=fun _=>Option.none,wr:=0}
theorem HR.none (w:World):HR 0 (fun _=>Zbl) VH.none w 0 where
 lt:=fun i o h=>by cases h
 glob:=⟨Nat.le_refl _,fun g hg=>by omega⟩
 base_:=Nat.zero_le _
 row:=fun i cs e own h=>by cases h
 map:=fun i es h=>by cases h
 loop:=fun i sl ps as bd h=>by cases h
 inj:=fun i j oi oj h=>by cases h
theorem Zzr {C:Ctx}{P:Program}(hS:Sound C P)(hG:C.G=0){n f:Nat}{args:List Value}{v:Value}{h':VH}(he:call C n f args VH.none=some (v,h'))(ha:args.all (flat 4)=true)(hv:flat 4 v=true):
  Enters P f/\∀w,Calls P f args.toArray w fun e w'=>e=.returned v/\Below w.heap.size w w':=by
 obtain⟨hen,hgo⟩:=call_sound hS n f args VH.none v h' he;refine⟨hen,fun w cs=>?_⟩;have H:HR C.G (fun _=>Zbl) VH.none w 0:=by rw[hG];exact HR.none w
 obtain⟨YC,w',v',fr,s,Qi,hl,hh⟩:=hgo (fun _=>Zbl) w 0 args.toArray H (VRs.of_flat 4 _ ha) cs;have hvv:v'=v:=hh.vr.eq_of_flat 4 hv;subst hvv;exact⟨.returned v',w',fr,⟨rfl,hh.tr.os,hh.tr.tape,hh.tr.output,hh.tr.size,fun b hb=>hh.tr.block b hb fun i o hi=>by cases hi⟩,s,Qi,hl⟩
theorem Sound.of {C:Ctx}{P:Program}(n:Nat)(hT:(List.range n).all (fun t=>match C.T t with | some ty=>tyB P t ty | none=>true)=true)(hTn:∀t,n<=t->C.T t=Option.none)(hF:∀f,C.F f=P.funcs[f]?)
  (hn : P.funcs.toList.all (fun fn => !(fn.name == "runtime.NumGoroutine")) = true) (hc : P.funcs.toList.all (fun fn => match fn.body with | some c => X9 fn.ntmps c | none => true) = true) (Ur : ∀ f a, C.ext f a = Option.none) (hmix : P.follows .mixedOrders = true) {cl : List Nat} (hcl : ∀ t, C.cmp t = cl.any (Nat.beq t)) (hcmp : cl.all (cmpB P) = true) : Sound C P := by
 have Sg:∀f fn,C.F f=some fn->P.funcs[f]?=some fn/\fn∈P.funcs.toList:=fun f fn h=>by
  rw[hF]at h;exact⟨h,Array.mem_toList_iff.2 (Array.mem_of_getElem? h)⟩
 refine⟨⟨⟨fun t ty ht=>?_,fun t ht=>?_⟩,fun f fn h=>?_,fun f a v h=>by rw[Ur]at h;cases h⟩,fun f fn c h hb=>?_,hmix⟩
 .rcases Nat.lt_or_ge t n with hlt | hge
  .have:=List.all_eq_true.1 hT t (by simpa using hlt);rw[ht]at this;exact TyOk.of this
  .rw [hTn t hge]at ht;cases ht
 .rw [hcl,List.any_eq_true]at ht;obtain⟨u,hu,e⟩:=ht;rw[Nat.eq_of_beq_eq_true e];exact List.all_eq_true.1 hcmp u hu
 .obtain ⟨h1,h2⟩:=Sg f fn h;have:=List.all_eq_true.1 hn fn h2;exact⟨h1,by simpa using this⟩
 .obtain ⟨_,h2⟩:=Sg f fn h;have:=List.all_eq_true.1 hc fn h2;rw[hb]at this;exact this
theorem Sound.more {C:Ctx}{P:Program}(hS:Sound C P)(e:Nat->List Value->Option Value)
  (he:∀f args v,e f args=some v->Enters P f/\args.all (flat 4)=true/\flat 4 v=true/\∀w,Calls P f args.toArray w fun e w'=>e=.returned v/\Below w.heap.size w w'):Sound {C with ext:=e} P:=
 ⟨⟨⟨hS.ok.T.ty,hS.ok.T.cmp⟩,hS.ok.F,he⟩,hS.code,hS.mix⟩
end Go.Virt
end
section
namespace Go.Virt
open Go
def Vx (h h':VH):Prop:=h.next<=h'.next/\h'.wr<=h.wr/\∀q,q < h.next->q < h'.wr->h'.get q=h.get q
theorem Vx.refl (h:VH):Vx h h:=⟨Nat.le_refl _,Nat.le_refl _,fun _ _ _=>rfl⟩
theorem Vx.trans {a b c:VH}(h:Vx a b)(k:Vx b c):Vx a c:=⟨Nat.le_trans h.1 k.1,Nat.le_trans k.2.1 h.2.1,fun q h1 h2=>(k.2.2 q (Nat.lt_of_lt_of_le h1 h.1) h2).trans (h.2.2 q h1 (Nat.lt_of_lt_of_le h2 k.2.1))⟩
theorem nbq {a b:Nat}(h:a≠b):Nat.beq a b=false:=by
 cases e:Nat.beq a b
 .rfl
 .exact absurd (Nat.eq_of_beq_eq_true e) h
theorem Vx.new (h:VH)(o:VO):Vx h (h.new o):=⟨Nat.le_succ _,Nat.le_refl _,fun q h1 _=>by simp[VH.new,nbq (show q≠h.next by omega)]⟩
theorem Vx.put (h:VH)(i:Nat)(o:Option VO):Vx h ((h.put i o).note i):=⟨Nat.le_refl _,Nat.min_le_left _ _,fun q _ h2=>by
 have:q < i:=Nat.lt_of_lt_of_le h2 (Nat.min_le_right _ _);simp[VH.note,VH.put,nbq (show q≠i by omega)]⟩
theorem Vx.store {h h':VH}{a:Addr}{vs:List Value}(he:h.store a vs=some h'):Vx h h':=by
 unfold VH.store at he;split at he
 .split at he
  .split at he
   .cases he;exact Vx.put _ _ _
   .cases he
  .cases he
 .cases he
theorem Vx.append {h:VH}{ty:Ty}{s x:Value}{r:Value×VH}(he:Us h ty s x=some r):Vx h r.2:=by
 unfold Us at he;split at he
 .split at he
  .split at he
   .split at he<;>cases he
    .exact .refl _
    .exact .new _ _
   .split at he
    .split at he
     .cases he;exact (Vx.put _ _ _).trans (Vx.new _ _)
     .cases he
    .cases he
  .cases he
 .cases he
theorem Vx.appends {h:VH}{ty tx:Ty}{s x:Value}{r:Value×VH}(he:U7 h ty tx s x=some r):Vx h r.2:=by
 unfold U7 at he;split at he
 .split at he
  .split at he
   .split at he<;>cases he
    .exact .refl _
    .exact .new _ _
   .cases he
  .cases he
 .split at he
  .split at he
   .exact Vx.append he
   .cases he
  .exact Vx.append he
def Za7 (cf:Nat->List Value->VH->Option (Value×VH)):Prop:=∀f args h r,cf f args h=some r->Vx h r.2
section
variable {C:Ctx}{cf yf:Nat->List Value->VH->Option (Value×VH)}
theorem Vx.call (hc:Za7 cf)(hy:Za7 yf){sl:SL}{h:VH}{c:Call}{r:Value×VH}(he:U6 C cf yf sl h c=some r):Vx h r.2:=by
 unfold U6 at he;split at he
 .cases he
 .rename_i args Xt;cases Ws:c.callee with
  |invoke a b=>simp only[Ws]at he;cases he
  |value f=>
   simp only[Ws]at he;split at he
   .exact hc _ _ _ _ he
   .exact hy _ _ _ _ he
   .cases he
  |builtin b=>
   simp only[Ws]at he;split at he
   .split at he
    .split at he<;>first
      | (cases he;exact .refl _)
      | (split at he<;>first | (cases he;exact .refl _) | cases he)
      |cases he
    .cases he
   .split at he
    .split at he<;>first | (cases he;exact .refl _) | cases he
    .cases he
   .cases he;exact .refl _
   .cases he;exact .refl _
   .split at he
    .split at he
     .split at he
      .exact Vx.appends he
      .cases he
     .cases he
    .cases he
   .split at he
    .split at he
     .split at he
      .split at he
       .rw [Option.map_eq_some_iff]at he;obtain⟨es,_,rfl⟩:=he;exact Vx.put _ _ _
       .cases he
      .cases he
     .cases he
    .cases he
   .cases he
theorem Vx.mapRefl {α:Type}{x:Option α}{f:α->Value}{h:VH}{r:Value×VH}(he:x.map (fun a=>(f a,h))=some r):Vx h r.2:=by
 rw[Option.map_eq_some_iff]at he;obtain⟨a,_,rfl⟩:=he;exact .refl _
theorem Vx.op (hc:Za7 cf)(hy:Za7 yf){sl:SL}{h:VH}{o:Oper}{r:Value×VH}(he:Xn C cf yf sl h o=some r):Vx h r.2:=by
 cases X6:o.op with
 |call c=>simp only[Xn,X6]at he;exact Vx.call hc hy he
 |store t a x=>
  simp only[Xn,X6]at he;split at he
  .split at he
   .cases he
   .split at he
    .rw [Option.map_eq_some_iff]at he;obtain⟨h',h1,rfl⟩:=he;exact Vx.store h1
    .cases he
  .cases he
 |alloc t=>
  simp only[Xn,X6]at he;split at he<;>cases he;exact .new _ _
 |box t x=>
  simp only[Xn,X6]at he;split at he
  .split at he<;>cases he;exact .new _ _
  .cases he
 |makeMap t m=>
  cases m with
  |none=>simp only[Xn,X6]at he;cases he;exact .new _ _
  |some m=>simp[Xn,X6]at he
 |makeSlice t l c=>
  simp only[Xn,X6]at he;split at he
  .split at he
   .split at he
    .split at he
     .split at he<;>cases he;exact .new _ _
     .cases he
    .cases he
   .cases he
  .cases he
 |buildSlice t l ps=>
  simp only[Xn,X6]at he;split at he
  .split at he
   .split at he
    .split at he
     .rw [Option.map_eq_some_iff]at he;obtain⟨cs,_,rfl⟩:=he;exact .new _ _
     .cases he
    .cases he
   .cases he
  .cases he
 |convert s d x=>
  simp only[Xn,X6]at he;split at he
  .split at he
   .cases he;exact .refl _
   .cases he;exact .refl _
   .split at he
    .split at he
     .split at he<;>cases he;exact .new _ _
     .cases he
    .cases he
   .split at he
    .split at he
     .split at he
      .exact Vx.mapRefl he
      .cases he
     .cases he
    .cases he
   .cases he
  .cases he
 |mapUpdate t m k x=>
  simp only[Xn,X6]at he;split at he
  .split at he
   .split at he
    .split at he
     .rw [Option.map_eq_some_iff]at he;obtain⟨es,_,rfl⟩:=he;exact Vx.put _ _ _
     .cases he
    .cases he
   .cases he
  .cases he
 |insert t m k x=>
  simp only[Xn,X6]at he;split at he
  .split at he
   .split at he
    .split at he
     .rw [Option.map_eq_some_iff]at he;obtain⟨es,_,rfl⟩:=he;exact Vx.put _ _ _
     .cases he
    .cases he
   .cases he
  .cases he
 |slice t x lo hi mx=>
  cases mx with
  |some m=>simp[Xn,X6]at he
  |none=>
   simp only[Xn,X6]at he;split at he
   .split at he
    .split at he
     .exact Vx.mapRefl he
     .split at he<;>cases he;exact .refl _
     .split at he
      .split at he<;>cases he;exact .refl _
      .cases he
     .cases he
    .cases he
   .cases he
 |move x=>simp only[Xn,X6]at he;exact Vx.mapRefl he
 |assign x=>simp only[Xn,X6]at he;exact Vx.mapRefl he
 |pick c a b=>simp only[Xn,X6]at he;split at he<;>first | exact Vx.mapRefl he | cases he
 |build t ps=>
  simp only[Xn,X6]at he;split at he
  .split at he
   .split at he
    .exact Vx.mapRefl he
    .cases he
   .split at he
    .exact Vx.mapRefl he
    .cases he
   .cases he
  .cases he
 |load t a=>
  simp only[Xn,X6]at he;split at he
  .split at he
   .cases he
   .exact Vx.mapRefl he
  .cases he
 |nilCheck x=>
  simp only[Xn,X6]at he;split at he
  .cases he;exact .refl _
  .split at he<;>cases he;exact .refl _
  .cases he
 |binOp op t x y t2=>
  simp only[Xn,X6]at he;split at he
  .exact Vx.mapRefl he
  .cases he
 |unOp op t x=>simp only[Xn,X6]at he;exact Vx.mapRefl he
 |makeInterface t x=>
  simp only[Xn,X6]at he;split at he
  .split at he
   .cases he
   .exact Vx.mapRefl he
  .cases he
 |makeFunc f a b=>
  simp only[Xn,X6]at he;split at he
  .cases he;exact .refl _
  .cases he
 |fieldAddr t x f=>
  simp only[Xn,X6]at he;split at he
  .split at he
   .split at he
    .split at he
     .split at he<;>cases he;exact .refl _
     .cases he
    .cases he
   .cases he
  .cases he
 |field t x f=>
  simp only[Xn,X6]at he;split at he
  .split at he
   .split at he
    .split at he
     .exact Vx.mapRefl he
     .cases he
    .cases he
   .cases he
  .cases he
 |indexAddr t x i=>
  simp only[Xn,X6]at he;split at he
  .split at he
   .split at he
    .split at he
     .split at he<;>cases he;exact .refl _
     .cases he
    .cases he
   .split at he
    .split at he
     .split at he<;>cases he;exact .refl _
     .cases he
    .cases he
   .cases he
  .cases he
 |index t x i=>
  simp only[Xn,X6]at he;split at he
  .split at he
   .split at he
    .split at he
     .exact Vx.mapRefl he
     .cases he
    .cases he
   .split at he
    .exact Vx.mapRefl he
    .cases he
   .cases he
  .cases he
 |lookup t x i ok=>
  simp only[Xn,X6]at he;split at he
  .split at he
   .split at he
    .split at he
     .split at he
      .cases he
      .split at he
       .cases he;exact .refl _
       .exact Vx.mapRefl he
       .cases he
     .cases he
    .cases he
   .cases he
  .cases he
 |extract t i=>
  simp only[Xn,X6]at he;split at he
  .exact Vx.mapRefl he
  .cases he
 | _=>simp[Xn,X6]at he
theorem Vx.ops (hc:Za7 cf)(hy:Za7 yf){all:List Oper}:∀ {l:List Oper} {sl:SL} {h:VH} {r:SL×VH},Zhm C cf yf all l sl h=some r->Vx h r.2
 | [],sl,h,r,he=>by simp only[Zhm,Option.some.injEq]at he;subst he;exact .refl _
 |o::l,sl,h,r,he=>by
  simp only[Zhm]at he;split at he
  .split at he
   .rename_i v h1 ho;exact (Vx.op hc hy ho).trans (Vx.ops hc hy he)
   .cases he
  .exact Vx.ops hc hy he
  .cases he
theorem Vx.step (hc:Za7 cf)(hy:Za7 yf){h0:VH}{M:Nat}(hM:h0.next<=M){all:List Oper}{masks:Array Nat}{o:Oper}{i:Nat}{st st':DSt}(hI:∀S∈st.hs,Vx h0 S)(he:Zda C cf yf h0.next M all masks o i st=some st'):∀S∈st'.hs,Vx h0 S:=by
 unfold Zda at he
 try dsimp only at he
 split at he
 .cases he
 .cases he;exact hI
 .split at he
  .cases he;intro S hS;obtain⟨T,hT,rfl⟩:=List.mem_map.1 hS;obtain⟨a,b,c⟩:=hI T hT;refine⟨a,b,fun q h1 h2=>?_⟩;simp only[VH.put,nbq (show q≠h0.next+i by omega),cond_false];exact c q h1 h2
  .split at he
   .cases he
   .rename_i S r hhs;split at he
    .cases he
    .rename_i v h' ho;split at he
     .cases he;exact hI
     .cases he;intro T hT;rcases List.mem_cons.1 hT with rfl | hT
      .obtain ⟨a,b,c⟩:=hI S (by rw[hhs];simp);obtain⟨a1,b1,c1⟩:=Vx.op hc hy ho;refine⟨Nat.le_trans a a1,Nat.le_trans (Nat.min_le_left _ _) b,fun q h1 h2=>?_⟩
       have hq:Nat.ble h0.next q=false:=by
        cases e:Nat.ble h0.next q
        .rfl
        .rw [Nat.ble_eq]at e;omega
       have h3:q < h'.wr:=Nat.lt_of_lt_of_le h2 (Nat.min_le_right _ _);have h4:q < S.wr:=Nat.lt_of_lt_of_le h2 (Nat.min_le_left _ _);have h5:=c1 q (Nat.lt_of_lt_of_le h1 a) h3;simp only[over,hq,Bool.false_and,cond_false];rw[h5];simp only[view,X0,hq,Bool.false_and,cond_false];exact c q h1 h4
      .exact hI T (by rw[hhs];exact hT)
theorem Vx.pass (hc:Za7 cf)(hy:Za7 yf){h0:VH}{M:Nat}(hM:h0.next<=M){all:List Oper}{masks:Array Nat}:∀ {l:List Oper} {i:Nat} {st st':DSt},(∀S∈st.hs,Vx h0 S)->Zb3 C cf yf h0.next M all masks l i st=some st'->∀S∈st'.hs,Vx h0 S
 | [],i,st,st',hI,he=>by simp only[Zb3,Option.some.injEq]at he;subst he;exact hI
 |o::l,i,st,st',hI,he=>by
  simp only[Zb3]at he;split at he
  .rename_i s hs;exact Vx.pass hc hy hM (Vx.step hc hy hM hI hs) he
  .cases he
theorem Vx.draw (hc:Za7 cf)(hy:Za7 yf){ops:Array Oper}{sl:SL}{h:VH}{r:SL×VH}(he:Zil C cf yf ops sl h=some r):Vx h r.2:=by
 unfold Zil at he
 try dsimp only at he
 split at he
 .cases he
 .rename_i st hp
  have:=Vx.pass hc hy (Nat.le_add_right _ _) (fun S hS=>by
   simp only[List.mem_singleton]at hS;subst hS;exact⟨Nat.le_add_right _ _,Nat.le_refl _,fun _ _ _=>rfl⟩) hp
  split at he
  .cases he
  .rename_i S r' hhs;split at he
   .cases he;exact this S (by rw[hhs];simp)
   .cases he
theorem Vx.callF {ex:Code->SL->VH->Option (Ex×SL×VH)}(hex:∀c sl h x Y6 h',ex c sl h=some (x,Y6,h')->Vx h h'):Za7 (Virt.callF C ex):=by
 intro f args h r he;unfold Virt.callF at he;split at he
 .cases he;exact .refl _
 .split at he
  .cases he
  .split at he
   .cases he
   .have key:∀(raw:Bool) (v:Value) (h':VH),Vx {h with wr:=h.next} h'->Vx h (settle raw h v h').2:=by
     intro raw v h' hf;unfold settle;split
     .exact .refl _
     .exact ⟨hf.1,Nat.min_le_left _ _,fun q h1 h2=>hf.2.2 q h1 (Nat.lt_of_lt_of_le h2 (Nat.min_le_right _ _))⟩
    split at he
    .rename_i Y6 h' hx;rw[Option.map_eq_some_iff]at he;obtain⟨vs,_,rfl⟩:=he;exact key _ _ _ (hex _ _ _ _ _ _ hx)
    .rename_i Y6 h' hx;rw[Option.map_eq_some_iff]at he;obtain⟨vs,_,rfl⟩:=he;exact key _ _ _ (hex _ _ _ _ _ _ hx)
    .cases he
theorem Vx.yieldF {ex:Code->SL->VH->Option (Ex×SL×VH)}(hex:∀c sl h x Y6 h',ex c sl h=some (x,Y6,h')->Vx h h'):Za7 (Virt.yieldF ex):=by
 intro l args h r he;unfold Virt.yieldF at he;split at he
 .rename_i Uc ps as bd hl;split at he
  .split at he
   .rename_i Qr h1 hx;split at he
    .rename_i sl2 h2 hx2;cases he;have hf:=(hex _ _ _ _ _ _ hx).trans (hex _ _ _ _ _ _ hx2);refine⟨hf.1,hf.2.1,fun q k1 k2=>?_⟩;by_cases e:q=l
     .subst e;simp[VH.put,hl]
     .have:=hf.2.2 q k1 k2;simp only[VH.put,nbq e,cond_false]at this ⊢;exact this
    .cases he
   .cases he
  .cases he
 .cases he
end
theorem Vx.exec {C:Ctx}:∀(n:Nat) (Xs:Bool) (code:Code) (sl:SL) (h:VH) (x:Ex) (Y6:SL) (h':VH),Virt.exec C n Xs code sl h=some (x,Y6,h')->Vx h h':=by
 intro n
 induction n with
 |zero=>intro Xs code sl h x Y6 h' he;simp[Virt.exec]at he
 |succ n ih=>
  intro Xs code sl h x Y6 h' he;have hc:Za7 (Virt.callF C (Virt.exec C n true)):=Vx.callF (ih true);have hy:Za7 (Virt.yieldF (Virt.exec C n false)):=Vx.yieldF (ih false);cases code with
  |region id ops draw=>
   rw[Virt.exec]at he
   try dsimp only at he
   rw[Option.map_eq_some_iff]at he;obtain⟨⟨a,b⟩,hx,e⟩:=he;simp only[Prod.mk.injEq]at e;obtain⟨_,_,rfl⟩:=e;cases draw with
   |true=>simp only[if_true]at hx;exact Vx.draw hc hy hx
   |false=>simp only[Bool.false_eq_true,if_false]at hx;exact Vx.ops hc hy hx
  |seq a b=>
   rw[Virt.exec]at he
   try dsimp only at he
   split at he
   .rename_i Qr h1 hx;exact (ih _ _ _ _ _ _ _ hx).trans (ih _ _ _ _ _ _ _ he)
   .exact ih _ _ _ _ _ _ _ he
  |cond c a b=>
   rw[Virt.exec]at he
   try dsimp only at he
   split at he
   .exact ih _ _ _ _ _ _ _ he
   .exact ih _ _ _ _ _ _ _ he
   .cases he
  |block id b=>
   rw[Virt.exec]at he
   try dsimp only at he
   split at he
   .rename_i id' Qr h1 hx;have:=ih _ _ _ _ _ _ _ hx;split at he<;>cases he<;>exact this
   .exact ih _ _ _ _ _ _ _ he
  |loop b=>
   rw[Virt.exec]at he
   try dsimp only at he
   split at he
   .rename_i Qr h1 hx;exact (ih _ _ _ _ _ _ _ hx).trans (ih _ _ _ _ _ _ _ he)
   .exact ih _ _ _ _ _ _ _ he
  |rangeFunc f ps as bd=>
   rw[Virt.exec]at he
   try dsimp only at he
   split at he
   .split at he
    .split at he
     .rename_i u h2 hx;split at he
      .cases he;obtain⟨a,b,c⟩:=(Vx.new h _).trans (hc _ _ _ _ hx);refine⟨a,b,fun q h1 h2=>?_⟩;simp only[VH.put,nbq (show q≠h.next by omega),cond_false];exact c q h1 h2
      .cases he
     .cases he
    .cases he
   .cases he
  |skip=>simp only[Virt.exec,Option.some.injEq,Prod.mk.injEq]at he;rw[he.2.2];exact .refl _
  |exit id=>simp only[Virt.exec,Option.some.injEq,Prod.mk.injEq]at he;rw[he.2.2];exact .refl _
  |ret=>simp only[Virt.exec,Option.some.injEq,Prod.mk.injEq]at he;rw[he.2.2];exact .refl _
  | _=>simp[Virt.exec]at he
end Go.Virt
end
